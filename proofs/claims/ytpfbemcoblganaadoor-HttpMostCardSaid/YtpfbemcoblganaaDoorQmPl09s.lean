/-
  Requests that are laid line by line: what is parsed of them; escaped texts.
-/
import Derived.Test.YtpfbemcoblganaaDoorQmPl09p
import Derived.Test.YtpfbemcoblganaaDoorQmPl09q
import Derived.Test.YtpfbemcoblganaaDoorQmPall13
namespace Go.Proofs.YtpfbemcoblganaaDoor.Pl
open Go.RowKit Go.Proofs.YtpfbemcoblganaaDoor.Pall Go.Proofs.YtpfbemcoblganaaDoorW.PrintWords Go.Proofs.YtpfbemcoblganaaDoorW.PrintLast
set_option linter.unusedVariables false
set_option linter.unusedSimpArgs false
theorem parse_req (L0 : List UInt8) (ls : List (List UInt8)) (body : List UInt8) (h : (L0 :: ls).all lineOk = true) : parseQ (numsL (joinL (L0 :: ls) ++ 13 :: 10 :: body)) = parseL (mkB L0 :: ls.map mkB) (numsL body) := by
  unfold parseQ
  rw [numsL_str, mkB_list, linesS_join _ _ h]
  simp only [if_true, List.map_cons]
  congr 1
  rw [numsL_len]
  have e : (joinL (L0 :: ls) ++ 13 :: 10 :: body).length - body.length = (joinL (L0 :: ls) ++ [13, 10]).length := by
    rw [List.length_append, List.length_append, List.length_cons, List.length_cons]; simp only [List.length_cons, List.length_nil]; omega
  rw [e]
  have e2 : joinL (L0 :: ls) ++ 13 :: 10 :: body = (joinL (L0 :: ls) ++ [13, 10]) ++ body := by simp
  rw [e2]
  unfold numsL
  rw [List.map_append, List.drop_left' (by rw [List.length_map])]
theorem vis_val (c : UInt8) (h : pthB c = true) : valB c = true ∧ blk c = false ∧ (c != 13) = true := by
  have := u8_all (fun c => !pthB c || (valB c && !blk c && (c != 13))) (by decide +kernel) c
  rw [h] at this
  simp only [Bool.not_true, Bool.false_or, Bool.and_eq_true, Bool.not_eq_true'] at this
  exact ⟨this.1.1, this.1.2, this.2⟩
theorem tok_58 (c : UInt8) (h : tokB c = true) : c ≠ 58 := by
  have := u8_all (fun c => !tokB c || (c != 58)) (by decide +kernel) c
  rw [h] at this; simpa using this
theorem field_vis (nm E : List UInt8) (hn : tokL nm = true) (hE : E.all pthB = true) (hz : nm.length + 2 + E.length ≤ 2000) : fieldS (mkB (nm ++ 58 :: 32 :: E)) = (mkB nm, mkB E, 0) := by
  have hall : ∀ c ∈ nm, c ≠ 58 := fun c hc => tok_58 c (by unfold tokL at hn; rw [Bool.and_eq_true] at hn; exact List.all_eq_true.1 hn.1 c hc)
  have hlen : (nm ++ 58 :: 32 :: E).length = nm.length + 2 + E.length := by rw [List.length_append, List.length_cons, List.length_cons]; omega
  have hp : pos (nm ++ 58 :: 32 :: E) 58 = nm.length := pos_eq (by omega) (by rw [List.getD, List.getElem?_append_right (Nat.le_refl _), Nat.sub_self]; rfl) (fun j hj => by
    rw [List.getD, List.getElem?_append_left hj, List.getElem?_eq_getElem hj]
    exact hall _ (List.getElem_mem hj))
  have hv : valL E = true := valL_of (all_imp hE (fun c h => (vis_val c h).1)) (fun a ha => (vis_val a (List.all_eq_true.1 hE a (List.mem_of_mem_head? ha))).2.1) (fun a ha => (vis_val a (List.all_eq_true.1 hE a (List.mem_of_mem_getLast? ha))).2.1)
  have ht : trimL (32 :: E) = E := by
    rw [trimL_cons (by decide)]
    exact trimL_same (fun a ha => (vis_val a (List.all_eq_true.1 hE a (List.mem_of_mem_head? ha))).2.1) (fun a ha => (vis_val a (List.all_eq_true.1 hE a (List.mem_of_mem_getLast? ha))).2.1)
  unfold fieldS
  rw [mkB_size, mkB_list, hp, hlen, if_neg (by omega), if_neg (by omega), List.take_left, List.drop_append, List.drop_of_length_le (by omega), show nm.length + 1 - nm.length = 1 by omega]
  show (if (tokL nm && valL (trimL (32 :: E))) = true then (mkB nm, mkB (trimL (32 :: E)), (0 : Int)) else _) = _
  rw [ht, hn, hv]; rfl
theorem allS_app (a b : List S43) (n : ByteArray) : allS (a ++ b) n = allS a n ++ allS b n := by
  unfold allS; rw [List.filter_append, List.map_append]
theorem allS_rep (m : Nat) (p : S43) (n : ByteArray) (h : sameS p.f0 n = false) : allS (List.replicate m p) n = [] := by
  unfold allS
  rw [List.filter_replicate, h]; rfl
theorem bodyE_same (a b : List S43) (n : Nat) (h1 : allS a hostB = allS b hostB) (h2 : allS a teB = allS b teB) (h3 : allS a clB = allS b clB) : bodyE a n = bodyE b n := by
  unfold bodyE; rw [h1, h2, h3]
theorem fldsE_ok {l : List ByteArray} (h : ∀ x ∈ l, (fieldS x).2.2 = 0) : fldsE l = 0 := by
  induction l with
  | nil => rfl
  | cons x l ih =>
    unfold fldsE
    rw [if_pos (h x (by simp))]
    exact ih (fun y hy => h y (List.mem_cons_of_mem _ hy))
end Go.Proofs.YtpfbemcoblganaaDoor.Pl

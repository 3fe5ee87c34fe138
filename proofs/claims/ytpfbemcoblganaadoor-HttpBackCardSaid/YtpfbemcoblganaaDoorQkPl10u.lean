/-
Requests that are laid line by line: what is parsed of them; escaped texts.
What was printed is parsed as it was; cut off, or with more behind, it is none.
-/
import Derived.Test.YtpfbemcoblganaaDoorQkPl09q
import Derived.Test.YtpfbemcoblganaaDoorQkPall13
import Derived.Test.YtpfbemcoblganaaDoorQkHttpA
section
namespace Go.Proofs.YtpfbemcoblganaaDoor.Pl
open Go.RowKit Go.Proofs.YtpfbemcoblganaaDoor.Pall Go.Proofs.YtpfbemcoblganaaDoorW.PrintWords Go.Proofs.YtpfbemcoblganaaDoorW.PrintLast
set_option linter.unusedVariables false
set_option linter.unusedSimpArgs false
theorem parse_req (L0 : List UInt8) (ls : List (List UInt8)) (body : List UInt8) (h : (L0 :: ls).all lineOk = true) : parseQ (numsL (joinL (L0 :: ls) ++ 13 :: 10 :: body)) = parseL (mkB L0 :: ls.map mkB) (numsL body) := by
  unfold parseQ
  rw [numsL_str, mkB_list, linesS_join _ _ h]
  simp only [if_true, List.map_cons]
  congr 1
  rw [numsL_len]
  have e : (joinL (L0 :: ls) ++ 13 :: 10 :: body).length - body.length = (joinL (L0 :: ls) ++ [13, 10]).length := by
    rw [List.length_append, List.length_append, List.length_cons, List.length_cons]; simp only [List.length_cons, List.length_nil]; omega
  rw [e]
  have e2 : joinL (L0 :: ls) ++ 13 :: 10 :: body = (joinL (L0 :: ls) ++ [13, 10]) ++ body := by simp
  rw [e2]
  unfold numsL
  rw [List.map_append, List.drop_left' (by rw [List.length_map])]
theorem vis_val (c : UInt8) (h : pthB c = true) : valB c = true ∧ blk c = false ∧ (c != 13) = true := by
  have := u8_all (fun c => !pthB c || (valB c && !blk c && (c != 13))) (by decide +kernel) c
  rw [h] at this
  simp only [Bool.not_true, Bool.false_or, Bool.and_eq_true, Bool.not_eq_true'] at this
  exact ⟨this.1.1, this.1.2, this.2⟩
theorem tok_58 (c : UInt8) (h : tokB c = true) : c ≠ 58 := by
  have := u8_all (fun c => !tokB c || (c != 58)) (by decide +kernel) c
  rw [h] at this; simpa using this
theorem field_vis (nm E : List UInt8) (hn : tokL nm = true) (hE : E.all pthB = true) (hz : nm.length + 2 + E.length ≤ 2000) : fieldS (mkB (nm ++ 58 :: 32 :: E)) = (mkB nm, mkB E, 0) := by
  have hall : ∀ c ∈ nm, c ≠ 58 := fun c hc => tok_58 c (by unfold tokL at hn; rw [Bool.and_eq_true] at hn; exact List.all_eq_true.1 hn.1 c hc)
  have hlen : (nm ++ 58 :: 32 :: E).length = nm.length + 2 + E.length := by rw [List.length_append, List.length_cons, List.length_cons]; omega
  have hp : pos (nm ++ 58 :: 32 :: E) 58 = nm.length := pos_eq (by omega) (by rw [List.getD, List.getElem?_append_right (Nat.le_refl _), Nat.sub_self]; rfl) (fun j hj => by
    rw [List.getD, List.getElem?_append_left hj, List.getElem?_eq_getElem hj]
    exact hall _ (List.getElem_mem hj))
  have hv : valL E = true := valL_of (all_imp hE (fun c h => (vis_val c h).1)) (fun a ha => (vis_val a (List.all_eq_true.1 hE a (List.mem_of_mem_head? ha))).2.1) (fun a ha => (vis_val a (List.all_eq_true.1 hE a (List.mem_of_mem_getLast? ha))).2.1)
  have ht : trimL (32 :: E) = E := by
    rw [trimL_cons (by decide)]
    exact trimL_same (fun a ha => (vis_val a (List.all_eq_true.1 hE a (List.mem_of_mem_head? ha))).2.1) (fun a ha => (vis_val a (List.all_eq_true.1 hE a (List.mem_of_mem_getLast? ha))).2.1)
  unfold fieldS
  rw [mkB_size, mkB_list, hp, hlen, if_neg (by omega), if_neg (by omega), List.take_left, List.drop_append, List.drop_of_length_le (by omega), show nm.length + 1 - nm.length = 1 by omega]
  show (if (tokL nm && valL (trimL (32 :: E))) = true then (mkB nm, mkB (trimL (32 :: E)), (0 : Int)) else _) = _
  rw [ht, hn, hv]; rfl
theorem allS_app (a b : List S43) (n : ByteArray) : allS (a ++ b) n = allS a n ++ allS b n := by
  unfold allS; rw [List.filter_append, List.map_append]
theorem fldsE_ok {l : List ByteArray} (h : ∀ x ∈ l, (fieldS x).2.2 = 0) : fldsE l = 0 := by
  induction l with
  | nil => rfl
  | cons x l ih =>
    unfold fldsE
    rw [if_pos (h x (by simp))]
    exact ih (fun y hy => h y (List.mem_cons_of_mem _ hy))
end Go.Proofs.YtpfbemcoblganaaDoor.Pl
end
section
namespace Go.Proofs.YtpfbemcoblganaaDoor.Pl
open Go.RowKit Go.Proofs.YtpfbemcoblganaaDoor.Pall Go.Proofs.YtpfbemcoblganaaDoorW.PrintWords Go.Proofs.YtpfbemcoblganaaDoorW.PrintLast
set_option linter.unusedVariables false
set_option linter.unusedSimpArgs false
/-- lines that are cut off have no end -/
theorem linesK_cut : ∀ (ls : List (List UInt8)) (m k : Nat) (out : List ByteArray), ls.all lineOk = true → m < (joinL ls ++ [13, 10]).length → m < k → linesK k ((joinL ls ++ [13, 10]).take m) out = ([], 0, false)
  | [], m, k, out, _, hm, hk => by
    obtain ⟨q, rfl⟩ : ∃ q, k = q + 1 := ⟨k - 1, by omega⟩
    have hm : m < 2 := hm
    rcases (show m = 0 ∨ m = 1 by omega) with rfl | rfl <;> exact linesK_no q out rfl
  | l :: ls, m, k, out, h, hm, hk => by
    rw [List.all_cons, Bool.and_eq_true] at h
    have h1 := h.1
    unfold lineOk at h1
    rw [Bool.and_eq_true] at h1
    have hl : l ≠ [] := by intro e; rw [e] at h1; simp at h1
    obtain ⟨q, rfl⟩ : ∃ q, k = q + 1 := ⟨k - 1, by omega⟩
    rw [joinL_cons] at hm ⊢
    by_cases hs : m ≤ l.length + 1
    · refine linesK_no q out ?_
      have hno : ∀ j, crlf ((l ++ 13 :: 10 :: (joinL ls ++ [13, 10])).take m) j = false := by
        intro j
        unfold crlf
        by_cases hj : j + 1 < ((l ++ 13 :: 10 :: (joinL ls ++ [13, 10])).take m).length
        · rw [List.length_take] at hj
          have hjl : j < l.length := by omega
          have hx : l.getD j 0 ≠ 13 := by
            have := List.all_eq_true.1 h1.1 (l.getD j 0) (by rw [List.getD, List.getElem?_eq_getElem hjl]; exact List.getElem_mem hjl)
            simpa using this
          have e : ((l ++ 13 :: 10 :: (joinL ls ++ [13, 10])).take m).getD j 0 = l.getD j 0 := by rw [List.getD, List.getD, List.getElem?_take_of_lt (by omega), List.getElem?_append_left hjl]
          rw [e, beq_eq_false_iff_ne.2 hx]; simp
        · rw [decide_eq_false hj]; rfl
      rcases crlf_cut ((l ++ 13 :: 10 :: (joinL ls ++ [13, 10])).take m) with ⟨i, h3, _⟩ | ⟨_, h3⟩
      · rw [hno i] at h3; cases h3
      · exact h3
    · have e : (l ++ 13 :: 10 :: (joinL ls ++ [13, 10])).take m = l ++ 13 :: 10 :: (joinL ls ++ [13, 10]).take (m - (l.length + 2)) := by
        rw [List.take_append, List.take_of_length_le (by omega)]
        obtain ⟨d, hd⟩ : ∃ d, m - l.length = d + 1 + 1 := ⟨m - l.length - 2, by omega⟩
        rw [hd, List.take_succ_cons, List.take_succ_cons, show m - (l.length + 2) = d by omega]
      rw [e, linesK_more q out (cut_line l _ h1.1) hl]
      simp only [List.length_append, List.length_cons, List.length_nil] at hm
      exact linesK_cut ls _ q _ h.2 (by simp only [List.length_append, List.length_cons, List.length_nil]; omega) (by omega)
theorem linesS_cut (ls : List (List UInt8)) (m : Nat) (h : ls.all lineOk = true) (hm : m < (joinL ls ++ [13, 10]).length) : linesS ((joinL ls ++ [13, 10]).take m) = ([], 0, false) :=
  linesK_cut ls m _ [] h hm (by rw [List.length_take]; omega)
/-- a field that may be printed, and read -/
def goodP (p : S43) : Prop := tokL p.f0.data.toList = true ∧ p.f1.data.toList.all pthB = true ∧ p.f0.data.toList.length + 2 + p.f1.data.toList.length ≤ 2000
def flP (p : S43) : List UInt8 := p.f0.data.toList ++ 58 :: 32 :: p.f1.data.toList
theorem goodP_field {p : S43} (h : goodP p) : fieldS (mkB (flP p)) = (p.f0, p.f1, 0) := by
  have := field_vis p.f0.data.toList p.f1.data.toList h.1 h.2.1 h.2.2
  rw [mkB_self, mkB_self] at this
  exact this
theorem vis_valL {E : List UInt8} (hE : E.all pthB = true) : valL E = true :=
  valL_of (all_imp hE (fun c h => (vis_val c h).1)) (fun a ha => (vis_val a (List.all_eq_true.1 hE a (List.mem_of_mem_head? ha))).2.1) (fun a ha => (vis_val a (List.all_eq_true.1 hE a (List.mem_of_mem_getLast? ha))).2.1)
theorem goodP_print {p : S43} (h : goodP p) : printS p.f0 p.f1 = (mkB (flP p), 0) := by
  rw [printS_yes _ _ h.1 (vis_valL h.2.1) (by have := h.2.2; rw [len_data, len_data] at this; omega)]
  exact congrArg (fun x => (x, (0 : Int))) (ba_ext (by simp [mkB, flP]))
theorem goodP_line {p : S43} (h : goodP p) : lineOk (flP p) = true := by
  unfold lineOk plainL flP
  rw [Bool.and_eq_true]
  have h5 : p.f1.data.toList.all (fun c => c != 13) = true := all_imp h.2.1 (fun c hc => (vis_val c hc).2.2)
  have ht : (p.f0.data.toList.all tokB) = true := by have := h.1; unfold tokL at this; rw [Bool.and_eq_true] at this; exact this.1
  have h6 : p.f0.data.toList.all (fun c => c != 13) = true := all_imp ht (fun c hc => by
    have := u8_all (fun c => !tokB c || (c != 13)) (by decide +kernel) c
    rw [hc] at this; simpa using this)
  refine ⟨?_, ?_⟩
  · rw [List.all_append, List.all_cons, List.all_cons, h5, h6]; rfl
  · cases p.f0.data.toList <;> rfl
theorem good_txt {fs : List S43} (h : ∀ p ∈ fs, goodP p) : fsTxt fs = joinL (fs.map flP) := by
  induction fs with
  | nil => rfl
  | cons p l ih =>
    have e : fsTxt (p :: l) = (printS p.f0 p.f1).1.data.toList ++ [13, 10] ++ fsTxt l := by unfold fsTxt; rw [List.flatMap_cons]
    rw [e, ih (fun q hq => h q (List.mem_cons_of_mem _ hq)), goodP_print (h p List.mem_cons_self), List.map_cons]
    unfold joinL; rw [List.flatMap_cons]; rfl
theorem flds_good {fs : List S43} (hf : ∀ p ∈ fs, goodP p) : fldsE ((fs.map flP).map mkB) = 0 ∧ ((fs.map flP).map mkB).map fldS = fs := by
  refine ⟨fldsE_ok (fun x hx => ?_), ?_⟩
  · obtain ⟨y, hy, rfl⟩ := List.mem_map.1 hx
    obtain ⟨p, hp, rfl⟩ := List.mem_map.1 hy
    rw [goodP_field (hf p hp)]
  · rw [List.map_map, List.map_map]
    refine (List.map_congr_left (fun p hp => ?_)).trans (List.map_id _)
    show fldS (mkB (flP p)) = p
    unfold fldS; rw [goodP_field (hf p hp)]
end Go.Proofs.YtpfbemcoblganaaDoor.Pl
end

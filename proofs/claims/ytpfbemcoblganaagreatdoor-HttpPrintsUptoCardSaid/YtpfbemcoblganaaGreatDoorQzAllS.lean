/-
  All values of a name: what head.All comes to.
-/
import Derived.Test.YtpfbemcoblganaaGreatDoorQzPl08v
import Derived.Test.YtpfbemcoblganaaGreatDoorQzPall13
namespace Go.Proofs.YtpfbemcoblganaaGreatDoor.Pall
open Go.RowKit Go.Proofs.YtpfbemcoblganaaGreatDoorW.PrintWords Go.Proofs.YtpfbemcoblganaaGreatDoorW.PrintLast Go.Proofs.YtpfbemcoblganaaGreatDoor.Pl
set_option linter.unusedVariables false
set_option linter.unusedSimpArgs false
abbrev Pr := S34
def allS (l : List Pr) (n : ByteArray) : List ByteArray := (l.filter fun p => sameS p.f0 n).map (·.f1)
theorem allS_len (l : List Pr) (n : ByteArray) : (allS l n).length ≤ l.length := by
  unfold allS; rw [List.length_map]; exact List.length_filter_le _ _
theorem allS_yes {p : Pr} {l : List Pr} {n : ByteArray} (h : sameS p.f0 n = true) : allS (p :: l) n = p.f1 :: allS l n := by
  simp [allS, List.filter_cons, h]
theorem allS_no {p : Pr} {l : List Pr} {n : ByteArray} (h : ¬ sameS p.f0 n = true) : allS (p :: l) n = allS l n := by
  simp [allS, List.filter_cons, h]
theorem rdP (l : List Pr) (i : Nat) : rd_T34 l (i : Int) = l.getD i z34 := by unfold rd_T34; rw [Int.toNat_natCast]
theorem drop_get {α : Type} (l : List α) (d : α) {i : Nat} (h : i < l.length) : l.drop i = l.getD i d :: l.drop (i + 1) := by
  rw [List.drop_eq_getElem_cons h, List.getD, List.getElem?_eq_getElem h]; rfl
theorem getD_mem {α : Type} (l : List α) (d : α) {i : Nat} (h : i < l.length) : l.getD i d ∈ l := by
  rw [List.getD, List.getElem?_eq_getElem h]; exact List.getElem_mem h
theorem headAll_loop (l : List Pr) (n : ByteArray) (hl : l.length < 8796093022208) (hs : ∀ p ∈ l, p.f0.size ≤ 140737488351232) (hn : n.size ≤ 140737488351232) : ∀ d i (out : List ByteArray), l.length - i = d → i ≤ l.length → out.length ≤ i →
    Ev (fun k => head_All.l0 k n out l (l.length : Int) (i : Nat)) (out ++ allS (l.drop i) n) := by
  intro d
  induction d with
  | zero =>
    intro i out hd hi ho
    obtain rfl : i = l.length := by omega
    refine Ev.step (f := fun _ => some out) (fun k => ?_) ?_
    · simp only [head_All.l0]; rw [if_neg (by omega)]
    · rw [List.drop_length]; simp only [allS, List.filter_nil, List.map_nil, List.append_nil]; exact Ev.now _
  | succ d ih =>
    intro i out hd hi ho
    have hlt : i < l.length := by omega
    have hm := hs _ (getD_mem l z34 hlt)
    rw [drop_get l z34 hlt]
    refine Ev.step (f := fun k => if sameS (l.getD i z34).f0 n = true then head_All.l0 k n (out ++ [(l.getD i z34).f1]) l (l.length : Int) ((i + 1 : Nat) : Int) else head_All.l0 k n out l (l.length : Int) ((i + 1 : Nat) : Int)) (fun k => ?_) ?_
    · simp only [head_All.l0]
      rw [if_pos (by omega), if_pos (by omega), if_pos (by omega), rdP, headSame _ _ hm hn, Option.bind_some, wrap_id (by omega) (by omega)]
      simp only [if_pos (show out.length < 8796093022208 by omega)]
      rfl
    · by_cases h : sameS (l.getD i z34).f0 n = true
      · simp only [if_pos h]
        have := ih (i + 1) (out ++ [(l.getD i z34).f1]) (by omega) (by omega) (by rw [List.length_append]; simp; omega)
        have e : out ++ allS (l.getD i z34 :: l.drop (i + 1)) n = out ++ [(l.getD i z34).f1] ++ allS (l.drop (i + 1)) n := by
          rw [allS_yes h]; simp
        rw [e]; exact this
      · simp only [if_neg h]
        have := ih (i + 1) out (by omega) (by omega) (by omega)
        have e : allS (l.getD i z34 :: l.drop (i + 1)) n = allS (l.drop (i + 1)) n := allS_no h
        rw [e]; exact this
theorem headAll_ev (l : List Pr) (n : ByteArray) (hl : l.length < 8796093022208) (hs : ∀ p ∈ l, p.f0.size ≤ 140737488351232) (hn : n.size ≤ 140737488351232) : Ev (fun k => head_All.f k l n) (allS l n) := by
  have h := headAll_loop l n hl hs hn _ 0 [] rfl (by omega) (by simp)
  rw [List.nil_append, List.drop_zero] at h; exact h
theorem all_any (l : List Pr) (n : ByteArray) (A : Option Addr) (c : Nat) (w : World) (hC : Kd.C k34 w A l.length l) (hc : l.length ≤ c) (hl : l.length < 8796093022208) (hs : ∀ p ∈ l, p.f0.size ≤ 140737488351232) (hn : n.size ≤ 140737488351232) :
    Calls Tryz.prog 46 #[.slice A l.length c, .string n] w fun e w' => ∃ A' c', e = .returned (.slice A' (allS l n).length c') ∧ (allS l n).length ≤ c' ∧ Kd.C Kd.string w' A' (allS l n).length (allS l n) ∧ Below w.heap.size w w' := by
  obtain ⟨k, hk⟩ := headAll_ev l n hl hs hn
  refine (head_All.calls k A c l n _ w hC hc (hk k (Nat.le_refl k))).mono ?_
  rintro e w' ⟨v, rfl, hR, hb⟩
  obtain ⟨A', c', rfl, h1, h2⟩ := Kd.R_reads hR
  exact ⟨A', c', rfl, h1, h2, hb⟩
end Go.Proofs.YtpfbemcoblganaaGreatDoor.Pall

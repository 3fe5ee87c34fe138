/-
  The plain laws of layer 8, its lists: all values of a name; texts that are the same.
-/
import Derived.Test.YtgajaaagpihlkaaDoorPl08
namespace Go.Proofs.YtgajaaagpihlkaaDoor.Pall
open Go.RowKit Go.Proofs.YtgajaaagpihlkaaDoorW.PrintWords Go.Proofs.YtgajaaagpihlkaaDoorW.PrintLast Go.Proofs.YtgajaaagpihlkaaDoorW.PrintMore Go.Proofs.YtgajaaagpihlkaaDoor.Pl
set_option linter.unusedVariables false
set_option linter.unusedSimpArgs false

abbrev Pr := S31
def allS (l : List Pr) (n : ByteArray) : List ByteArray := (l.filter fun p => sameS p.f0 n).map (·.f1)
theorem allS_len (l : List Pr) (n : ByteArray) : (allS l n).length ≤ l.length := by
  unfold allS; rw [List.length_map]; exact List.length_filter_le _ _
theorem allS_yes {p : Pr} {l : List Pr} {n : ByteArray} (h : sameS p.f0 n = true) : allS (p :: l) n = p.f1 :: allS l n := by
  simp [allS, List.filter_cons, h]
theorem allS_no {p : Pr} {l : List Pr} {n : ByteArray} (h : ¬ sameS p.f0 n = true) : allS (p :: l) n = allS l n := by
  simp [allS, List.filter_cons, h]
theorem rdP (l : List Pr) (i : Nat) : rd_T31 l (i : Int) = l.getD i z31 := by unfold rd_T31; rw [Int.toNat_natCast]
theorem drop_get {α : Type} (l : List α) (d : α) {i : Nat} (h : i < l.length) : l.drop i = l.getD i d :: l.drop (i + 1) := by
  rw [List.drop_eq_getElem_cons h, List.getD, List.getElem?_eq_getElem h]; rfl
theorem getD_mem {α : Type} (l : List α) (d : α) {i : Nat} (h : i < l.length) : l.getD i d ∈ l := by
  rw [List.getD, List.getElem?_eq_getElem h]; exact List.getElem_mem h
theorem headAll_loop (l : List Pr) (n : ByteArray) (hl : l.length < 8796093022208) (hs : ∀ p ∈ l, p.f0.size ≤ 140737488351232) (hn : n.size ≤ 140737488351232) : ∀ d i (out : List ByteArray), l.length - i = d → i ≤ l.length → out.length ≤ i →
    Ev (fun k => head_All.l0 k n out l (l.length : Int) (i : Nat)) (out ++ allS (l.drop i) n) := by
  intro d
  induction d with
  | zero =>
    intro i out hd hi ho
    obtain rfl : i = l.length := by omega
    refine Ev.step (f := fun _ => some out) (fun k => ?_) ?_
    · simp only [head_All.l0]; rw [if_neg (by omega)]
    · rw [List.drop_length]; simp only [allS, List.filter_nil, List.map_nil, List.append_nil]; exact Ev.now _
  | succ d ih =>
    intro i out hd hi ho
    have hlt : i < l.length := by omega
    have hm := hs _ (getD_mem l z31 hlt)
    rw [drop_get l z31 hlt]
    refine Ev.step (f := fun k => if sameS (l.getD i z31).f0 n = true then head_All.l0 k n (out ++ [(l.getD i z31).f1]) l (l.length : Int) ((i + 1 : Nat) : Int) else head_All.l0 k n out l (l.length : Int) ((i + 1 : Nat) : Int)) (fun k => ?_) ?_
    · simp only [head_All.l0]
      rw [if_pos (by omega), if_pos (by omega), if_pos (by omega), rdP, headSame _ _ hm hn, Option.bind_some, wrap_id (by omega) (by omega)]
      simp only [if_pos (show out.length < 8796093022208 by omega)]
      rfl
    · by_cases h : sameS (l.getD i z31).f0 n = true
      · simp only [if_pos h]
        have := ih (i + 1) (out ++ [(l.getD i z31).f1]) (by omega) (by omega) (by rw [List.length_append]; simp; omega)
        have e : out ++ allS (l.getD i z31 :: l.drop (i + 1)) n = out ++ [(l.getD i z31).f1] ++ allS (l.drop (i + 1)) n := by
          rw [allS_yes h]; simp
        rw [e]; exact this
      · simp only [if_neg h]
        have := ih (i + 1) out (by omega) (by omega) (by omega)
        have e : allS (l.getD i z31 :: l.drop (i + 1)) n = allS (l.drop (i + 1)) n := allS_no h
        rw [e]; exact this
theorem headAll_ev (l : List Pr) (n : ByteArray) (hl : l.length < 8796093022208) (hs : ∀ p ∈ l, p.f0.size ≤ 140737488351232) (hn : n.size ≤ 140737488351232) : Ev (fun k => head_All.f k l n) (allS l n) := by
  have h := headAll_loop l n hl hs hn _ 0 [] rfl (by omega) (by simp)
  rw [List.nil_append, List.drop_zero] at h; exact h
theorem refAll_loop (l : List Pr) (n : ByteArray) (hl : l.length < 8796093022208) (hs : ∀ p ∈ l, p.f0.size ≤ 140737488351232) : ∀ d i (out : List ByteArray), l.length - i = d → i ≤ l.length → out.length ≤ i →
    Ev (fun k => wicketmanref08_All.l0 k l n out (i : Nat)) (out ++ allS (l.drop i) n) := by
  intro d
  induction d with
  | zero =>
    intro i out hd hi ho
    obtain rfl : i = l.length := by omega
    refine Ev.step (f := fun _ => some out) (fun k => ?_) ?_
    · simp only [wicketmanref08_All.l0]; rw [if_neg (by omega)]
    · rw [List.drop_length]; simp only [allS, List.filter_nil, List.map_nil, List.append_nil]; exact Ev.now _
  | succ d ih =>
    intro i out hd hi ho
    have hlt : i < l.length := by omega
    have hm := hs _ (getD_mem l z31 hlt)
    rw [drop_get l z31 hlt]
    refine Ev.step (f := fun k => (wicketmanref08_Same.f k (l.getD i z31).f0 n).bind fun t => if t = true then wicketmanref08_All.l0 k l n (out ++ [(l.getD i z31).f1]) ((i + 1 : Nat) : Int) else wicketmanref08_All.l0 k l n out ((i + 1 : Nat) : Int)) (fun k => ?_) ?_
    · simp only [wicketmanref08_All.l0]
      rw [if_pos (by omega), if_pos (by omega), rdP, wrap_id (by omega) (by omega)]
      simp only [if_pos (show out.length < 8796093022208 by omega)]
      rfl
    · refine Ev.bind (refSame _ n (by omega)) ?_
      by_cases h : sameS (l.getD i z31).f0 n = true
      · simp only [if_pos h]
        have := ih (i + 1) (out ++ [(l.getD i z31).f1]) (by omega) (by omega) (by rw [List.length_append]; simp; omega)
        have e : out ++ allS (l.getD i z31 :: l.drop (i + 1)) n = out ++ [(l.getD i z31).f1] ++ allS (l.drop (i + 1)) n := by
          rw [allS_yes h]; simp
        rw [e]; exact this
      · simp only [if_neg h]
        have := ih (i + 1) out (by omega) (by omega) (by omega)
        have e : allS (l.getD i z31 :: l.drop (i + 1)) n = allS (l.drop (i + 1)) n := allS_no h
        rw [e]; exact this
theorem refAll_ev (l : List Pr) (n : ByteArray) (hl : l.length < 8796093022208) (hs : ∀ p ∈ l, p.f0.size ≤ 140737488351232) : Ev (fun k => wicketmanref08_All.f k l n) (allS l n) := by
  have h := refAll_loop l n hl hs _ 0 [] rfl (by omega) (by simp)
  rw [List.nil_append, List.drop_zero] at h; exact h
theorem rdB (l : List ByteArray) (i : Nat) : rdOf ByteArray.empty l (i : Int) = l.getD i ByteArray.empty := by unfold rdOf; rw [Int.toNat_natCast]
theorem sameTexts_loop (l : List ByteArray) (hl : l.length < 8796093022208) : ∀ d i, l.length - i = d → i ≤ l.length → Ev (fun k => wicketmanref08_SameTexts.l0 k l l (i : Nat)) true := by
  intro d
  induction d with
  | zero =>
    intro i hd hi
    refine Ev.step (f := fun _ => some true) (fun k => ?_) (Ev.now _)
    simp only [wicketmanref08_SameTexts.l0]; rw [if_neg (by omega)]
  | succ d ih =>
    intro i hd hi
    refine Ev.step (f := fun k => wicketmanref08_SameTexts.l0 k l l ((i + 1 : Nat) : Int)) (fun k => ?_) (ih (i + 1) (by omega) (by omega))
    simp only [wicketmanref08_SameTexts.l0]
    rw [if_pos (by omega), if_pos (by omega), if_pos (by omega), if_pos True.intro, wrap_id (by omega) (by omega)]; rfl
theorem sameTexts_true (l : List ByteArray) (hl : l.length < 8796093022208) : Ev (fun k => wicketmanref08_SameTexts.f k l l) true := by
  refine Ev.congr (f := fun k => wicketmanref08_SameTexts.l0 k l l ((0 : Nat) : Int)) (fun k => ?_) (sameTexts_loop l hl _ 0 rfl (by omega))
  unfold wicketmanref08_SameTexts.f; rw [if_pos rfl]; rfl
end Go.Proofs.YtgajaaagpihlkaaDoor.Pall

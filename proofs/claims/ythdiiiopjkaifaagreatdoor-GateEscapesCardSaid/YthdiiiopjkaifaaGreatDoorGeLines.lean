/-
 Lines of a head: what http.Lines and the document's own come to.
-/
import Derived.Test.YthdiiiopjkaifaaGreatDoorGePlb
import Derived.Test.YthdiiiopjkaifaaGreatDoorGePall4
import Derived.Test.YthdiiiopjkaifaaGreatDoorGePall6
namespace Go.Proofs.YthdiiiopjkaifaaGreatDoor.Pl
open Go.RowKit Go.Proofs.YthdiiiopjkaifaaGreatDoor.Pall Go.Proofs.YthdiiiopjkaifaaGreatDoorW.PrintWords Go.Proofs.YthdiiiopjkaifaaGreatDoorW.PrintLast
set_option linter.unusedVariables false
set_option linter.unusedSimpArgs false
theorem first_at (p : Nat → Bool) : ∀ n, (∃ i, i < n ∧ p i = true ∧ ∀ j, j < i → p j = false) ∨ ∀ i, i < n → p i = false
 | 0 => .inr (fun i h => by omega)
 | n + 1 => by
  rcases first_at p n with ⟨i, h1, h2, h3⟩ | h
  ·exact .inl ⟨i, by omega, h2, h3⟩
  ·cases hp : p n with
   | true => exact .inl ⟨n, by omega, hp, h⟩
   | false => exact .inr (fun i hi => by by_cases e : i = n; (· subst e; exact hp); exact h i (by omega))
def crlf (l : List UInt8) (i : Nat) : Bool := decide (i + 1 < l.length) && (l.getD i 0 == 13 && l.getD (i + 1) 0 == 10)
theorem occ_crlf (l : List UInt8) (i : Nat) : Lib.occAt l [13, 10] i = crlf l i := by
 unfold Lib.occAt crlf
 by_cases h : i + 1 < l.length
 ·rw [decide_eq_true h, Bool.true_and, List.drop_eq_getElem_cons (by omega), List.drop_eq_getElem_cons h, List.getD, List.getD, List.getElem?_eq_getElem (by omega), List.getElem?_eq_getElem h]
  show (((13 : UInt8) == _) && (((10 : UInt8) == _) && _)) = ((_ == (13 : UInt8)) && (_ == (10 : UInt8)))
  rw [List.isPrefixOf, Bool.and_true, Option.getD_some, Option.getD_some]
  congr 1
  ·rw [Bool.eq_iff_iff, beq_iff_eq, beq_iff_eq]; exact eq_comm
  ·rw [Bool.eq_iff_iff, beq_iff_eq, beq_iff_eq]; exact eq_comm
 ·rw [decide_eq_false h, Bool.false_and]
  by_cases h2 : i < l.length
  ·rw [List.drop_eq_getElem_cons h2, List.drop_of_length_le (by omega)]
   simp [List.isPrefixOf]
  ·rw [List.drop_of_length_le (by omega)]; rfl
theorem crlf_cut (l : List UInt8) : (∃ i, crlf l i = true ∧ (∀ j, j < i → crlf l j = false) ∧ i + 1 < l.length ∧ Lib.cut l [13, 10] = (l.take i, l.drop (i + 2), true)) ∨ ((∀ i, crlf l i = false) ∧ Lib.cut l [13, 10] = (l, [], false)) := by
 rcases first_at (crlf l) l.length with ⟨i, h1, h2, h3⟩ | h
 ·have hi : i + 1 < l.length := by unfold crlf at h2; simp at h2; exact h2.1
  refine .inl ⟨i, h2, h3, hi, ?_⟩
  have e := Lib.index_first (s := l) (sub := [13, 10]) (i := i) (by omega) (by rw [occ_crlf]; exact h2) (fun j hj => by rw [occ_crlf]; exact h3 j hj)
  unfold Lib.cut
  rw [e, if_pos (by omega), Int.toNat_natCast]; rfl
 ·have h' : ∀ i, crlf l i = false := fun i => by
   by_cases hi : i < l.length
   ·exact h i hi
   ·unfold crlf; rw [decide_eq_false (by omega)]; rfl
  refine .inr ⟨h', ?_⟩
  have e := Lib.index_none (s := l) (sub := [13, 10]) (fun j _ => by rw [occ_crlf]; exact h' j)
  unfold Lib.cut
  rw [e, if_neg (by decide)]
/-- lines up to an empty one, how many bytes stand behind it, and whether there is one -/
def linesK : Nat → List UInt8 → List ByteArray → List ByteArray × Nat × Bool
 | 0, _, _ => ([], 0, false)
 | k + 1, l, out => if (Lib.cut l [13, 10]).2.2 = true then (if (Lib.cut l [13, 10]).1 = [] then (out, (Lib.cut l [13, 10]).2.1.length, true) else linesK k (Lib.cut l [13, 10]).2.1 (out ++ [mkB (Lib.cut l [13, 10]).1])) else ([], 0, false)
def linesS (l : List UInt8) : List ByteArray × Nat × Bool := linesK (l.length + 1) l []
def lnR (n : Nat) (r : List ByteArray × Nat × Bool) : List ByteArray × Int × Bool := if r.2.2 = true then (r.1, (n : Int) - (r.2.1 : Int), true) else ([], 0, false)
theorem linesK_no (k : Nat) {l : List UInt8} (out : List ByteArray) (h : Lib.cut l [13, 10] = (l, [], false)) : linesK (k + 1) l out = ([], 0, false) := by
 rw [linesK, h]; rfl
theorem linesK_end (k : Nat) {l x : List UInt8} (out : List ByteArray) (h : Lib.cut l [13, 10] = ([], x, true)) : linesK (k + 1) l out = (out, x.length, true) := by
 rw [linesK, h]; rfl
theorem linesK_more (k : Nat) {l a x : List UInt8} (out : List ByteArray) (h : Lib.cut l [13, 10] = (a, x, true)) (ha : a ≠ []) : linesK (k + 1) l out = linesK k x (out ++ [mkB a]) := by
 rw [linesK, h]
 simp only [if_true, if_neg ha]
theorem linesK_len : ∀ (k : Nat) (l : List UInt8) (out : List ByteArray), (linesK k l out).2.1 ≤ l.length := by
 intro k
 induction k with
 | zero => intro l out; exact Nat.zero_le _
 | succ k ih =>
  intro l out
  rcases crlf_cut l with ⟨i, h1, h2, hi, hc⟩ | ⟨_, hc⟩
  ·by_cases h0 : l.take i = []
   ·rw [h0] at hc; rw [linesK_end _ _ hc]; show (l.drop (i + 2)).length ≤ _; rw [List.length_drop]; omega
   ·rw [linesK_more _ _ hc h0]
    have := ih (l.drop (i + 2)) (out ++ [mkB (l.take i)])
    rw [List.length_drop] at this; omega
  ·rw [linesK_no _ _ hc]; exact Nat.zero_le _
theorem linesS_len (l : List UInt8) : (linesS l).2.1 ≤ l.length := linesK_len _ _ _
theorem linesK_count : ∀ (k : Nat) (l : List UInt8) (out : List ByteArray), (linesK k l out).1.length ≤ out.length + l.length := by
 intro k
 induction k with
 | zero => intro l out; exact Nat.zero_le _
 | succ k ih =>
  intro l out
  rcases crlf_cut l with ⟨i, h1, h2, hi, hc⟩ | ⟨_, hc⟩
  ·by_cases h0 : l.take i = []
   ·rw [h0] at hc; rw [linesK_end _ _ hc]; exact Nat.le_add_right _ _
   ·rw [linesK_more _ _ hc h0]
    have := ih (l.drop (i + 2)) (out ++ [mkB (l.take i)])
    rw [List.length_drop, List.length_append] at this
    simp only [List.length_cons, List.length_nil] at this; omega
  ·rw [linesK_no _ _ hc]; exact Nat.zero_le _
theorem httpLines_loop (x0 : List Int) (hx : x0.length < 4294967281) : ∀ n (l : List UInt8) (out : List ByteArray), l.length ≤ n → l.length ≤ x0.length → out.length + l.length ≤ 4294967281 →
  Ev (fun k => http_Lines.l0 k x0 out (mkB l)) (lnR x0.length (linesK (n + 1) l out)) := by
 intro n
 induction n with
 | zero =>
  intro l out hl hx0 ho
  obtain rfl := List.eq_nil_of_length_eq_zero (Nat.le_zero.1 hl)
  refine Ev.step (f := fun _ => some _) (fun k => ?_) (Ev.now _)
  simp only [http_Lines.l0, strings_Cut.f]
  rfl
 | succ n ih =>
  intro l out hl hx0 ho
  have hs : (mkB l).size < 4294967281 := by rw [mkB_size]; omega
  rcases crlf_cut l with ⟨i, h1, h2, hi, hc⟩ | ⟨_, hc⟩
  ·by_cases h0 : l.take i = []
   ·rw [h0] at hc
    rw [linesK_end _ _ hc]
    refine Ev.step (f := fun _ => some _) (fun k => ?_) (Ev.now _)
    simp only [http_Lines.l0, strings_Cut.f]
    rw [if_pos hs]
    show (Option.some (mkB (Lib.cut l [13, 10]).1, mkB (Lib.cut l [13, 10]).2.1, (Lib.cut l [13, 10]).2.2)).bind _ = _
    rw [hc, Option.bind_some]
    simp only [if_true]
    rw [if_pos (show (mkB []).toList = [] by rw [ByteArray.toList_eq]; rfl), mkB_size, wrap_id (by rw [List.length_drop]; omega) (by omega)]
    rfl
   ·rw [linesK_more _ _ hc h0]
    have hne : ¬ (mkB (l.take i)).toList = [] := fun h => h0 (by rw [ByteArray.toList_eq] at h; exact h)
    refine Ev.step (f := fun k => http_Lines.l0 k x0 (out ++ [mkB (l.take i)]) (mkB (l.drop (i + 2)))) (fun k => ?_) (ih _ _ (by rw [List.length_drop]; omega) (by rw [List.length_drop]; omega) (by rw [List.length_append, List.length_drop]; simp only [List.length_cons, List.length_nil]; omega))
    simp only [http_Lines.l0, strings_Cut.f]
    rw [if_pos hs]
    show (Option.some (mkB (Lib.cut l [13, 10]).1, mkB (Lib.cut l [13, 10]).2.1, (Lib.cut l [13, 10]).2.2)).bind _ = _
    rw [hc, Option.bind_some]
    simp only [if_true]
    rw [if_neg hne, if_pos (by omega)]
  ·rw [linesK_no _ _ hc]
   refine Ev.step (f := fun _ => some _) (fun k => ?_) (Ev.now _)
   simp only [http_Lines.l0, strings_Cut.f]
   rw [if_pos hs]
   show (Option.some (mkB (Lib.cut l [13, 10]).1, mkB (Lib.cut l [13, 10]).2.1, (Lib.cut l [13, 10]).2.2)).bind _ = _
   rw [hc]; rfl
theorem httpLines_ev (x0 : List Int) (hx : x0.length < 4294967281) : Ev (fun k => http_Lines.f k x0) (lnR x0.length (linesS (strOfNums x0).data.toList)) := by
 have hl : (strOfNums x0).data.toList.length = x0.length := by rw [strOfNums_data, List.length_map]
 have h := httpLines_loop x0 hx x0.length (strOfNums x0).data.toList [] (by omega) (by omega) (by rw [hl]; simp; omega)
 unfold linesS
 rw [hl]
 exact h
/-- a text's bytes as the numbers that a row of bytes has -/
def numsL (bs : List UInt8) : List Int := bs.map fun c => (c.toNat : Int)
theorem numsL_str (bs : List UInt8) : strOfNums (numsL bs) = mkB bs := by
 refine Pall.ba_ext ?_
 rw [strOfNums_data]
 show List.map _ (List.map _ bs) = bs
 rw [List.map_map]
 exact (List.map_congr_left (fun a _ => by simp)).trans (List.map_id _)
end Go.Proofs.YthdiiiopjkaifaaGreatDoor.Pl

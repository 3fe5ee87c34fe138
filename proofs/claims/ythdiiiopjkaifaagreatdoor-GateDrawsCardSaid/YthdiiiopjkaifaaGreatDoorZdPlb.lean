/-
 Plain facts on lists of bytes: what is cut off at both ends, and where a text is cut.
 The plain laws of layer 8: what the document's answer (wicketmanref08) computes, and what the program computes, are the same plain functions on bytes.
 Loops that build a text out of choices: one plain law.
-/
import Derived.Lib.SlTrimSet
import Derived.Lib.IndexLaws
import Derived.Lib.IndexMore
import Derived.Lib.IndexBytes
import Derived.Test.YthdiiiopjkaifaaGreatDoorZdPall7
namespace Go.Proofs.YthdiiiopjkaifaaGreatDoor.Pl
set_option linter.unusedVariables false
set_option linter.unusedSimpArgs false
section
variable {α : Type} (p : α → Bool)
def tL (l : List α) : List α := l.dropWhile p
def tR (l : List α) : List α := (l.reverse.dropWhile p).reverse
theorem dropWhile_all {l : List α} (h : l.all p = true) : l.dropWhile p = [] := by
 induction l with
 | nil => rfl
 | cons a l ih =>
  simp only [List.all_cons, Bool.and_eq_true] at h
  rw [List.dropWhile_cons_of_pos h.1, ih h.2]
theorem dropWhile_append_all {l m : List α} (h : l.all p = true) : (l ++ m).dropWhile p = m.dropWhile p := by
 induction l with
 | nil => rfl
 | cons a l ih =>
  simp only [List.all_cons, Bool.and_eq_true] at h
  rw [List.cons_append, List.dropWhile_cons_of_pos h.1, ih h.2]
theorem dropWhile_append_not {l m : List α} (h : l.all p = false) : (l ++ m).dropWhile p = l.dropWhile p ++ m := by
 induction l with
 | nil => simp at h
 | cons a l ih =>
  by_cases ha : p a = true
  ·rw [List.cons_append, List.dropWhile_cons_of_pos ha, List.dropWhile_cons_of_pos ha]
   apply ih; simpa [ha] using h
  ·rw [List.cons_append, List.dropWhile_cons_of_neg ha, List.dropWhile_cons_of_neg ha]; rfl
theorem tR_cons (a : α) (l : List α) : tR p (a :: l) = if l.all p then (if p a then [] else [a]) else a :: tR p l := by
 unfold tR
 rw [List.reverse_cons]
 cases h : l.all p with
 | true =>
  rw [dropWhile_append_all p (by rw [List.all_reverse]; exact h)]
  by_cases ha : p a = true
  ·rw [List.dropWhile_cons_of_pos ha, if_pos rfl, if_pos ha]; rfl
  ·rw [List.dropWhile_cons_of_neg ha, if_pos rfl, if_neg ha]; rfl
 | false =>
  rw [dropWhile_append_not p (by rw [List.all_reverse]; exact h), if_neg (by decide)]
  simp
theorem tR_all {l : List α} (h : l.all p = true) : tR p l = [] := by
 unfold tR; rw [dropWhile_all p (by rw [List.all_reverse]; exact h)]; rfl
theorem tLR (l : List α) : tL p (tR p l) = tR p (tL p l) := by
 induction l with
 | nil => rfl
 | cons a l ih =>
  by_cases ha : p a = true
  ·have e : tL p (a :: l) = tL p l := List.dropWhile_cons_of_pos ha
   rw [e, ← ih, tR_cons]
   cases h : l.all p with
   | true => rw [if_pos rfl, if_pos ha, tR_all p h]
   | false => rw [if_neg (by decide)]; exact List.dropWhile_cons_of_pos ha
  ·have e : tL p (a :: l) = a :: l := List.dropWhile_cons_of_neg ha
   rw [e, tR_cons]
   cases h : l.all p with
   | true => rw [if_pos rfl, if_neg ha]; exact List.dropWhile_cons_of_neg ha
   | false => rw [if_neg (by decide)]; exact List.dropWhile_cons_of_neg ha
theorem tL_le (l : List α) : (tL p l).length ≤ l.length := (List.dropWhile_suffix p).length_le
theorem tR_le (l : List α) : (tR p l).length ≤ l.length := by
 unfold tR; rw [List.length_reverse]; have := (List.dropWhile_suffix (l := l.reverse) p).length_le; simpa using this
end
/-- where a byte stands first, or the length -/
def pos (l : List UInt8) (c : UInt8) : Nat := (l.takeWhile (· != c)).length
theorem indexByte_pos : ∀ (l : List UInt8) (c : UInt8), Lib.indexByte l c = if pos l c = l.length then -1 else (pos l c : Int)
 | [], c => rfl
 | b :: l, c => by
  unfold Lib.indexByte pos
  by_cases h : b = c
  ·subst h; simp
  ·have h' : (b == c) = false := by simpa using h
   have h2 : (b != c) = true := by simpa using h
   have ih := indexByte_pos l c
   have hp : (List.takeWhile (fun x => x != c) (b :: l)).length = pos l c + 1 := by unfold pos; simp [List.takeWhile_cons, h]
   rw [hp, h', ih, List.length_cons]
   simp only [Bool.false_eq_true, if_false]
   by_cases e : pos l c = l.length
   ·rw [if_pos e, if_pos (by omega : pos l c + 1 = l.length + 1)]; rfl
   ·rw [if_neg e, if_neg (by omega : ¬ pos l c + 1 = l.length + 1)]
    have : ¬ (((pos l c : Int)) == -1) = true := by first | (simp; done) | (simp; omega)
    rw [if_neg this]; try omega
theorem cut_one (l : List UInt8) (c : UInt8) : Lib.cut l [c] = if pos l c = l.length then (l, [], false) else (l.take (pos l c), l.drop (pos l c + 1), true) := by
 unfold Lib.cut
 rw [Lib.index_one, indexByte_pos]
 by_cases e : pos l c = l.length
 ·rw [if_pos e, if_pos e]; rfl
 ·rw [if_neg e, if_neg e, if_pos (by omega)]; rfl
end Go.Proofs.YthdiiiopjkaifaaGreatDoor.Pl
namespace Go.Proofs.YthdiiiopjkaifaaGreatDoor.Pall
open Go.RowKit Go.Proofs.YthdiiiopjkaifaaGreatDoorW.PrintWords Go.Proofs.YthdiiiopjkaifaaGreatDoorW.PrintLast Go.Proofs.YthdiiiopjkaifaaGreatDoor.Pl
set_option linter.unusedVariables false
set_option linter.unusedSimpArgs false
theorem wrap_id {n : Int} (h0 : -9223372036854775808 ≤ n) (h1 : n ≤ 9223372036854775807) : wrap64 n = n := by unfold wrap64; omega
theorem len_data (s : ByteArray) : s.data.toList.length = s.size := rfl
def mkB (l : List UInt8) : ByteArray := ⟨l.toArray⟩
theorem mkB_size (l : List UInt8) : (mkB l).size = l.length := by simp [mkB, ByteArray.size]
theorem ba_ext {a b : ByteArray} (h : a.data.toList = b.data.toList) : a = b := by
 obtain ⟨⟨a⟩⟩ := a; obtain ⟨⟨b⟩⟩ := b
 have h : a = b := h
 rw [h]
end Go.Proofs.YthdiiiopjkaifaaGreatDoor.Pall

/-
  Lines that are laid one behind the other are read as they are.
-/
import Derived.Test.YtpfbemcoblganaaDoorQmLines
namespace Go.Proofs.YtpfbemcoblganaaDoor.Pl
open Go.RowKit Go.Proofs.YtpfbemcoblganaaDoor.Pall Go.Proofs.YtpfbemcoblganaaDoorW.PrintWords Go.Proofs.YtpfbemcoblganaaDoorW.PrintLast
set_option linter.unusedVariables false
set_option linter.unusedSimpArgs false
/-- a line that has no carriage return -/
def plainL (l : List UInt8) : Bool := l.all (· != 13)
theorem cut_line (l rest : List UInt8) (h : plainL l = true) : Lib.cut (l ++ 13 :: 10 :: rest) [13, 10] = (l, rest, true) := by
  have hno : ∀ j, j < l.length → crlf (l ++ 13 :: 10 :: rest) j = false := by
    intro j hj
    have hx : l.getD j 0 ≠ 13 := by
      have := List.all_eq_true.1 h (l.getD j 0) (by rw [List.getD, List.getElem?_eq_getElem hj]; exact List.getElem_mem hj)
      simpa using this
    unfold crlf
    have e : (l ++ 13 :: 10 :: rest).getD j 0 = l.getD j 0 := by rw [List.getD, List.getD, List.getElem?_append_left hj]
    rw [e, beq_eq_false_iff_ne.2 hx]; simp
  have hyes : crlf (l ++ 13 :: 10 :: rest) l.length = true := by
    unfold crlf
    have e1 : (l ++ 13 :: 10 :: rest).getD l.length 0 = 13 := by rw [List.getD, List.getElem?_append_right (Nat.le_refl _), Nat.sub_self]; rfl
    have e2 : (l ++ 13 :: 10 :: rest).getD (l.length + 1) 0 = 10 := by rw [List.getD, List.getElem?_append_right (by omega), show l.length + 1 - l.length = 1 by omega]; rfl
    rw [e1, e2]; simp
  rcases crlf_cut (l ++ 13 :: 10 :: rest) with ⟨i, h1, h2, _, hc⟩ | ⟨hn, _⟩
  · have hi : i = l.length := by
      rcases Nat.lt_trichotomy i l.length with h3 | h3 | h3
      · rw [hno i h3] at h1; cases h1
      · exact h3
      · rw [h2 _ h3] at hyes; cases hyes
    subst hi
    rw [hc, List.take_left, List.drop_append, List.drop_of_length_le (by omega), show l.length + 2 - l.length = 2 by omega]; rfl
  · rw [hn l.length] at hyes; cases hyes
def joinL (ls : List (List UInt8)) : List UInt8 := ls.flatMap (fun l => l ++ [13, 10])
theorem joinL_cons (l : List UInt8) (ls : List (List UInt8)) (x : List UInt8) : joinL (l :: ls) ++ x = l ++ 13 :: 10 :: (joinL ls ++ x) := by
  unfold joinL; rw [List.flatMap_cons]; simp
theorem joinL_app (a b : List (List UInt8)) : joinL (a ++ b) = joinL a ++ joinL b := by unfold joinL; rw [List.flatMap_append]
def lineOk (l : List UInt8) : Bool := plainL l && !l.isEmpty
theorem linesK_join (rest : List UInt8) : ∀ (ls : List (List UInt8)) (k : Nat) (out : List ByteArray), ls.all lineOk = true → (joinL ls).length < k → linesK (k + 1) (joinL ls ++ 13 :: 10 :: rest) out = (out ++ ls.map mkB, rest.length, true)
  | [], k, out, _, _ => by
    have h : Lib.cut (13 :: 10 :: rest) [13, 10] = ([], rest, true) := cut_line [] rest rfl
    show linesK (k + 1) (13 :: 10 :: rest) out = _
    rw [linesK_end k out h, List.map_nil, List.append_nil]
  | l :: ls, k, out, h, hk => by
    rw [List.all_cons, Bool.and_eq_true] at h
    have h1 := h.1
    unfold lineOk at h1
    rw [Bool.and_eq_true] at h1
    have hl : l ≠ [] := by intro e; rw [e] at h1; simp at h1
    rw [joinL_cons, linesK_more k out (cut_line l _ h1.1) hl]
    have hlen : (joinL (l :: ls)).length = l.length + 2 + (joinL ls).length := by unfold joinL; rw [List.flatMap_cons]; simp; omega
    obtain ⟨m, rfl⟩ : ∃ m, k = m + 1 := ⟨k - 1, by omega⟩
    rw [linesK_join rest ls m _ h.2 (by omega), List.map_cons, List.append_assoc]; rfl
theorem linesS_join (ls : List (List UInt8)) (rest : List UInt8) (h : ls.all lineOk = true) : linesS (joinL ls ++ 13 :: 10 :: rest) = (ls.map mkB, rest.length, true) := by
  have := linesK_join rest ls (joinL ls ++ 13 :: 10 :: rest).length [] h (by rw [List.length_append]; simp only [List.length_cons]; omega)
  exact this
end Go.Proofs.YtpfbemcoblganaaDoor.Pl

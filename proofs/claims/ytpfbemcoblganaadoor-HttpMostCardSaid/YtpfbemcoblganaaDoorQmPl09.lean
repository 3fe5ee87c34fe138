/-
  The document's answer of layer 9: its Parse comes to what http.Parse comes to.
-/
import Derived.Test.YtpfbemcoblganaaDoorQmHp
import Derived.Test.YtpfbemcoblganaaDoorQmPall5
import Derived.Test.YtpfbemcoblganaaDoorQmPall6
import Derived.Test.YtpfbemcoblganaaDoorQmPall7
import Derived.Test.YtpfbemcoblganaaDoorQmPall8
import Derived.Test.YtpfbemcoblganaaDoorQmPall9
import Derived.Test.YtpfbemcoblganaaDoorQmPall4
namespace Go.Proofs.YtpfbemcoblganaaDoor.Pl
open Go.RowKit Go.Proofs.YtpfbemcoblganaaDoor.Pall Go.Proofs.YtpfbemcoblganaaDoorW.PrintWords Go.Proofs.YtpfbemcoblganaaDoorW.PrintLast
set_option linter.unusedVariables false
set_option linter.unusedSimpArgs false
def splitC (c : UInt8) : List UInt8 → List (List UInt8)
  | [] => [[]]
  | b :: l => if b = c then [] :: splitC c l else (match splitC c l with | [] => [[b]] | p :: ps => (b :: p) :: ps)
theorem splitC_pos (c : UInt8) : ∀ l, splitC c l = if pos l c = l.length then [l] else l.take (pos l c) :: splitC c (l.drop (pos l c + 1))
  | [] => rfl
  | b :: l => by
    by_cases h : b = c
    · subst h
      have hp : pos (b :: l) b = 0 := by unfold pos; simp
      rw [hp, splitC, if_pos rfl, if_neg (by simp)]; rfl
    · have hp : pos (b :: l) c = pos l c + 1 := by unfold pos; simp [List.takeWhile_cons, h]
      rw [hp, splitC, if_neg h, splitC_pos c l, List.length_cons]
      by_cases e : pos l c = l.length
      · rw [if_pos e, if_pos (by omega)]
      · rw [if_neg e, if_neg (by omega)]; rfl
theorem index_mk (l : List UInt8) : Lib.indexB (mkB l) spB = if pos l 32 = l.length then -1 else (pos l 32 : Int) := by
  have h := Lib.index_one l 32
  rw [indexByte_pos] at h
  exact h
theorem words_split : ∀ (n : Nat) (l : List UInt8), l.length ≤ n → Lib.splitB spB 0 (Lib.countB (mkB l) spB) (mkB l) = (splitC 32 l).map mkB := by
  intro n
  induction n with
  | zero =>
    intro l hl
    obtain rfl := List.eq_nil_of_length_eq_zero (Nat.le_zero.1 hl)
    rfl
  | succ n ih =>
    intro l hl
    have hx := index_mk l
    have hle := pos_le l 32
    rw [splitC_pos]
    by_cases e : pos l 32 = l.length
    · rw [if_pos e] at hx ⊢
      rw [Lib.splitB_miss _ _ _ _ hx]; rfl
    · rw [if_neg e] at hx ⊢
      have hc := Lib.countB_hit (mkB l) spB (pos l 32) (by decide) hx
      rw [hc, Nat.add_comm, Lib.splitB_hit _ _ _ _ _ hx, List.map_cons]
      have e1 : (mkB l).extract 0 (pos l 32 + 0) = mkB (l.take (pos l 32)) := by rw [ext_to]; rfl
      have e2 : (mkB l).extract (pos l 32 + spB.size) (mkB l).size = mkB (l.drop (pos l 32 + 1)) := by rw [ext_from]; rfl
      rw [e1, e2, ih _ (by rw [List.length_drop]; omega)]
theorem wordsL_mk (x : ByteArray) : wordsL x = (splitC 32 x.data.toList).map mkB := by
  have h := words_split _ x.data.toList (Nat.le_refl _)
  rw [mkB_self] at h
  exact h
end Go.Proofs.YtpfbemcoblganaaDoor.Pl

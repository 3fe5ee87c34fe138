/-
  Pages, and responses that are the same.
-/
import Derived.Test.YtpfbemcoblganaaDoorQbRp
import Derived.Test.YtpfbemcoblganaaDoorQbPlb
import Derived.Test.YtpfbemcoblganaaDoorQbPall4
import Derived.Test.YtpfbemcoblganaaDoorQbPall22
namespace Go.Proofs.YtpfbemcoblganaaDoor.Pl
open Go.RowKit Go.Proofs.YtpfbemcoblganaaDoor.Pall Go.Proofs.YtpfbemcoblganaaDoorW.PrintWords
set_option linter.unusedVariables false
set_option linter.unusedSimpArgs false
theorem fs_same (l : List S43) (hl : l.length ≤ 9223372036854775806) : ∀ d i, l.length - i = d → i ≤ l.length → Ev (fun k => wicketmanref07_Same.l0 k l l (i : Nat)) true := by
  intro d
  induction d with
  | zero =>
    intro i hd hi
    refine Ev.step (f := fun _ => some true) (fun k => ?_) (Ev.now _)
    simp only [wicketmanref07_Same.l0]; rw [if_neg (by omega)]
  | succ d ih =>
    intro i hd hi
    refine Ev.step (fun k => ?_) (ih (i + 1) (by omega) (by omega))
    simp only [wicketmanref07_Same.l0]
    rw [if_pos (by omega), if_pos (by omega), if_pos (by omega), if_neg (by simp), wrap_id (by omega) (by omega)]
    rfl
theorem fs_same_true (l : List S43) (hl : l.length ≤ 9223372036854775806) : Ev (fun k => wicketmanref07_Same.f k l l) true := by
  refine Ev.congr (f := fun k => wicketmanref07_Same.l0 k l l ((0 : Nat) : Int)) (fun k => ?_) (fs_same l hl _ 0 rfl (by omega))
  unfold wicketmanref07_Same.f; rw [if_pos rfl]; rfl
theorem same10_true (a : Int) (l : List S43) (b : List Int) (hl : l.length ≤ 9223372036854775806) : Ev (fun k => wicketmanref10_Same.f k a l b a l b) true := by
  refine Ev.congr (f := fun k => (wicketmanref07_Same.f k l l).bind fun t => if t = true then some ((strOfNums b).toList == (strOfNums b).toList) else some false) (fun k => ?_) (Ev.bind (fs_same_true l hl) ?_)
  · unfold wicketmanref10_Same.f; rw [if_pos rfl]
  · rw [beq_self_eq_true]; exact Ev.now _
end Go.Proofs.YtpfbemcoblganaaDoor.Pl

import Derived.Test.YtpfbemcoblganaaDoorQmPall0
import Derived.Test.YtpfbemcoblganaaDoorQmPall4
namespace Go.Proofs.YtpfbemcoblganaaDoor.Pall
open Go.RowKit Go.Proofs.YtpfbemcoblganaaDoorW.PrintWords Go.Proofs.YtpfbemcoblganaaDoorW.PrintLast
set_option linter.unusedVariables false
set_option linter.unusedSimpArgs false
def wicketmanref10_Statuses.f  : Option (List Int) := some (([200, 303, 400, 401, 403, 404, 405, 409, 413, 429, 431, 503] : List Int))
def wicketmanref10_Same.f (k : Nat) (a0_0 : Int) (l0_1 : List (S43)) (l0_2 : List Int) (a1_0 : Int) (l1_1 : List (S43)) (l1_2 : List Int) : Option (Bool) := if a0_0 = a1_0 then ((wicketmanref07_Same.f k l0_1 l1_1).bind fun t601 => (if t601 = true then (some ((strOfNums l0_2).toList == (strOfNums l1_2).toList)) else (some false))) else (some false)
theorem wicketmanref10_Same.mono : ∀ a0 a1 a2 a3 a4 a5 k, LeO (wicketmanref10_Same.f k a0 a1 a2 a3 a4 a5) (wicketmanref10_Same.f (k + 1) a0 a1 a2 a3 a4 a5) := by
 intro a0 a1 a2 a3 a4 a5 k
 unfold wicketmanref10_Same.f
 repeat' first
   | (with_reducible exact wicketmanref07_Same.mono _ _ _)
   | (with_reducible exact LeO.refl _)
   | (with_reducible exact LeO.none _)
   | (with_reducible refine LeO.ite ?_ ?_)
   | (with_reducible refine LeO.bind ?_ (fun _ => ?_))
   | exact wicketmanref07_Same.mono _ _ _
   | exact LeO.none _
   | refine LeO.ite ?_ ?_
   | refine LeO.bind ?_ (fun _ => ?_)
end Go.Proofs.YtpfbemcoblganaaDoor.Pall

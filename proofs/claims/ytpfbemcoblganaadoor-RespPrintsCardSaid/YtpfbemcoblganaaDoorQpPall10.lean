import Derived.Test.YtpfbemcoblganaaDoorQpPall9
import Derived.Test.YtpfbemcoblganaaDoorQpPall0
import Derived.Test.YtpfbemcoblganaaDoorQpPall2
import Derived.Test.YtpfbemcoblganaaDoorQpPall4
import Derived.Test.YtpfbemcoblganaaDoorQpPall5
namespace Go.Proofs.YtpfbemcoblganaaDoor.Pall
open Go.RowKit Go.Proofs.YtpfbemcoblganaaDoorW.PrintWords Go.Proofs.YtpfbemcoblganaaDoorW.PrintLast
set_option linter.unusedVariables false
set_option linter.unusedSimpArgs false
def wicketmanlaw09_parses.f (k : Nat) (l0 : List Int) : Option (Bool) := (http_Parse.f l0).bind fun bt266 => ((wicketmanref09_Parse.f k l0).bind fun bt276 => ((http_Lines.f k l0).bind fun bt286 => ((wicketmanref09_Lines.f k l0).bind fun bt291 => ((wicketmanref09_Same.f k bt266.1 bt266.2.1 bt266.2.2.1 bt266.2.2.2.1 bt276.1 bt276.2.1 bt276.2.2.1 bt276.2.2.2.1).bind fun t296 => (if t296 = true then (if (wrap64 (bt266.2.2.2.2)) = bt276.2.2.2.2 then ((wicketmanref08_SameTexts.f k bt286.1 bt291.1).bind fun t297 => (if t297 = true then (if bt286.2.1 = bt291.2.1 then (some (bt286.2.2 == bt291.2.2)) else (some false)) else (some false))) else (some false)) else (some false))))))
theorem wicketmanlaw09_parses.mono : ∀ a0 k, LeO (wicketmanlaw09_parses.f k a0) (wicketmanlaw09_parses.f (k + 1) a0) := by
 intro a0 k
 unfold wicketmanlaw09_parses.f
 repeat' first
   | (with_reducible exact http_Lines.mono _ _)
   | (with_reducible exact wicketmanref08_SameTexts.mono _ _ _)
   | (with_reducible exact wicketmanref09_Lines.mono _ _)
   | (with_reducible exact wicketmanref09_Parse.mono _ _)
   | (with_reducible exact wicketmanref09_Same.mono _ _ _ _ _ _ _ _ _)
   | (with_reducible exact LeO.refl _)
   | (with_reducible exact LeO.none _)
   | (with_reducible refine LeO.ite ?_ ?_)
   | (with_reducible refine LeO.bind ?_ (fun _ => ?_))
   | exact http_Lines.mono _ _
   | exact wicketmanref08_SameTexts.mono _ _ _
   | exact wicketmanref09_Lines.mono _ _
   | exact wicketmanref09_Parse.mono _ _
   | exact wicketmanref09_Same.mono _ _ _ _ _ _ _ _ _
   | exact LeO.none _
   | refine LeO.ite ?_ ?_
   | refine LeO.bind ?_ (fun _ => ?_)
end Go.Proofs.YtpfbemcoblganaaDoor.Pall

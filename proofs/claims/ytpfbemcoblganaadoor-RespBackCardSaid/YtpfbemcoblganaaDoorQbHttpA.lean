/-
  Package http: what is needed, and what a path may be.
-/
import Derived.Test.YtpfbemcoblganaaDoorQbExt
import Derived.Test.YtpfbemcoblganaaDoorQbPlb
import Derived.Recover
import Derived.Defers
import Derived.Tactics2
import Derived.WalkLawsBesides
namespace Go.Proofs.YtpfbemcoblganaaDoor.Pl
open Go.RowKit Go.Proofs.YtpfbemcoblganaaDoor.Pall Go.Proofs.YtpfbemcoblganaaDoorW.PrintWords Go.Proofs.YtpfbemcoblganaaDoorW.PrintLast
set_option linter.unusedVariables false
set_option linter.unusedSimpArgs false
def pthB (c : UInt8) : Bool := decide (33 ≤ c.toNat) && decide (c.toNat ≤ 126)
def pathL (l : List UInt8) : Bool := Lib.hasPrefix l [47] && l.all pthB
end Go.Proofs.YtpfbemcoblganaaDoor.Pl

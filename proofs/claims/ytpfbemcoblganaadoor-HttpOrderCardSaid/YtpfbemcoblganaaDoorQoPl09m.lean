/-
  HttpMost: what requests with many fields are parsed as.
-/
import Derived.Test.YtpfbemcoblganaaDoorQoPl09s
namespace Go.Proofs.YtpfbemcoblganaaDoor.Pl
open Go.RowKit Go.Proofs.YtpfbemcoblganaaDoor.Pall Go.Proofs.YtpfbemcoblganaaDoorW.PrintWords
set_option linter.unusedVariables false
set_option linter.unusedSimpArgs false
def getL : List UInt8 := [71, 69, 84, 32, 47, 32, 72, 84, 84, 80, 47, 49, 46, 49]
def hostA : List UInt8 := [72, 111, 115, 116, 58, 32, 97]
theorem get_fst : fstE (mkB getL) = 0 := by decide +kernel
end Go.Proofs.YtpfbemcoblganaaDoor.Pl

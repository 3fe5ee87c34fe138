/-
  Layer 9: what the statements' own words come to: parses, Raw, known.
-/
import Derived.Test.YtpfbemcoblganaaDoorQmPl09
import Derived.Test.YtpfbemcoblganaaDoorQmPall10
import Derived.Test.YtpfbemcoblganaaDoorQmPall4
import Derived.Test.YtpfbemcoblganaaDoorQmPall3
import Derived.Test.YtpfbemcoblganaaDoorQmPall0
import Derived.Test.YtpfbemcoblganaaDoorQmPall2
namespace Go.Proofs.YtpfbemcoblganaaDoor.Pl
open Go.RowKit Go.Proofs.YtpfbemcoblganaaDoor.Pall Go.Proofs.YtpfbemcoblganaaDoorW.PrintWords Go.Proofs.YtpfbemcoblganaaDoorW.PrintLast
set_option linter.unusedVariables false
set_option linter.unusedSimpArgs false
theorem btsOf_nums (s : ByteArray) : btsOf s = numsL s.data.toList := rfl
end Go.Proofs.YtpfbemcoblganaaDoor.Pl

/-
  Layer 9: what the statements' own words come to: parses, Raw, known.
-/
import Derived.Test.YtpfbemcoblganaaDoorQoHp
import Derived.Test.YtpfbemcoblganaaDoorQoPall5
import Derived.Test.YtpfbemcoblganaaDoorQoPall6
import Derived.Test.YtpfbemcoblganaaDoorQoPall7
import Derived.Test.YtpfbemcoblganaaDoorQoPall8
import Derived.Test.YtpfbemcoblganaaDoorQoPall9
import Derived.Test.YtpfbemcoblganaaDoorQoPall4
import Derived.Test.YtpfbemcoblganaaDoorQoPall10
import Derived.Test.YtpfbemcoblganaaDoorQoPall3
import Derived.Test.YtpfbemcoblganaaDoorQoPall0
import Derived.Test.YtpfbemcoblganaaDoorQoPall2
namespace Go.Proofs.YtpfbemcoblganaaDoor.Pl
open Go.RowKit Go.Proofs.YtpfbemcoblganaaDoor.Pall Go.Proofs.YtpfbemcoblganaaDoorW.PrintWords Go.Proofs.YtpfbemcoblganaaDoorW.PrintLast
set_option linter.unusedVariables false
set_option linter.unusedSimpArgs false
theorem btsOf_nums (s : ByteArray) : btsOf s = numsL s.data.toList := rfl
end Go.Proofs.YtpfbemcoblganaaDoor.Pl

/-
  The printed walks' words, all.
-/
import Derived.Test.YtpfbemcoblganaaDoorWAllInvWordsWGuardMore
namespace Go.Proofs.YtpfbemcoblganaaDoorW.PrintMore
end Go.Proofs.YtpfbemcoblganaaDoorW.PrintMore

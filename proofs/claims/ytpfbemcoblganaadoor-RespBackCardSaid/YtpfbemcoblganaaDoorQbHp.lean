/-
  http.Parse as the printed functions call it.
-/
import Derived.Test.YtpfbemcoblganaaDoorQbHttpF
import Derived.Test.YtpfbemcoblganaaDoorQbLines
namespace Go.Proofs.YtpfbemcoblganaaDoor.Pl
open Go.RowKit Go.Proofs.YtpfbemcoblganaaDoor.Pall Go.Proofs.YtpfbemcoblganaaDoorW.PrintWords Go.Proofs.YtpfbemcoblganaaDoorW.PrintLast
set_option linter.unusedVariables false
set_option linter.unusedSimpArgs false
abbrev Req := ByteArray × ByteArray × List S43 × List Int × Int
def noReq (e : Int) : Req := (⟨#[]⟩, ⟨#[]⟩, [], [], e)
/-- a request of lines, and so many bytes behind them -/
def parseL (ls : List ByteArray) (bs : List Int) : Req :=
  match ls with
  | [] => noReq 10
  | x :: rest => if fstE x ≠ 0 then noReq (fstE x) else if 40 < rest.length then noReq 3 else if fldsE rest ≠ 0 then noReq (fldsE rest) else if bodyE (rest.map fldS) bs.length ≠ 0 then noReq (bodyE (rest.map fldS) bs.length) else (fstW x, sndW x, rest.map fldS, bs, 0)
def parseQ (l0 : List Int) : Req :=
  if (linesS (strOfNums l0).data.toList).2.2 = true then parseL (linesS (strOfNums l0).data.toList).1 (l0.drop (l0.length - (linesS (strOfNums l0).data.toList).2.1)) else noReq 10
end Go.Proofs.YtpfbemcoblganaaDoor.Pl
namespace Go.Proofs.YtpfbemcoblganaaDoor.Pall
open Go.RowKit Go.Proofs.YtpfbemcoblganaaDoor.Pl Go.Proofs.YtpfbemcoblganaaDoorW.PrintWords
def http_Parse.f (l0 : List Int) : Option (ByteArray × ByteArray × List S43 × List Int × Int) := if l0.length < 4294967281 then some (parseQ l0) else none
end Go.Proofs.YtpfbemcoblganaaDoor.Pall

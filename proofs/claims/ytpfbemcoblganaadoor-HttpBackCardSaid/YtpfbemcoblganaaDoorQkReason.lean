/-
  resp.Reason.
-/
import Derived.Test.YtpfbemcoblganaaDoorQkExt
import Derived.MapFrom
import Derived.Carry
namespace Go.Proofs.YtpfbemcoblganaaDoor.Pl
open Go.RowKit
open Go.MapKept (IsKey)
set_option linter.unusedVariables false
set_option linter.unusedSimpArgs false
def reasonsL : List (Int × ByteArray) := [(200, ⟨#[79, 75]⟩), (303, ⟨#[83, 101, 101, 32, 79, 116, 104, 101, 114]⟩), (400, ⟨#[66, 97, 100, 32, 82, 101, 113, 117, 101, 115, 116]⟩), (401, ⟨#[85, 110, 97, 117, 116, 104, 111, 114, 105, 122, 101, 100]⟩), (403, ⟨#[70, 111, 114, 98, 105, 100, 100, 101, 110]⟩), (404, ⟨#[78, 111, 116, 32, 70, 111, 117, 110, 100]⟩), (405, ⟨#[77, 101, 116, 104, 111, 100, 32, 78, 111, 116, 32, 65, 108, 108, 111, 119, 101, 100]⟩), (409, ⟨#[67, 111, 110, 102, 108, 105, 99, 116]⟩), (413, ⟨#[67, 111, 110, 116, 101, 110, 116, 32, 84, 111, 111, 32, 76, 97, 114, 103, 101]⟩), (429, ⟨#[84, 111, 111, 32, 77, 97, 110, 121, 32, 82, 101, 113, 117, 101, 115, 116, 115]⟩), (431, ⟨#[82, 101, 113, 117, 101, 115, 116, 32, 72, 101, 97, 100, 101, 114, 32, 70, 105, 101, 108, 100, 115, 32, 84, 111, 111, 32, 76, 97, 114, 103, 101]⟩), (503, ⟨#[83, 101, 114, 118, 105, 99, 101, 32, 85, 110, 97, 118, 97, 105, 108, 97, 98, 108, 101]⟩)]
/-- what a list of entries has at a number -/
def atI (l : List (Int × ByteArray)) (n : Int) : Option ByteArray := (l.find? fun p => p.1 == n).map (·.2)
def reasonS (n : Int) : ByteArray := (atI reasonsL n).getD ByteArray.empty
end Go.Proofs.YtpfbemcoblganaaDoor.Pl

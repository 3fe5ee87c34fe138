/-
  Package http: Parse, by its parts.
-/
import Derived.Test.YtpfbemcoblganaaDoorQbHttpD
import Derived.Tactics
import Derived.Laws.Pointers
import Derived.Test.YtpfbemcoblganaaDoorQbPall2
namespace Go.Proofs.YtpfbemcoblganaaDoor.Pl
open Go.RowKit Go.Proofs.YtpfbemcoblganaaDoor.Pall Go.Proofs.YtpfbemcoblganaaDoorW.PrintWords Go.Proofs.YtpfbemcoblganaaDoorW.PrintLast
set_option linter.unusedVariables false
set_option linter.unusedSimpArgs false
/-- the two results' variables, as they were laid -/
structure Door (w W : World) : Prop where
  bel : Below w.heap.size w W
  q : W.heap[w.heap.size]? = some (.cells #[.string ⟨#[]⟩, .string ⟨#[]⟩, .slice none 0 0, .slice none 0 0] 36 (0, 0))
  e : W.heap[w.heap.size + 1]? = some (.cells #[.int .u16 0] 24 (0, 0))
theorem Door.lt {w W : World} (h : Door w W) : w.heap.size + 2 ≤ W.heap.size := (Array.getElem?_eq_some_iff.1 h.e).1
theorem Door.below {w W W' : World} {b : Nat} (h : Door w W) (hb : Below b W W') (hlt : w.heap.size + 2 ≤ b) : Door w W' :=
  ⟨h.bel.trans (hb.mono (by omega)), (hb.block _ (by omega)).trans h.q, (hb.block _ (by omega)).trans h.e⟩
/-- the reader is made: what stands then -/
structure Made (w W1 W2 : World) (b g c : Nat) (x : ByteArray) (rest : List ByteArray) : Prop where
  door : Door w W2
  bel : Below W1.heap.size W1 W2
  rd : Rd W2 b ⟨#[]⟩ ⟨#[]⟩ (.slice none 0 0) (.slice none 0 0) (.slice (some ⟨g, 0, none⟩) (rest.length + 1) c)
  eq : b = W1.heap.size
  gl : g < b
  ge : w.heap.size + 2 ≤ b
  cap : rest.length + 1 ≤ c
  fst : W2.cell? ⟨g, 0, none⟩ = some (.string x)
  nxt : ∀ j, j < rest.length → W2.cell? ⟨g, 1 + j, none⟩ = some (.string (rest.getD j ByteArray.empty))
def fstW (x : ByteArray) : ByteArray := (wordsL x).getD 0 ByteArray.empty
def sndW (x : ByteArray) : ByteArray := (wordsL x).getD 1 ByteArray.empty
def okW : List ByteArray → Bool
  | [a, b, c] => tokL a.data.toList && (pathL b.data.toList && (c.toList == [72, 84, 84, 80, 47, 49, 46, 49]))
  | _ => false
/-- what is wrong with a first line -/
def fstE (x : ByteArray) : Int := if 2000 < x.size then 3 else if okW (wordsL x) = true then 0 else 11
/-- behind the first line -/
structure Gone (w W : World) (b g c : Nat) (m p : ByteArray) (rest : List ByteArray) : Prop where
  door : Door w W
  rd : Rd W b m p (.slice none 0 0) (.slice none 0 0) (.slice (some ⟨g, 0, none⟩) (rest.length + 1) c)
  gl : g < b
  ge : w.heap.size + 2 ≤ b
  cap : rest.length + 1 ≤ c
  nxt : ∀ j, j < rest.length → W.cell? ⟨g, 1 + j, none⟩ = some (.string (rest.getD j ByteArray.empty))
end Go.Proofs.YtpfbemcoblganaaDoor.Pl

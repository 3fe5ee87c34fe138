/-
  From a row's readings to the forms that the printed walks take: slices of numbers, bools, strings and pairs, and what their parts weigh.
-/
import Derived.Test.YtgajaaagpihlkaaDoorLawRow
import Derived.Test.YtgajaaagpihlkaaDoorExt
import Derived.Test.YtgajaaagpihlkaaDoorWSized
import Derived.Shelf.Vars
import Derived.SliceStrings
import Derived.Deep.Slices
import Derived.Lib.SmallJoins
namespace Go.Proofs.YtgajaaagpihlkaaDoor.Pall
open Go.ChangeShapes Go.WideShapes Go.ChangeAt Go.RowKit Go.Proofs.YtgajaaagpihlkaaDoorW Go.Proofs.YtgajaaagpihlkaaDoorW.PrintWords
set_option linter.unusedVariables false

theorem cell_of_shapedOpen_int' {w : World} (h : w.ShapedOpen Tryd.prog) : Sh w :=
  cell_of_shapedOpen_int h (t := 3) (zero := #[.int .i64 0]) (of_decide_eq_true (by kernel_rfl)) (by kernel_rfl) rfl (by kernel_rfl) (by kernel_rfl) Tryd.underlying3

section
variable {H : Type} {enc : TypeId × Value → H} {P : Program} {W : World} {d : DataW H} {ps : List MemPlace} {ts : List TypeId} {ds : List (DataW H)} {j : Nat}
theorem ints_row {t e : TypeId} {k : IntKind} {a : Option Addr} {len cap : Nat} (hu : P.underlying t = some (.slice e)) (he : P.underlying e = some (.int k)) (hc : P.cellsOf e = 1)
    (h : DataW.Trod enc P W 0 (fun _ => true) true t (.slice a len cap) d ps) :
    ∃ zs : List Int, (a = none ∧ len = 0 ∧ cap = 0 ∧ zs = []) ∨ ∃ x, a = some x ∧ len ≤ cap ∧ cap ≤ maxLen ∧ zs.length = cap ∧ (∀ i, i < zs.length → W.cell? (x.add i) = some (.int k (zs.getD i 0))) ∧ ∀ n ∈ zs, (Lit.int k n).wf = true := by
  obtain ⟨fuel, hf⟩ := h
  rcases open_ints hu he hc hf with ⟨hcs, _⟩ | ⟨x, l, c, zs, hcs, _, hl, hm, hz, _, hcell, hwz⟩
  · simp [Value.cells] at hcs
    obtain ⟨rfl, rfl, rfl⟩ := hcs
    exact ⟨[], .inl ⟨rfl, rfl, rfl, rfl⟩⟩
  · simp [Value.cells] at hcs
    obtain ⟨rfl, rfl, rfl⟩ := hcs
    exact ⟨zs, .inr ⟨_, rfl, hl, hm, by simpa using hz, hcell, hwz⟩⟩
end
end Go.Proofs.YtgajaaagpihlkaaDoor.Pall

/-
  From a row's readings to the forms that the printed walks take: slices of numbers, bools, strings and pairs, and what their parts weigh.
-/
import Derived.Test.YtipbgnhhmgljnaaDoorLawRow
import Derived.Test.YtipbgnhhmgljnaaDoorExt
import Derived.Test.YtipbgnhhmgljnaaDoorWSized
import Derived.Shelf.Vars
import Derived.SliceStrings
import Derived.Deep.Slices
import Derived.Lib.SmallJoins
import Derived.Stop.LaidErr
import Derived.MakeChecks
namespace Go.Proofs.YtipbgnhhmgljnaaDoor.Pall
open Go.ChangeShapes Go.WideShapes Go.ChangeAt Go.RowKit Go.Proofs.YtipbgnhhmgljnaaDoorW Go.Proofs.YtipbgnhhmgljnaaDoorW.PrintWords
set_option linter.unusedVariables false

theorem laidMet_drop {P : Program} {w : World} : ∀ (i : Nat) {L : List (String × DataW Unit)}, laidMet P L w → laidMet P (L.drop i) w
  | 0, _, h => h
  | i + 1, [], h => h
  | i + 1, x :: L, h => laidMet_drop i (laidMet.tail h)
theorem sh_of {w : World} (h : w.ShapedOpen Tryd.prog) {L rest : List (String × DataW Unit)} (hL : laidMetH Tryd.prog L w) (hp : (L.all fun x => x.2.handleName?.isNone) = true) (i : Nat) (hd : L.drop i = ("internal/strconv.uint64pow10", Lib.tabData .u64 Lib.pow10Tab) :: rest) : Sh w := by
  rw [MakeChecks.laidMetH_plain _ _ _ hp] at hL
  have h1 := laidMet_drop i hL
  rw [hd] at h1
  exact ⟨cell_of_shapedOpen_int h (t := 3) (zero := #[.int .i64 0]) (of_decide_eq_true (by kernel_rfl)) (by kernel_rfl) rfl (by kernel_rfl) (by kernel_rfl) Tryd.underlying3,
    Lib.tabIs_of_head (g := 3) (t := 91) (e := 79) (by kernel_rfl) (by kernel_rfl) Tryd.underlying91 Tryd.underlying79 (by kernel_rfl) (by kernel_rfl) h1⟩
section
variable {H : Type} {enc : TypeId × Value → H} {P : Program} {W : World} {d : DataW H} {ps : List MemPlace} {ts : List TypeId} {ds : List (DataW H)} {j : Nat}
theorem ints_row {t e : TypeId} {k : IntKind} {a : Option Addr} {len cap : Nat} (hu : P.underlying t = some (.slice e)) (he : P.underlying e = some (.int k)) (hc : P.cellsOf e = 1)
    (h : DataW.Trod enc P W 0 (fun _ => true) true t (.slice a len cap) d ps) :
    ∃ zs : List Int, (a = none ∧ len = 0 ∧ cap = 0 ∧ zs = []) ∨ ∃ x, a = some x ∧ len ≤ cap ∧ cap ≤ maxLen ∧ zs.length = cap ∧ (∀ i, i < zs.length → W.cell? (x.add i) = some (.int k (zs.getD i 0))) ∧ ∀ n ∈ zs, (Lit.int k n).wf = true := by
  obtain ⟨fuel, hf⟩ := h
  rcases open_ints hu he hc hf with ⟨hcs, _⟩ | ⟨x, l, c, zs, hcs, _, hl, hm, hz, _, hcell, hwz⟩
  · simp [Value.cells] at hcs
    obtain ⟨rfl, rfl, rfl⟩ := hcs
    exact ⟨[], .inl ⟨rfl, rfl, rfl, rfl⟩⟩
  · simp [Value.cells] at hcs
    obtain ⟨rfl, rfl, rfl⟩ := hcs
    exact ⟨zs, .inr ⟨_, rfl, hl, hm, by simpa using hz, hcell, hwz⟩⟩
end
end Go.Proofs.YtipbgnhhmgljnaaDoor.Pall
namespace Go.Proofs.YtipbgnhhmgljnaaDoor.Pall
open Go.ChangeShapes Go.WideShapes Go.ChangeAt Go.RowKit Go.Proofs.YtipbgnhhmgljnaaDoorW Go.Proofs.YtipbgnhhmgljnaaDoorW.PrintWords
section
variable {H : Type} {enc : TypeId × Value → H} {P : Program} {W : World} {d : DataW H} {ps : List MemPlace} {ts : List TypeId} {ds : List (DataW H)} {j : Nat}
/-- A string that lies somewhere in an argument: its length is one of the weights. -/
theorem str_of_trod {e : TypeId} {n : Nat} {v : Value} {x : DataW H × List MemPlace} (he : P.underlying e = some .string) (h : DataW.trod enc P W 0 (fun _ => true) true n e [v] = some x) :
    ∃ s : ByteArray, v = .string s ∧ x.1 = .lit (.string s.data.toList) := by
  obtain ⟨s, hv, hx, _⟩ := DataW.trod_string he h
  injection hv with hv _
  exact ⟨s, hv, by rw [hx]⟩
theorem weight_le (hsz : (DataW.weightsEach P ts ds).all (· ≤ reachBytes) = true) {t : TypeId} (ht : ts[j]? = some t) (hd : ds[j]? = some d) {n : Nat} (hn : n ∈ d.weights P t) : n ≤ 140737488351232 :=
  of_decide_eq_true (List.all_eq_true.1 hsz n (DataW.weights_mem_each ht hd n hn))
theorem pair_open {t : TypeId} {f0 f1 : Field} {b0 : Nat} {v : Value} (hsz : (DataW.weightsEach P ts ds).all (· ≤ reachBytes) = true) (ht : ts[j]? = some t) (hd : ds[j]? = some d)
    (hs : P.underlying t = some (.struct #[f0, f1])) (he : P.underlying f0.type = some .string ∧ P.underlying f1.type = some .string) (hone : Deep.oneCellFields P #[f0, f1] = true ∧ P.cellsOf t = 2)
    (hv : Value.okWide P W .any b0 t v) (h : DataW.Trod enc P W 0 (fun _ => true) true t v d ps) :
    ∃ a b : ByteArray, v = .agg #[.string a, .string b] ∧ a.size ≤ 140737488351232 ∧ b.size ≤ 140737488351232 := by
  obtain ⟨v0, v1, y0, y1, n, rfl, rfl, rfl, h0, h1⟩ := Joins.open_agg2 hs hone.1 hone.2 hv h
  obtain ⟨a, rfl, ea⟩ := str_of_trod he.1 h0
  obtain ⟨b, rfl, eb⟩ := str_of_trod he.2 h1
  have ew : (DataW.agg [y0.1, y1.1] : DataW H).weights P t = [a.size, b.size] := by
    rw [ea, eb]; simp only [DataW.weights, hs]; rfl
  exact ⟨a, b, rfl, weight_le hsz ht hd (by rw [ew]; simp), weight_le hsz ht hd (by rw [ew]; simp)⟩
end
end Go.Proofs.YtipbgnhhmgljnaaDoor.Pall

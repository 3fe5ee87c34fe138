/-
  From a law's walk to its row: a call that returns true, and leaves all that was there as it was, meets the law's statement, whatever the kinds of its arguments. The listed variables are known to hold what is listed, and the world is well shaped.
  From a row's readings to the forms that the printed walks take: slices of numbers, bools, strings and pairs, and what their parts weigh.
  From a row's readings to the forms that the printed walks take: slices of bools, of strings and of pairs.
-/
import Derived.Test.YtpfbemcoblganaaGreatDoorRows
import Derived.WalkKit
import Derived.ProofKit
import Derived.OpenShut
import Derived.ShutString
import Derived.ChangeOld
import Derived.Below
import Derived.SizedLaws
import Derived.LaidMore
import Derived.Lay
import Derived.SevenTiedAt
import Derived.Stop.Joined
import Derived.Test.YtpfbemcoblganaaGreatDoorQzExt
import Derived.ChangeSlices
import Derived.Shelf.Vars
import Derived.SliceStrings
import Derived.Deep.Slices
import Derived.Lib.SmallJoins
import Derived.Stop.LaidErr
import Derived.MakeChecks
import Derived.Test.YtpfbemcoblganaaGreatDoorQzPall0
namespace Go.Proofs.YtpfbemcoblganaaGreatDoor
open Go.ChangeShapes Go.WideShapes Go.ChangeAt Go.RowKit
set_option linter.unusedVariables false
theorem belowAll {H : Type} {enc : TypeId × Value → H} {P : Program} (hl : laidOutB P = true) {W W' : World} (hb : Below W.heap.size W W') :
    ∀ {ts : List TypeId} (hr : (ts.all fun t => P.readableRec t && decide (t < P.types.size)) = true) {vs : List Value} {ds : List (DataW H)} {ps : List MemPlace},
      DataW.TrodAll enc P W 0 (fun _ => true) true ts vs ds ps → DataW.TrodAll enc P W' 0 (fun b => decide (b < W.heap.size)) true ts vs ds ps
  | [], _, [], [], _, h => h
  | t :: ts, hr, v :: vs, d :: ds, ps, h => by
    obtain ⟨p, q, h1, h2, rfl⟩ := h
    simp only [List.all_cons, Bool.and_eq_true, decide_eq_true_eq] at hr
    have hlt : ∀ x ∈ p, x.block < W.heap.size := by obtain ⟨m, hm⟩ := h1; exact DataW.trod_lt m _ _ _ hm
    exact ⟨p, q, Below.trod hl hr.1.1 hr.1.2 h1 hb hlt, belowAll hl hb hr.2 h2, rfl⟩
  | [], _, [], _ :: _, _, h => h.elim
  | [], _, _ :: _, [], _, h => h.elim
  | [], _, _ :: _, _ :: _, _, h => h.elim
  | _ :: _, _, [], [], _, h => h.elim
  | _ :: _, _, [], _ :: _, _, h => h.elim
  | _ :: _, _, _ :: _, [], _, h => h.elim
end Go.Proofs.YtpfbemcoblganaaGreatDoor
namespace Go.Proofs.YtpfbemcoblganaaGreatDoor.Pall
open Go.ChangeShapes Go.WideShapes Go.ChangeAt Go.RowKit Go.Proofs.YtpfbemcoblganaaGreatDoorW Go.Proofs.YtpfbemcoblganaaGreatDoorW.PrintWords
set_option linter.unusedVariables false
theorem cell_of_shapedOpen_int' {w : World} (h : w.ShapedOpen Tryz.prog) : Sh w :=
  cell_of_shapedOpen_int h (t := 3) (zero := #[.int .i64 0]) (of_decide_eq_true (by kernel_rfl)) (by kernel_rfl) rfl (by kernel_rfl) (by kernel_rfl) Tryz.underlying3
section
variable {H : Type} {enc : TypeId × Value → H} {P : Program} {W : World} {d : DataW H} {ps : List MemPlace} {ts : List TypeId} {ds : List (DataW H)} {j : Nat}
theorem ints_row {t e : TypeId} {k : IntKind} {a : Option Addr} {len cap : Nat} (hu : P.underlying t = some (.slice e)) (he : P.underlying e = some (.int k)) (hc : P.cellsOf e = 1)
    (h : DataW.Trod enc P W 0 (fun _ => true) true t (.slice a len cap) d ps) :
    ∃ zs : List Int, (a = none ∧ len = 0 ∧ cap = 0 ∧ zs = []) ∨ ∃ x, a = some x ∧ len ≤ cap ∧ cap ≤ maxLen ∧ zs.length = cap ∧ (∀ i, i < zs.length → W.cell? (x.add i) = some (.int k (zs.getD i 0))) ∧ ∀ n ∈ zs, (Lit.int k n).wf = true := by
  obtain ⟨fuel, hf⟩ := h
  rcases open_ints hu he hc hf with ⟨hcs, _⟩ | ⟨x, l, c, zs, hcs, _, hl, hm, hz, _, hcell, hwz⟩
  · simp [Value.cells] at hcs
    obtain ⟨rfl, rfl, rfl⟩ := hcs
    exact ⟨[], .inl ⟨rfl, rfl, rfl, rfl⟩⟩
  · simp [Value.cells] at hcs
    obtain ⟨rfl, rfl, rfl⟩ := hcs
    exact ⟨zs, .inr ⟨_, rfl, hl, hm, by simpa using hz, hcell, hwz⟩⟩
end
end Go.Proofs.YtpfbemcoblganaaGreatDoor.Pall
namespace Go.Proofs.YtpfbemcoblganaaGreatDoor.Pall
open Go.ChangeShapes Go.WideShapes Go.ChangeAt Go.RowKit Go.Proofs.YtpfbemcoblganaaGreatDoorW Go.Proofs.YtpfbemcoblganaaGreatDoorW.PrintWords
section
variable {H : Type} {enc : TypeId × Value → H} {P : Program} {W : World} {d : DataW H} {ps : List MemPlace} {ts : List TypeId} {ds : List (DataW H)} {j : Nat}
/-- A string that lies somewhere in an argument: its length is one of the weights. -/
theorem str_of_trod {e : TypeId} {n : Nat} {v : Value} {x : DataW H × List MemPlace} (he : P.underlying e = some .string) (h : DataW.trod enc P W 0 (fun _ => true) true n e [v] = some x) :
    ∃ s : ByteArray, v = .string s ∧ x.1 = .lit (.string s.data.toList) := by
  obtain ⟨s, hv, hx, _⟩ := DataW.trod_string he h
  injection hv with hv _
  exact ⟨s, hv, by rw [hx]⟩
theorem weight_le (hsz : (DataW.weightsEach P ts ds).all (· ≤ reachBytes) = true) {t : TypeId} (ht : ts[j]? = some t) (hd : ds[j]? = some d) {n : Nat} (hn : n ∈ d.weights P t) : n ≤ 140737488351232 :=
  of_decide_eq_true (List.all_eq_true.1 hsz n (DataW.weights_mem_each ht hd n hn))
end
end Go.Proofs.YtpfbemcoblganaaGreatDoor.Pall
namespace Go.Proofs.YtpfbemcoblganaaGreatDoor.Pall
open Go.ChangeShapes Go.WideShapes Go.ChangeAt Go.RowKit Go.Proofs.YtpfbemcoblganaaGreatDoorW Go.Proofs.YtpfbemcoblganaaGreatDoorW.PrintWords
set_option linter.unusedVariables false
set_option maxRecDepth 4000
section
variable {H : Type} {enc : TypeId × Value → H} {P : Program} {W : World} {d : DataW H} {ps : List MemPlace} {ts : List TypeId} {ds : List (DataW H)} {j : Nat}
theorem slice_value {a : Option Addr} {len cap : Nat} {v : Value} (h : (Value.slice a len cap).cells.toList = [v]) : v = .slice a len cap := by
  simp [Value.cells] at h; exact h.symm
theorem weightsAll_mem {e : TypeId} : ∀ {l : List (DataW H)} {x : DataW H} {n : Nat}, x ∈ l → n ∈ x.weights P e → n ∈ DataW.weightsAll P e l
  | y :: l, x, n, hx, hn => by
    rw [DataW.weightsAll]
    rcases List.mem_cons.1 hx with rfl | hx
    · exact List.mem_append_left _ hn
    · exact List.mem_append_right _ (weightsAll_mem hx hn)
theorem slice_weight {t e : TypeId} {a : Option Addr} {len cap : Nat} (hsz : (DataW.weightsEach P ts ds).all (· ≤ reachBytes) = true) (ht : ts[j]? = some t) (hd : ds[j]? = some d) (hu : P.underlying t = some (.slice e))
    (h : DataW.Trod enc P W 0 (fun _ => true) true t (.slice a len cap) d ps) : len * P.bytesOf e ≤ 140737488351232 := by
  obtain ⟨fuel, hf⟩ := h
  rcases Deep.open_slice hu hf with ⟨hcs, hx⟩ | ⟨x, l, c, m, n, D, Pl, hcs, _, hl, hm, hmm, hx, hi⟩
  · have := slice_value hcs; injection this with e1 e2 e3
    subst e2; omega
  · have := slice_value hcs; injection this with e1 e2 e3
    subst e2
    injection hx with hdd _
    have hle : l ≤ m := by rw [hmm]; simp; exact hl
    have := weight_le hsz ht hd (n := (l + (m - l)) * P.bytesOf e) (by
      rw [hdd, DataW.weights, hu]
      refine List.mem_cons.2 (.inl ?_)
      simp)
    exact Nat.le_trans (Nat.mul_le_mul_right _ (by omega)) this
end
end Go.Proofs.YtpfbemcoblganaaGreatDoor.Pall

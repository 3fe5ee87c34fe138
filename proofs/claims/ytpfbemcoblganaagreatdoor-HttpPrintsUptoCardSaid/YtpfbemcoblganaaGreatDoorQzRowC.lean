/-
  From a row's readings to the forms that the walks take: a response and a request as parameters.
-/
import Derived.Test.YtpfbemcoblganaaGreatDoorQzRow
namespace Go.Proofs.YtpfbemcoblganaaGreatDoor.Pall
open Go.ChangeShapes Go.WideShapes Go.ChangeAt Go.RowKit Go.Proofs.YtpfbemcoblganaaGreatDoorW Go.Proofs.YtpfbemcoblganaaGreatDoorW.PrintWords
set_option linter.unusedVariables false
set_option maxRecDepth 4000
section
variable {H : Type} {enc : TypeId × Value → H} {P : Program} {W : World} {d : DataW H} {ps : List MemPlace} {ts : List TypeId} {ds : List (DataW H)} {j : Nat}
theorem agg_sized {t : TypeId} {fs : Array Field} {parts : List (DataW H)} (hsz : (DataW.weightsEach P ts ds).all (· ≤ reachBytes) = true) (ht : ts[j]? = some t) (hd : ds[j]? = some (.agg parts)) (hs : P.underlying t = some (.struct fs)) :
    (DataW.weightsEach P (fs.toList.map (·.type)) parts).all (· ≤ reachBytes) = true := by
  rw [List.all_eq_true]
  intro n hn
  exact List.all_eq_true.1 hsz n (DataW.weights_mem_each ht hd n (by rw [DataW.weights, hs]; exact hn))
theorem slice_form {n : Nat} {t e : TypeId} {v : Value} {x : DataW H × List MemPlace} (hu : P.underlying t = some (.slice e)) (h : DataW.trod enc P W 0 (fun _ => true) true n t [v] = some x) :
    ∃ a len cap, v = .slice a len cap ∧ DataW.Trod enc P W 0 (fun _ => true) true t (.slice a len cap) x.1 x.2 := by
  have h0 := h
  rcases Deep.open_slice hu h with ⟨hcs, hx⟩ | ⟨a, l, c, m, n', D, Pl, hcs, _⟩
  · injection hcs with hv _
    subst hv
    exact ⟨_, _, _, rfl, n, h0⟩
  · injection hcs with hv _
    subst hv
    exact ⟨_, _, _, rfl, n, h0⟩
theorem bytes_row {t : TypeId} {a : Option Addr} {len cap : Nat} (hsz : (DataW.weightsEach Tryz.prog ts ds).all (· ≤ reachBytes) = true) (ht : ts[j]? = some t) (hd : ds[j]? = some d) (hu : Tryz.prog.underlying t = some (.slice 5))
    (h : DataW.Trod enc Tryz.prog W 0 (fun _ => true) true t (.slice a len cap) d ps) :
    ∃ l : List Int, len = l.length ∧ Kd.C (Kd.int .u8) W a l.length l ∧ l.length ≤ cap ∧ (∀ x ∈ l, (Lit.int .u8 x).wf = true) ∧ l.length ≤ 140737488351232 := by
  have hw := slice_weight hsz ht hd hu h
  rw [show Tryz.prog.bytesOf 5 = 1 by kernel_rfl] at hw
  obtain ⟨z, w⟩ := ints_row hu Tryz.underlying5 (by kernel_rfl) h
  obtain ⟨l, rfl, hr, hm, hwf, hc⟩ := ReadsInt.ofRowC w
  exact ⟨l, rfl, Kd.C_of_reads (d := (0 : Int)) (h1 := fun _ => rfl) hr, hc, hwf, by omega⟩
end
end Go.Proofs.YtpfbemcoblganaaGreatDoor.Pall

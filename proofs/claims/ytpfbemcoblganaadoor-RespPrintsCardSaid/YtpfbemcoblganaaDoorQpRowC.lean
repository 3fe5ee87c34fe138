/-
  From a row's readings to the forms that the walks take: a response and a request as parameters.
-/
import Derived.Test.YtpfbemcoblganaaDoorQpRow
namespace Go.Proofs.YtpfbemcoblganaaDoor.Pall
open Go.ChangeShapes Go.WideShapes Go.ChangeAt Go.RowKit Go.Proofs.YtpfbemcoblganaaDoorW Go.Proofs.YtpfbemcoblganaaDoorW.PrintWords
set_option linter.unusedVariables false
set_option maxRecDepth 4000
section
variable {H : Type} {enc : TypeId × Value → H} {P : Program} {W : World} {d : DataW H} {ps : List MemPlace} {ts : List TypeId} {ds : List (DataW H)} {j : Nat}
theorem agg_sized {t : TypeId} {fs : Array Field} {parts : List (DataW H)} (hsz : (DataW.weightsEach P ts ds).all (· ≤ reachBytes) = true) (ht : ts[j]? = some t) (hd : ds[j]? = some (.agg parts)) (hs : P.underlying t = some (.struct fs)) :
    (DataW.weightsEach P (fs.toList.map (·.type)) parts).all (· ≤ reachBytes) = true := by
  rw [List.all_eq_true]
  intro n hn
  exact List.all_eq_true.1 hsz n (DataW.weights_mem_each ht hd n (by rw [DataW.weights, hs]; exact hn))
theorem slice_form {n : Nat} {t e : TypeId} {v : Value} {x : DataW H × List MemPlace} (hu : P.underlying t = some (.slice e)) (h : DataW.trod enc P W 0 (fun _ => true) true n t [v] = some x) :
    ∃ a len cap, v = .slice a len cap ∧ DataW.Trod enc P W 0 (fun _ => true) true t (.slice a len cap) x.1 x.2 := by
  have h0 := h
  rcases Deep.open_slice hu h with ⟨hcs, hx⟩ | ⟨a, l, c, m, n', D, Pl, hcs, _⟩
  · injection hcs with hv _
    subst hv
    exact ⟨_, _, _, rfl, n, h0⟩
  · injection hcs with hv _
    subst hv
    exact ⟨_, _, _, rfl, n, h0⟩
theorem bytes_row {t : TypeId} {a : Option Addr} {len cap : Nat} (hsz : (DataW.weightsEach Tryd.prog ts ds).all (· ≤ reachBytes) = true) (ht : ts[j]? = some t) (hd : ds[j]? = some d) (hu : Tryd.prog.underlying t = some (.slice 5))
    (h : DataW.Trod enc Tryd.prog W 0 (fun _ => true) true t (.slice a len cap) d ps) :
    ∃ l : List Int, len = l.length ∧ Kd.C (Kd.int .u8) W a l.length l ∧ l.length ≤ cap ∧ (∀ x ∈ l, (Lit.int .u8 x).wf = true) ∧ l.length ≤ 140737488351232 := by
  have hw := slice_weight hsz ht hd hu h
  rw [show Tryd.prog.bytesOf 5 = 1 by kernel_rfl] at hw
  obtain ⟨z, w⟩ := ints_row hu Tryd.underlying5 (by kernel_rfl) h
  obtain ⟨l, rfl, hr, hm, hwf, hc⟩ := ReadsInt.ofRowC w
  exact ⟨l, rfl, Kd.C_of_reads (d := (0 : Int)) (h1 := fun _ => rfl) hr, hc, hwf, by omega⟩
theorem resp_open {v : Value} {b0 : Nat} (hsz : (DataW.weightsEach Tryd.prog ts ds).all (· ≤ reachBytes) = true) (ht : ts[j]? = some 51) (hd : ds[j]? = some d)
    (hv : Value.okWide Tryd.prog W .any b0 51 v) (h : DataW.Trod enc Tryd.prog W 0 (fun _ => true) true 51 v d ps) :
    ∃ (s : Int) (A : Option Addr) (c : Nat) (l : List S43) (B : Option Addr) (e : Nat) (m : List Int), v = .agg #[.int .i64 s, .slice A l.length c, .slice B m.length e] ∧ (Lit.int .i64 s).wf = true ∧
      Kd.C k43 W A l.length l ∧ l.length ≤ c ∧ (∀ x ∈ l, x.f0.size ≤ 140737488351232 ∧ x.f1.size ≤ 140737488351232) ∧ l.length * 32 ≤ 140737488351232 ∧
      Kd.C (Kd.int .u8) W B m.length m ∧ m.length ≤ e ∧ (∀ x ∈ m, (Lit.int .u8 x).wf = true) ∧ m.length ≤ 140737488351232 := by
  obtain ⟨v0, v1, v2, y0, y1, y2, n, rfl, rfl, _, h0, h1, h2⟩ := Joins.open_agg3 Tryd.underlying51 (by kernel_rfl) (by kernel_rfl) hv h
  have hz := agg_sized hsz ht hd Tryd.underlying51
  obtain ⟨s, hs, _, hws⟩ := DataW.trod_int Tryd.underlying3 h0
  injection hs with hs _
  subst hs
  obtain ⟨A, l1, c, rfl, g1⟩ := slice_form Tryd.underlying34 h1
  obtain ⟨B, l2, e, rfl, g2⟩ := slice_form Tryd.underlying22 h2
  obtain ⟨l, rfl, q1, q2, q3, q4⟩ := pairs_row rfl hz (j := 1) (t := 34) rfl rfl Tryd.underlying34 g1
  obtain ⟨m, rfl, p1, p2, p3, p4⟩ := bytes_row hz (j := 2) (t := 22) rfl rfl Tryd.underlying22 g2
  exact ⟨s, A, c, l, B, e, m, rfl, hws, q1, q2, q3, q4, p1, p2, p3, p4⟩
end
end Go.Proofs.YtpfbemcoblganaaDoor.Pall

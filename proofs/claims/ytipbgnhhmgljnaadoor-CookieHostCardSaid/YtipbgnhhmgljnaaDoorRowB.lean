/-
  From a row's readings to the forms that the printed walks take: slices of bools, of strings and of pairs.
-/
import Derived.Test.YtipbgnhhmgljnaaDoorRowA
import Derived.Test.YtipbgnhhmgljnaaDoorPall0
namespace Go.Proofs.YtipbgnhhmgljnaaDoor.Pall
open Go.ChangeShapes Go.WideShapes Go.ChangeAt Go.RowKit Go.Proofs.YtipbgnhhmgljnaaDoorW Go.Proofs.YtipbgnhhmgljnaaDoorW.PrintWords
set_option linter.unusedVariables false
set_option maxRecDepth 4000
section
variable {H : Type} {enc : TypeId × Value → H} {P : Program} {W : World} {d : DataW H} {ps : List MemPlace} {ts : List TypeId} {ds : List (DataW H)} {j : Nat}

theorem slice_value {a : Option Addr} {len cap : Nat} {v : Value} (h : (Value.slice a len cap).cells.toList = [v]) : v = .slice a len cap := by
  simp [Value.cells] at h; exact h.symm
/-- Slices of one cell an element: out of what each element is. -/
theorem one_row {α : Type} (f : α → Value) (d0 : α) (h1 : ∀ x, (f x).oneCell' = true) {t e : TypeId} {a : Option Addr} {len cap : Nat} (hu : P.underlying t = some (.slice e)) (hc : P.cellsOf e = 1)
    (Q : α → DataW H → Prop) (he : ∀ (n : Nat) (v : Value) (x : DataW H × List MemPlace), DataW.trod enc P W 0 (fun _ => true) true n e [v] = some x → ∃ y, v = f y ∧ Q y x.1)
    (h : DataW.Trod enc P W 0 (fun _ => true) true t (.slice a len cap) d ps) :
    ∃ l : List α, len = l.length ∧ Kd.C (Kd.scalar f h1) W a l.length l ∧ l.length ≤ cap ∧ (d = .nil ∧ l = [] ∨ ∃ elems spare, d = .slice elems spare ∧ elems.length = l.length ∧ ∀ i (hi : i < l.length), ∃ z, elems[i]? = some z ∧ Q (l.getD i d0) z) := by
  obtain ⟨fuel, hf⟩ := h
  rcases Deep.open_slice1 hu hc hf with ⟨hcs, hx⟩ | ⟨x, l, c, m, n, V, D, Pl, hcs, _, hl, hm, hmm, hx, hi⟩
  · have := slice_value hcs; injection this with e1 e2 e3
    subst e1; subst e2; subst e3
    injection hx with hd _
    refine ⟨[], rfl, Kd.C_of_reads (d := d0) ⟨rfl, by simp, fun h => absurd h (by simp)⟩, Nat.le_refl _, .inl ⟨hd, rfl⟩⟩
  · have := slice_value hcs; injection this with e1 e2 e3
    subst e1; subst e2; subst e3
    have hml : l ≤ m := by rw [hmm]; simp; exact hl
    have hch : ∀ i, i < l → ∃ y, V i = f y ∧ Q y (D i) := fun i h' => he n (V i) _ (hi i (by omega)).2
    let g : Nat → α := fun i => if h' : i < l then Classical.choose (hch i h') else d0
    have hg : ∀ i, i < l → V i = f (g i) ∧ Q (g i) (D i) := fun i h' => by
      show V i = f (if h' : i < l then Classical.choose (hch i h') else d0) ∧ Q (if h' : i < l then Classical.choose (hch i h') else d0) (D i)
      rw [dif_pos h']; exact Classical.choose_spec (hch i h')
    have hget : ∀ i, i < l → ((List.range l).map g).getD i d0 = g i := fun i h' => by simp [List.getD, h']
    have hlen : ((List.range l).map g).length = l := by simp
    have hM : l ≤ 9223372036854775807 := by unfold maxLen at hm; omega
    injection hx with hd _
    refine ⟨(List.range l).map g, hlen.symm, Kd.C_of_reads (d := d0) ?_, by rw [hlen]; exact hl, .inr ⟨_, _, hd, by simp, fun i hi' => ?_⟩⟩
    · rw [hlen]
      refine ⟨hlen, hM, fun _ => ⟨x, rfl, fun i h' => ?_⟩⟩
      rw [hget i h', (hi i (by omega)).1, (hg i h').1]
    · rw [hlen] at hi'
      exact ⟨D i, by simp [hi'], by rw [hget i hi']; exact (hg i hi').2⟩
theorem bools_row {t e : TypeId} {a : Option Addr} {len cap : Nat} (hu : P.underlying t = some (.slice e)) (he : P.underlying e = some .bool) (hc : P.cellsOf e = 1)
    (h : DataW.Trod enc P W 0 (fun _ => true) true t (.slice a len cap) d ps) : ∃ l : List Bool, len = l.length ∧ Kd.C Kd.bool W a l.length l ∧ l.length ≤ cap := by
  obtain ⟨l, h1, h2, h3, _⟩ := one_row Value.bool false (fun _ => rfl) hu hc (fun _ _ => True) (fun n v x hx => by
    obtain ⟨b, hv, _⟩ := DataW.trod_bool he hx
    injection hv with hv _
    exact ⟨b, hv, trivial⟩) h
  exact ⟨l, h1, h2, h3⟩
theorem weightsAll_mem {e : TypeId} : ∀ {l : List (DataW H)} {x : DataW H} {n : Nat}, x ∈ l → n ∈ x.weights P e → n ∈ DataW.weightsAll P e l
  | y :: l, x, n, hx, hn => by
    rw [DataW.weightsAll]
    rcases List.mem_cons.1 hx with rfl | hx
    · exact List.mem_append_left _ hn
    · exact List.mem_append_right _ (weightsAll_mem hx hn)
theorem strs_row {t e : TypeId} {a : Option Addr} {len cap : Nat} (hsz : (DataW.weightsEach P ts ds).all (· ≤ reachBytes) = true) (ht : ts[j]? = some t) (hd : ds[j]? = some d)
    (hu : P.underlying t = some (.slice e)) (he : P.underlying e = some .string) (hc : P.cellsOf e = 1)
    (h : DataW.Trod enc P W 0 (fun _ => true) true t (.slice a len cap) d ps) :
    ∃ l : List ByteArray, len = l.length ∧ Kd.C Kd.string W a l.length l ∧ l.length ≤ cap ∧ ∀ x ∈ l, x.size ≤ 140737488351232 := by
  obtain ⟨l, h1, h2, h3, h4⟩ := one_row Value.string ByteArray.empty (fun _ => rfl) hu hc (fun s z => z = .lit (.string s.data.toList)) (fun n v x hx => str_of_trod he hx) h
  refine ⟨l, h1, h2, h3, fun x hx => ?_⟩
  rcases h4 with ⟨_, rfl⟩ | ⟨elems, spare, rfl, hel, hq⟩
  · cases hx
  · obtain ⟨i, hi, rfl⟩ := List.getElem_of_mem hx
    obtain ⟨z, hz, hzz⟩ := hq i hi
    refine weight_le hsz ht hd ?_
    rw [DataW.weights, hu]
    refine List.mem_cons_of_mem _ (List.mem_append_left _ (weightsAll_mem (List.mem_of_getElem? hz) ?_))
    rw [hzz, List.getD, List.getElem?_eq_getElem hi, Option.getD_some]
    show (l[i]).size ∈ [(l[i]).data.toList.length]
    exact List.mem_singleton.2 rfl
theorem slice_weight {t e : TypeId} {a : Option Addr} {len cap : Nat} (hsz : (DataW.weightsEach P ts ds).all (· ≤ reachBytes) = true) (ht : ts[j]? = some t) (hd : ds[j]? = some d) (hu : P.underlying t = some (.slice e))
    (h : DataW.Trod enc P W 0 (fun _ => true) true t (.slice a len cap) d ps) : len * P.bytesOf e ≤ 140737488351232 := by
  obtain ⟨fuel, hf⟩ := h
  rcases Deep.open_slice hu hf with ⟨hcs, hx⟩ | ⟨x, l, c, m, n, D, Pl, hcs, _, hl, hm, hmm, hx, hi⟩
  · have := slice_value hcs; injection this with e1 e2 e3
    subst e2; omega
  · have := slice_value hcs; injection this with e1 e2 e3
    subst e2
    injection hx with hdd _
    have hle : l ≤ m := by rw [hmm]; simp; exact hl
    have := weight_le hsz ht hd (n := (l + (m - l)) * P.bytesOf e) (by
      rw [hdd, DataW.weights, hu]
      refine List.mem_cons.2 (.inl ?_)
      simp)
    exact Nat.le_trans (Nat.mul_le_mul_right _ (by omega)) this
theorem pairs_row {t : TypeId} {a : Option Addr} {len cap : Nat} {P : Program} (hP : P = Tryd.prog) (hsz : (DataW.weightsEach P ts ds).all (· ≤ reachBytes) = true) (ht : ts[j]? = some t) (hd : ds[j]? = some d)
    (hu : P.underlying t = some (.slice 38))
    (h : DataW.Trod enc P W 0 (fun _ => true) true t (.slice a len cap) d ps) :
    ∃ l : List S38, len = l.length ∧ Kd.C k38 W a l.length l ∧ l.length ≤ cap ∧ (∀ x ∈ l, x.f0.size ≤ 140737488351232 ∧ x.f1.size ≤ 140737488351232) ∧ l.length * 32 ≤ 140737488351232 := by
  subst hP
  have hw := slice_weight hsz ht hd hu h
  rw [show Tryd.prog.bytesOf 38 = 32 by kernel_rfl] at hw
  have hC : Tryd.prog.cellsOf 38 = 2 := by kernel_rfl
  have hC9 : Tryd.prog.cellsOf 9 = 1 := by kernel_rfl
  obtain ⟨fuel, hf⟩ := h
  rcases Deep.open_slice hu hf with ⟨hcs, hx⟩ | ⟨x, l, c, m, n, D, Pl, hcs, _, hl, hm, hmm, hx, hi⟩
  · have := slice_value hcs; injection this with e1 e2 e3
    subst e1; subst e2; subst e3
    exact ⟨[], rfl, ⟨rfl, by simp, fun h => absurd h (by simp)⟩, Nat.le_refl _, (fun x hx => by cases hx), by simp⟩
  · have := slice_value hcs; injection this with e1 e2 e3
    subst e1; subst e2; subst e3
    injection hx with hdd _
    have hml : l ≤ m := by rw [hmm]; simp; exact hl
    have hM : l ≤ 9223372036854775807 := by unfold maxLen at hm; omega
    have hch : ∀ i, i < l → ∃ y : S38, W.cell? (x.add (i * 2)) = some (.string y.f0) ∧ W.cell? (x.add (i * 2 + 1)) = some (.string y.f1) ∧ D i = .agg [.lit (.string y.f0.data.toList), .lit (.string y.f1.data.toList)] := by
      intro i h'
      obtain ⟨cs', h1, h2⟩ := hi i (by omega)
      rw [hC] at h1
      obtain ⟨_, hlen, hcell⟩ := World.cells?_some h1
      obtain ⟨y0, y1, n', hxx, _, t0, t1⟩ := trod_struct2 Tryd.underlying38 h2
      match cs', hlen with
      | [v0, v1], _ =>
        dsimp only at t0 t1
        rw [hC9] at t0 t1
        obtain ⟨s0, rfl, e0⟩ := str_of_trod Tryd.underlying9 (v := v0) (by simpa using t0)
        obtain ⟨s1, rfl, e1⟩ := str_of_trod Tryd.underlying9 (v := v1) (by simpa using t1)
        injection hxx with hD _
        have c0 := hcell 0 (by omega)
        have c1 := hcell 1 (by omega)
        refine ⟨⟨s0, s1⟩, ?_, ?_, by rw [hD, e0, e1]⟩
        · simpa [Addr.add] using c0
        · by_cases h0 : i = 0
          · subst h0; simpa [Addr.add] using c1
          · have hh : ¬ i * 2 = 0 := by omega
            simp only [Addr.add, if_neg hh] at c1
            simpa [Addr.add, Nat.add_assoc] using c1
    let g : Nat → S38 := fun i => if h' : i < l then Classical.choose (hch i h') else z38
    have hg : ∀ i, i < l → W.cell? (x.add (i * 2)) = some (.string (g i).f0) ∧ W.cell? (x.add (i * 2 + 1)) = some (.string (g i).f1) ∧ D i = .agg [.lit (.string (g i).f0.data.toList), .lit (.string (g i).f1.data.toList)] := fun i h' => by
      have : g i = Classical.choose (hch i h') := dif_pos h'
      rw [this]; exact Classical.choose_spec (hch i h')
    have hlen : ((List.range l).map g).length = l := by simp
    refine ⟨(List.range l).map g, hlen.symm, ?_, by rw [hlen]; exact hl, ?_, by rw [hlen]; exact hw⟩
    · rw [hlen]
      refine ⟨hlen, hM, fun _ => ⟨x, rfl, fun i p hp => ?_⟩⟩
      have hil : i < l := by have := (List.getElem?_eq_some_iff.1 hp).1; rw [hlen] at this; exact this
      have hpi : p = g i := by simp [hil] at hp; exact hp.symm
      subst hpi
      obtain ⟨c0, c1, _⟩ := hg i hil
      refine ⟨[.string (g i).f0, .string (g i).f1], rfl, k38_mk W (g i), fun k u hk => ?_⟩
      match k, hk with
      | 0, hk => injection hk with hk; subst hk; exact c0
      | 1, hk => injection hk with hk; subst hk; exact c1
    · intro y hy
      obtain ⟨i, hi', rfl⟩ := List.mem_map.1 hy
      have hil := List.mem_range.1 hi'
      obtain ⟨_, _, hD⟩ := hg i hil
      have hmem : ∀ nn, nn ∈ (D i).weights Tryd.prog 38 → nn ≤ 140737488351232 := fun nn hnn => weight_le hsz ht hd (by
        rw [hdd, DataW.weights, hu]
        exact List.mem_cons_of_mem _ (List.mem_append_left _ (weightsAll_mem (List.mem_map.2 ⟨i, List.mem_range.2 hil, rfl⟩) hnn)))
      have ew : (D i).weights Tryd.prog 38 = [(g i).f0.size, (g i).f1.size] := by
        rw [hD]; simp only [DataW.weights, Tryd.underlying38]; rfl
      exact ⟨hmem _ (by rw [ew]; simp), hmem _ (by rw [ew]; simp)⟩
end
end Go.Proofs.YtipbgnhhmgljnaaDoor.Pall

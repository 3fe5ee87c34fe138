/-
  The second form's row: what a request's parts weigh, out of the bulk of what is read; from a law's walk to its row.
-/
import Derived.Test.YtpfbemcoblganaaGreatDoorQzRowC
import Derived.Deep.DeepHandedRow
namespace Go.Proofs.YtpfbemcoblganaaGreatDoor.Pall
open Go.ChangeShapes Go.WideShapes Go.ChangeAt Go.RowKit Go.Proofs.YtpfbemcoblganaaGreatDoorW Go.Proofs.YtpfbemcoblganaaGreatDoorW.PrintWords
set_option linter.unusedVariables false
set_option maxRecDepth 4000
def hvR (l : List S34) : Nat := (l.map fun p => 1 + p.f0.size + p.f1.size).sum
section
variable {H : Type} {enc : TypeId × Value → H} {P : Program} {W : World} {d : DataW H} {ps : List MemPlace} {ts : List TypeId} {ds : List (DataW H)} {j : Nat}
theorem bulk_map {H : Type} : ∀ (ls : List Nat) (g : Nat → S34) (D : Nat → DataW H), (∀ i ∈ ls, D i = .agg [.lit (.string (g i).f0.data.toList), .lit (.string (g i).f1.data.toList)]) → hvR (ls.map g) ≤ Rows.uptoBulkAll (ls.map D)
  | [], _, _, _ => Nat.zero_le _
  | i :: ls, g, D, h => by
    have h1 := bulk_map ls g D (fun k hk => h k (List.mem_cons_of_mem _ hk))
    have h2 := h i List.mem_cons_self
    have e1 : hvR ((i :: ls).map g) = (1 + (g i).f0.size + (g i).f1.size) + hvR (ls.map g) := by unfold hvR; simp
    have e2 : Rows.uptoBulkAll ((i :: ls).map D) = Rows.uptoBulk (D i) + Rows.uptoBulkAll (ls.map D) := by simp only [List.map_cons, Rows.uptoBulkAll]
    have e3 : Rows.uptoBulk (D i) = (g i).f0.size + 1 + ((g i).f1.size + 1 + 0) + 1 := by
      rw [h2]; simp only [Rows.uptoBulk, Rows.uptoBulkAll]; rfl
    rw [e1, e2, e3]
    omega
theorem bulk_len {H : Type} : ∀ (l : List (DataW H)), l.length ≤ Rows.uptoBulkAll l
  | [] => Nat.zero_le _
  | x :: r => by
    have h := bulk_len r
    have h1 : 1 ≤ Rows.uptoBulk x := by
      cases x with
      | lit l => cases l <;> simp [Rows.uptoBulk]
      | nil => simp [Rows.uptoBulk]
      | ptr d => simp [Rows.uptoBulk]
      | slice elems spare => simp [Rows.uptoBulk]
      | agg parts => simp [Rows.uptoBulk]
      | iface t d => simp [Rows.uptoBulk]
      | map entries => simp [Rows.uptoBulk]
      | held h => simp [Rows.uptoBulk]
    simp only [List.length_cons, Rows.uptoBulkAll]
    omega
theorem slice_bulk {t e : TypeId} {a : Option Addr} {n0 cap : Nat} (hu : P.underlying t = some (.slice e)) (h : DataW.Trod enc P W 0 (fun _ => true) true t (.slice a n0 cap) d ps) : n0 ≤ Rows.uptoBulk d := by
  obtain ⟨fuel, hf⟩ := h
  rcases Deep.open_slice hu hf with ⟨hcs, hx⟩ | ⟨x, l, c, m, n, D, Pl, hcs, _, hl, hm, hmm, hx, hi⟩
  · have := slice_value hcs; injection this with e1 e2 e3
    subst e2; exact Nat.zero_le _
  · have := slice_value hcs; injection this with e1 e2 e3
    subst e2
    injection hx with hdd _
    rw [hdd]
    have h1 := bulk_len ((List.range l).map D)
    rw [List.length_map, List.length_range] at h1
    simp only [Rows.uptoBulk]
    omega
theorem pairs_row2 {t : TypeId} {a : Option Addr} {len cap : Nat} {P : Program} (hP : P = Tryz.prog) (hsz : (DataW.weightsEach P ts ds).all (· ≤ reachBytes) = true) (ht : ts[j]? = some t) (hd : ds[j]? = some d)
    (hu : P.underlying t = some (.slice 34))
    (h : DataW.Trod enc P W 0 (fun _ => true) true t (.slice a len cap) d ps) :
    ∃ l : List S34, len = l.length ∧ Kd.C k34 W a l.length l ∧ l.length ≤ cap ∧ (∀ x ∈ l, x.f0.size ≤ 140737488351232 ∧ x.f1.size ≤ 140737488351232) ∧ l.length * 32 ≤ 140737488351232 ∧ hvR l ≤ Rows.uptoBulk d := by
  subst hP
  have hw := slice_weight hsz ht hd hu h
  rw [show Tryz.prog.bytesOf 34 = 32 by kernel_rfl] at hw
  have hC : Tryz.prog.cellsOf 34 = 2 := by kernel_rfl
  have hC9 : Tryz.prog.cellsOf 9 = 1 := by kernel_rfl
  obtain ⟨fuel, hf⟩ := h
  rcases Deep.open_slice hu hf with ⟨hcs, hx⟩ | ⟨x, l, c, m, n, D, Pl, hcs, _, hl, hm, hmm, hx, hi⟩
  · have := slice_value hcs; injection this with e1 e2 e3
    subst e1; subst e2; subst e3
    exact ⟨[], rfl, ⟨rfl, by simp, fun h => absurd h (by simp)⟩, Nat.le_refl _, (fun x hx => by cases hx), by simp, Nat.zero_le _⟩
  · have := slice_value hcs; injection this with e1 e2 e3
    subst e1; subst e2; subst e3
    injection hx with hdd _
    have hml : l ≤ m := by rw [hmm]; simp; exact hl
    have hM : l ≤ 9223372036854775807 := by unfold maxLen at hm; omega
    have hch : ∀ i, i < l → ∃ y : S34, W.cell? (x.add (i * 2)) = some (.string y.f0) ∧ W.cell? (x.add (i * 2 + 1)) = some (.string y.f1) ∧ D i = .agg [.lit (.string y.f0.data.toList), .lit (.string y.f1.data.toList)] := by
      intro i h'
      obtain ⟨cs', h1, h2⟩ := hi i (by omega)
      rw [hC] at h1
      obtain ⟨_, hlen, hcell⟩ := World.cells?_some h1
      obtain ⟨y0, y1, n', hxx, _, t0, t1⟩ := trod_struct2 Tryz.underlying34 h2
      match cs', hlen with
      | [v0, v1], _ =>
        dsimp only at t0 t1
        rw [hC9] at t0 t1
        obtain ⟨s0, rfl, e0⟩ := str_of_trod Tryz.underlying9 (v := v0) (by simpa using t0)
        obtain ⟨s1, rfl, e1⟩ := str_of_trod Tryz.underlying9 (v := v1) (by simpa using t1)
        injection hxx with hD _
        have c0 := hcell 0 (by omega)
        have c1 := hcell 1 (by omega)
        refine ⟨⟨s0, s1⟩, ?_, ?_, by rw [hD, e0, e1]⟩
        · simpa [Addr.add] using c0
        · by_cases h0 : i = 0
          · subst h0; simpa [Addr.add] using c1
          · have hh : ¬ i * 2 = 0 := by omega
            simp only [Addr.add, if_neg hh] at c1
            simpa [Addr.add, Nat.add_assoc] using c1
    let g : Nat → S34 := fun i => if h' : i < l then Classical.choose (hch i h') else z34
    have hg : ∀ i, i < l → W.cell? (x.add (i * 2)) = some (.string (g i).f0) ∧ W.cell? (x.add (i * 2 + 1)) = some (.string (g i).f1) ∧ D i = .agg [.lit (.string (g i).f0.data.toList), .lit (.string (g i).f1.data.toList)] := fun i h' => by
      have : g i = Classical.choose (hch i h') := dif_pos h'
      rw [this]; exact Classical.choose_spec (hch i h')
    have hlen : ((List.range l).map g).length = l := by simp
    refine ⟨(List.range l).map g, hlen.symm, ?_, by rw [hlen]; exact hl, ?_, by rw [hlen]; exact hw, ?_⟩
    · rw [hlen]
      refine ⟨hlen, hM, fun _ => ⟨x, rfl, fun i p hp => ?_⟩⟩
      have hil : i < l := by have := (List.getElem?_eq_some_iff.1 hp).1; rw [hlen] at this; exact this
      have hpi : p = g i := by simp [hil] at hp; exact hp.symm
      subst hpi
      obtain ⟨c0, c1, _⟩ := hg i hil
      refine ⟨[.string (g i).f0, .string (g i).f1], rfl, k34_mk W (g i), fun k u hk => ?_⟩
      match k, hk with
      | 0, hk => injection hk with hk; subst hk; exact c0
      | 1, hk => injection hk with hk; subst hk; exact c1
    · intro y hy
      obtain ⟨i, hi', rfl⟩ := List.mem_map.1 hy
      have hil := List.mem_range.1 hi'
      obtain ⟨_, _, hD⟩ := hg i hil
      have hmem : ∀ nn, nn ∈ (D i).weights Tryz.prog 34 → nn ≤ 140737488351232 := fun nn hnn => weight_le hsz ht hd (by
        rw [hdd, DataW.weights, hu]
        exact List.mem_cons_of_mem _ (List.mem_append_left _ (weightsAll_mem (List.mem_map.2 ⟨i, List.mem_range.2 hil, rfl⟩) hnn)))
      have ew : (D i).weights Tryz.prog 34 = [(g i).f0.size, (g i).f1.size] := by
        rw [hD]; simp only [DataW.weights, Tryz.underlying34]; rfl
      exact ⟨hmem _ (by rw [ew]; simp), hmem _ (by rw [ew]; simp)⟩
    · rw [hdd]
      simp only [Rows.uptoBulk]
      have h := bulk_map (H := H) (List.range l) g D (fun i hi' => (hg i (List.mem_range.1 hi')).2.2)
      omega
theorem req_open2 {v : Value} {b0 : Nat} (hsz : (DataW.weightsEach Tryz.prog ts ds).all (· ≤ reachBytes) = true) (ht : ts[j]? = some 25) (hd : ds[j]? = some d)
    (hv : Value.okWide Tryz.prog W .any b0 25 v) (h : DataW.Trod enc Tryz.prog W 0 (fun _ => true) true 25 v d ps) :
    ∃ (s s' : ByteArray) (A : Option Addr) (c : Nat) (l : List S34) (B : Option Addr) (e : Nat) (m : List Int), v = .agg #[.string s, .string s', .slice A l.length c, .slice B m.length e] ∧
      Kd.C k34 W A l.length l ∧ l.length ≤ c ∧ Kd.C (Kd.int .u8) W B m.length m ∧ m.length ≤ e ∧ (∀ x ∈ m, (Lit.int .u8 x).wf = true) ∧ s.size + s'.size + m.length + hvR l ≤ Rows.uptoBulk d := by
  obtain ⟨v0, v1, v2, v3, y0, y1, y2, y3, n, rfl, rfl, _, h0, h1, h2, h3⟩ := Joins.open_agg4 Tryz.underlying25 (by kernel_rfl) (by kernel_rfl) hv h
  have hz := agg_sized hsz ht hd Tryz.underlying25
  obtain ⟨s, rfl, es⟩ := str_of_trod Tryz.underlying9 h0
  obtain ⟨s', rfl, es'⟩ := str_of_trod Tryz.underlying9 h1
  obtain ⟨A, l1, c, rfl, g1⟩ := slice_form Tryz.underlying22 h2
  obtain ⟨B, l2, e, rfl, g2⟩ := slice_form Tryz.underlying23 h3
  have hb2 := slice_bulk Tryz.underlying23 g2
  obtain ⟨l, rfl, q1, q2, q3, q4, q5⟩ := pairs_row2 rfl hz (j := 2) (t := 22) rfl rfl Tryz.underlying22 g1
  obtain ⟨m, rfl, p1, p2, p3, p4⟩ := bytes_row hz (j := 3) (t := 23) rfl rfl Tryz.underlying23 g2
  refine ⟨s, s', A, c, l, B, e, m, rfl, q1, q2, p1, p2, p3, ?_⟩
  have e0 : Rows.uptoBulk y0.1 = s.size + 1 := by rw [es]; simp only [Rows.uptoBulk]; rfl
  have e1 : Rows.uptoBulk y1.1 = s'.size + 1 := by rw [es']; simp only [Rows.uptoBulk]; rfl
  simp only [Rows.uptoBulk, Rows.uptoBulkAll, e0, e1]
  omega
end
end Go.Proofs.YtpfbemcoblganaaGreatDoor.Pall
namespace Go.Proofs.YtpfbemcoblganaaGreatDoor
open Go.ChangeShapes Go.WideShapes Go.ChangeAt Go.RowKit
set_option linter.unusedVariables false
/-- The second form's condition on a call, for a law: out of a walk that ends in 'true' and leaves what was there. -/
theorem law_upto {H : Type} {enc : TypeId × Value → H} {C : Checked} {os : Os} {f : FuncId} {fn : Func} {s : ChangeSpec} {F : Stop.Interp} {L : List (String × DataW Unit)} {rt : TypeId}
    (own : ownKnob C.prog.godebug = none) (started : os.Started) (noInit : C.prog.inits.idxOf? f = none) (hfn : C.prog.funcs[f]? = some fn)
    (hlaid : laidOutB C.prog = true) (hread : (fn.params.toList.all fun t => C.prog.readableRec t && decide (t < C.prog.types.size)) = true)
    (hv : s.vars = []) (hvt : s.plain.varTypes C.prog = []) (hres : fn.resultTypes.toList = [rt]) (hrt : C.prog.underlying rt = some .bool)
    (hfnc : ∀ (ds : List (DataW H)), ds.length = fn.params.size → s.fn H (ds ++ []) = { results := [.lit (.bool true)], args := ds })
    (witness : ∃ (w : World) (tape : Tape) (i : Input), w.os = os ∧ (w.forCall tape i).Shaped C.prog ∧ i.vars = [] ∧ Input.okWide C.prog (w.forCall tape i) .any w.heap.size f i ∧
      (Rows.OpenSpec.upto s).preRow enc C.prog fn [] false L (w.forCall tape i).memory i.args ∧ ({} : Assume).holds C.prog (lone (Frame.enter C.prog f i.args .normal) [] (w.forCall tape i)))
    (contract : ∀ (W : World) (base : Nat) (args : Array Value) (ds : List (DataW H)) (ps : List MemPlace),
      (∀ (j : Nat) t v, fn.params[j]? = some t → args[j]? = some v → Value.okWide C.prog W .any base t v) →
      DataW.TrodAll enc C.prog W 0 (fun _ => true) true fn.params.toList args.toList ds ps →
      (DataW.weightsEach C.prog fn.params.toList ds).all (· ≤ reachBytes) = true → laidMetH C.prog L W → W.ShapedOpen C.prog → Rows.uptoBulkAll ds ≤ 1048576 →
      Calls C.prog f args W fun e W' => e = .returned (.bool true) ∧ Below W.heap.size W W') :
    ReturnsInHanded {} C os f .any ((Rows.OpenSpec.upto s).preRow enc C.prog fn [] false L) (((Rows.OpenSpec.upto s).at F).post enc C.prog fn false true false false) := by
  refine returnsInHanded_of_row (C := C) (s := Rows.OpenSpec.upto s) own started noInit hfn witness ?_
  intro W base args ds gs before hval hW _ hcond hwt hL hsh _
  have hk := hcond _ rfl
  obtain ⟨p, q, hA, hV, hpq, hfz, hnd⟩ := hW
  rw [show (Rows.OpenSpec.upto s).vars = [] from hv] at hV
  obtain ⟨rfl, rfl⟩ := trodVars_none hV
  rw [show (Rows.OpenSpec.upto s).bare.plain.varTypes C.prog = [] from hvt] at hwt
  have hlen : ds.length = fn.params.size := by
    have : ∀ {ts : List TypeId} {vs : List Value} {ds : List (DataW H)} {ps}, DataW.TrodAll enc C.prog W 0 (fun _ => true) true ts vs ds ps → ds.length = ts.length := by
      intro ts
      induction ts with
      | nil => intro vs ds ps h; cases vs <;> cases ds <;> first | rfl | exact h.elim
      | cons t ts ih =>
        intro vs ds ps h
        cases vs with
        | nil => cases ds <;> exact h.elim
        | cons v vs =>
          cases ds with
          | nil => exact h.elim
          | cons d ds => obtain ⟨p, q, _, h2, _⟩ := h; simp [ih h2]
    rw [this hA, Array.length_toList]
  refine (contract W base args ds p hval hA (by simpa using hwt) hL hsh (by rw [List.append_nil] at hk; exact of_decide_eq_true hk)).mono fun e W' ⟨he, bel⟩ => ?_
  subst he
  refine ⟨_, rfl, ?_⟩
  show s.post enc C.prog fn false true false false W args (.bool true) W'
  refine ⟨ds, [], p ++ [], [], p, [], ⟨p, [], hA, by rw [hv]; exact rfl, rfl, by rw [hpq] at hfz; exact hfz, by rw [hpq] at hnd; exact hnd⟩, ?_, ?_, ?_, bel.frame _, fun h => by cases h⟩
  · rw [hfnc ds hlen, hres]
    have hz1 : fn.resultTypes.size = 1 := by rw [← Array.length_toList, hres]; rfl
    rw [hz1]
    exact trodAll_mk1 (shut_bool hrt true)
  · rw [hfnc ds hlen]; exact belowAll hlaid bel hread hA
  · rw [hfnc ds hlen, hv]; exact rfl
end Go.Proofs.YtpfbemcoblganaaGreatDoor

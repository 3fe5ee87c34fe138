/-
  From a law's walk to its row: a call that returns true, and leaves all that was there as it was, meets the law's statement, whatever the kinds of its arguments. The listed variables are known to hold what is listed, and the world is well shaped.
  From a row's readings to the forms that the printed walks take: slices of numbers, bools, strings and pairs, and what their parts weigh.
  From a row's readings to the forms that the printed walks take: slices of bools, of strings and of pairs.
-/
import Derived.Test.YtpfbemcoblganaaDoorRows
import Derived.WalkKit
import Derived.ProofKit
import Derived.OpenShut
import Derived.ShutString
import Derived.ChangeOld
import Derived.Below
import Derived.SizedLaws
import Derived.LaidMore
import Derived.Lay
import Derived.SevenTiedAt
import Derived.Stop.Joined
import Derived.Test.YtpfbemcoblganaaDoorQpExt
import Derived.Test.YtpfbemcoblganaaDoorQpPall0
import Derived.Shelf.Vars
import Derived.SliceStrings
import Derived.Deep.Slices
import Derived.Lib.SmallJoins
import Derived.Stop.LaidErr
import Derived.MakeChecks
namespace Go.Proofs.YtpfbemcoblganaaDoor
open Go.ChangeShapes Go.WideShapes Go.ChangeAt Go.RowKit
set_option linter.unusedVariables false
theorem belowAll {H : Type} {enc : TypeId × Value → H} {P : Program} (hl : laidOutB P = true) {W W' : World} (hb : Below W.heap.size W W') :
    ∀ {ts : List TypeId} (hr : (ts.all fun t => P.readableRec t && decide (t < P.types.size)) = true) {vs : List Value} {ds : List (DataW H)} {ps : List MemPlace},
      DataW.TrodAll enc P W 0 (fun _ => true) true ts vs ds ps → DataW.TrodAll enc P W' 0 (fun b => decide (b < W.heap.size)) true ts vs ds ps
  | [], _, [], [], _, h => h
  | t :: ts, hr, v :: vs, d :: ds, ps, h => by
    obtain ⟨p, q, h1, h2, rfl⟩ := h
    simp only [List.all_cons, Bool.and_eq_true, decide_eq_true_eq] at hr
    have hlt : ∀ x ∈ p, x.block < W.heap.size := by obtain ⟨m, hm⟩ := h1; exact DataW.trod_lt m _ _ _ hm
    exact ⟨p, q, Below.trod hl hr.1.1 hr.1.2 h1 hb hlt, belowAll hl hb hr.2 h2, rfl⟩
  | [], _, [], _ :: _, _, h => h.elim
  | [], _, _ :: _, [], _, h => h.elim
  | [], _, _ :: _, _ :: _, _, h => h.elim
  | _ :: _, _, [], [], _, h => h.elim
  | _ :: _, _, [], _ :: _, _, h => h.elim
  | _ :: _, _, _ :: _, [], _, h => h.elim
/-- The row's condition on a call, for a law: out of a walk that ends in 'true' and leaves what was there. -/
theorem law_lifted {H : Type} {enc : TypeId × Value → H} {C : Checked} {os : Os} {f : FuncId} {fn : Func} {s : ChangeSpec} {L : List (String × DataW Unit)} {rt : TypeId}
    (own : ownKnob C.prog.godebug = none) (started : os.Started) (noInit : C.prog.inits.idxOf? f = none) (hfn : C.prog.funcs[f]? = some fn)
    (hlaid : laidOutB C.prog = true) (hread : (fn.params.toList.all fun t => C.prog.readableRec t && decide (t < C.prog.types.size)) = true)
    (hv : s.vars = []) (hvt : s.plain.varTypes C.prog = []) (hres : fn.resultTypes.toList = [rt]) (hrt : C.prog.underlying rt = some .bool)
    (hfnc : ∀ (ds : List (DataW H)), ds.length = fn.params.size → s.fn H (ds ++ []) = { results := [.lit (.bool true)], args := ds })
    (witness : ∃ (w : World) (tape : Tape) (i : Input), w.os = os ∧ (w.forCall tape i).Shaped C.prog ∧ i.vars = [] ∧ Input.okWide C.prog (w.forCall tape i) .any w.heap.size f i ∧
      ((s.pre enc C.prog fn [] false (w.forCall tape i).memory i.args ∧ laidMetH C.prog L (w.forCall tape i).memory) ∧ sizedMet enc C.prog fn (OpenSpec.ofChange s) false (w.forCall tape i).memory i.args) ∧ ({} : Assume).holds C.prog (lone (Frame.enter C.prog f i.args .normal) [] (w.forCall tape i)))
    (contract : ∀ (W : World) (base : Nat) (args : Array Value) (ds : List (DataW H)) (ps : List MemPlace),
      (∀ (j : Nat) t v, fn.params[j]? = some t → args[j]? = some v → Value.okWide C.prog W .any base t v) →
      DataW.TrodAll enc C.prog W 0 (fun _ => true) true fn.params.toList args.toList ds ps →
      (DataW.weightsEach C.prog fn.params.toList ds).all (· ≤ reachBytes) = true → laidMetH C.prog L W → W.ShapedOpen C.prog →
      Calls C.prog f args W fun e W' => e = .returned (.bool true) ∧ Below W.heap.size W W') :
    ReturnsInHanded {} C os f .any (fun w args => (s.pre enc C.prog fn [] false w args ∧ laidMetH C.prog L w) ∧ sizedMet enc C.prog fn (OpenSpec.ofChange s) false w args)
      (s.post enc C.prog fn false true false false) := by
  refine returnsInHanded_of_calls own started noInit witness ?_
  intro w tape i _ hsh _ hok hpre hholds
  obtain ⟨_, _, _, fn', hfn', _, _, _, _, hval⟩ := hok
  have e : fn' = fn := Option.some.inj (hfn'.symm.trans hfn)
  subst e
  obtain ⟨⟨⟨ds, gs, before, hw, hc⟩, hx⟩, hz⟩ := hpre
  have hw' := DataW.Whole.of_heap (w' := w.forCall tape i) (by rfl) hw
  have hwt := hz.weights hw
  obtain ⟨p, q, hA, hV, hpq, hfz, hnd⟩ := hw'
  rw [hv] at hV
  obtain ⟨rfl, rfl⟩ := trodVars_none hV
  rw [show (OpenSpec.ofChange s).bare.plain.varTypes C.prog = [] from hvt] at hwt
  have hlen : ds.length = fn'.params.size := by
    have : ∀ {ts : List TypeId} {vs : List Value} {ds : List (DataW H)} {ps}, DataW.TrodAll enc C.prog (w.forCall tape i) 0 (fun _ => true) true ts vs ds ps → ds.length = ts.length := by
      intro ts
      induction ts with
      | nil => intro vs ds ps h; cases vs <;> cases ds <;> first | rfl | exact h.elim
      | cons t ts ih =>
        intro vs ds ps h
        cases vs with
        | nil => cases ds <;> exact h.elim
        | cons v vs =>
          cases ds with
          | nil => exact h.elim
          | cons d ds => obtain ⟨p, q, _, h2, _⟩ := h; simp [ih h2]
    rw [this hA, Array.length_toList]
  refine (contract (w.forCall tape i) w.heap.size i.args ds p hval hA (by simpa using hwt) (hx.of_heap (by rfl)) hsh).mono fun e W' ⟨he, bel⟩ => ?_
  subst he
  refine ChangeSpec.post_blind ?_
  refine ⟨ds, [], p ++ [], [], p, [], ⟨p, [], hA, by rw [hv]; exact rfl, rfl, by rw [hpq] at hfz; exact hfz, by rw [hpq] at hnd; exact hnd⟩, ?_, ?_, ?_, bel.frame _, fun h => by cases h⟩
  · rw [hfnc ds hlen, hres]
    have hz1 : fn'.resultTypes.size = 1 := by rw [← Array.length_toList, hres]; rfl
    rw [hz1]
    exact trodAll_mk1 (shut_bool hrt true)
  · rw [hfnc ds hlen]; exact belowAll hlaid bel hread hA
  · rw [hfnc ds hlen, hv]; exact rfl
end Go.Proofs.YtpfbemcoblganaaDoor
namespace Go.Proofs.YtpfbemcoblganaaDoor.Pall
open Go.ChangeShapes Go.WideShapes Go.ChangeAt Go.RowKit Go.Proofs.YtpfbemcoblganaaDoorW Go.Proofs.YtpfbemcoblganaaDoorW.PrintWords
set_option linter.unusedVariables false
theorem laidMet_drop {P : Program} {w : World} : ∀ (i : Nat) {L : List (String × DataW Unit)}, laidMet P L w → laidMet P (L.drop i) w
  | 0, _, h => h
  | i + 1, [], h => h
  | i + 1, x :: L, h => laidMet_drop i (laidMet.tail h)
theorem tb_of {w : World} {L rest : List (String × DataW Unit)} (hL : laidMetH Tryd.prog L w) (hp : (L.all fun x => x.2.handleName?.isNone) = true) (i : Nat) (hd : L.drop i = ("internal/strconv.uint64pow10", Lib.tabData .u64 Lib.pow10Tab) :: rest) : Tb w := by
  rw [MakeChecks.laidMetH_plain _ _ _ hp] at hL
  have h1 := laidMet_drop i hL
  rw [hd] at h1
  exact Lib.tabIs_of_head (g := 2) (t := 170) (e := 152) (by kernel_rfl) (by kernel_rfl) Tryd.underlying170 Tryd.underlying152 (by kernel_rfl) (by kernel_rfl) h1
theorem cell_of_shapedOpen_int' {w : World} (h : w.ShapedOpen Tryd.prog) : Sh w :=
  cell_of_shapedOpen_int h (t := 3) (zero := #[.int .i64 0]) (of_decide_eq_true (by kernel_rfl)) (by kernel_rfl) rfl (by kernel_rfl) (by kernel_rfl) Tryd.underlying3
section
variable {H : Type} {enc : TypeId × Value → H} {P : Program} {W : World} {d : DataW H} {ps : List MemPlace} {ts : List TypeId} {ds : List (DataW H)} {j : Nat}
theorem ints_row {t e : TypeId} {k : IntKind} {a : Option Addr} {len cap : Nat} (hu : P.underlying t = some (.slice e)) (he : P.underlying e = some (.int k)) (hc : P.cellsOf e = 1)
    (h : DataW.Trod enc P W 0 (fun _ => true) true t (.slice a len cap) d ps) :
    ∃ zs : List Int, (a = none ∧ len = 0 ∧ cap = 0 ∧ zs = []) ∨ ∃ x, a = some x ∧ len ≤ cap ∧ cap ≤ maxLen ∧ zs.length = cap ∧ (∀ i, i < zs.length → W.cell? (x.add i) = some (.int k (zs.getD i 0))) ∧ ∀ n ∈ zs, (Lit.int k n).wf = true := by
  obtain ⟨fuel, hf⟩ := h
  rcases open_ints hu he hc hf with ⟨hcs, _⟩ | ⟨x, l, c, zs, hcs, _, hl, hm, hz, _, hcell, hwz⟩
  · simp [Value.cells] at hcs
    obtain ⟨rfl, rfl, rfl⟩ := hcs
    exact ⟨[], .inl ⟨rfl, rfl, rfl, rfl⟩⟩
  · simp [Value.cells] at hcs
    obtain ⟨rfl, rfl, rfl⟩ := hcs
    exact ⟨zs, .inr ⟨_, rfl, hl, hm, by simpa using hz, hcell, hwz⟩⟩
end
end Go.Proofs.YtpfbemcoblganaaDoor.Pall
namespace Go.Proofs.YtpfbemcoblganaaDoor.Pall
open Go.ChangeShapes Go.WideShapes Go.ChangeAt Go.RowKit Go.Proofs.YtpfbemcoblganaaDoorW Go.Proofs.YtpfbemcoblganaaDoorW.PrintWords
section
variable {H : Type} {enc : TypeId × Value → H} {P : Program} {W : World} {d : DataW H} {ps : List MemPlace} {ts : List TypeId} {ds : List (DataW H)} {j : Nat}
/-- A string that lies somewhere in an argument: its length is one of the weights. -/
theorem str_of_trod {e : TypeId} {n : Nat} {v : Value} {x : DataW H × List MemPlace} (he : P.underlying e = some .string) (h : DataW.trod enc P W 0 (fun _ => true) true n e [v] = some x) :
    ∃ s : ByteArray, v = .string s ∧ x.1 = .lit (.string s.data.toList) := by
  obtain ⟨s, hv, hx, _⟩ := DataW.trod_string he h
  injection hv with hv _
  exact ⟨s, hv, by rw [hx]⟩
theorem weight_le (hsz : (DataW.weightsEach P ts ds).all (· ≤ reachBytes) = true) {t : TypeId} (ht : ts[j]? = some t) (hd : ds[j]? = some d) {n : Nat} (hn : n ∈ d.weights P t) : n ≤ 140737488351232 :=
  of_decide_eq_true (List.all_eq_true.1 hsz n (DataW.weights_mem_each ht hd n hn))
end
end Go.Proofs.YtpfbemcoblganaaDoor.Pall
namespace Go.Proofs.YtpfbemcoblganaaDoor.Pall
open Go.ChangeShapes Go.WideShapes Go.ChangeAt Go.RowKit Go.Proofs.YtpfbemcoblganaaDoorW Go.Proofs.YtpfbemcoblganaaDoorW.PrintWords
set_option linter.unusedVariables false
set_option maxRecDepth 4000
section
variable {H : Type} {enc : TypeId × Value → H} {P : Program} {W : World} {d : DataW H} {ps : List MemPlace} {ts : List TypeId} {ds : List (DataW H)} {j : Nat}
theorem slice_value {a : Option Addr} {len cap : Nat} {v : Value} (h : (Value.slice a len cap).cells.toList = [v]) : v = .slice a len cap := by
  simp [Value.cells] at h; exact h.symm
theorem weightsAll_mem {e : TypeId} : ∀ {l : List (DataW H)} {x : DataW H} {n : Nat}, x ∈ l → n ∈ x.weights P e → n ∈ DataW.weightsAll P e l
  | y :: l, x, n, hx, hn => by
    rw [DataW.weightsAll]
    rcases List.mem_cons.1 hx with rfl | hx
    · exact List.mem_append_left _ hn
    · exact List.mem_append_right _ (weightsAll_mem hx hn)
theorem slice_weight {t e : TypeId} {a : Option Addr} {len cap : Nat} (hsz : (DataW.weightsEach P ts ds).all (· ≤ reachBytes) = true) (ht : ts[j]? = some t) (hd : ds[j]? = some d) (hu : P.underlying t = some (.slice e))
    (h : DataW.Trod enc P W 0 (fun _ => true) true t (.slice a len cap) d ps) : len * P.bytesOf e ≤ 140737488351232 := by
  obtain ⟨fuel, hf⟩ := h
  rcases Deep.open_slice hu hf with ⟨hcs, hx⟩ | ⟨x, l, c, m, n, D, Pl, hcs, _, hl, hm, hmm, hx, hi⟩
  · have := slice_value hcs; injection this with e1 e2 e3
    subst e2; omega
  · have := slice_value hcs; injection this with e1 e2 e3
    subst e2
    injection hx with hdd _
    have hle : l ≤ m := by rw [hmm]; simp; exact hl
    have := weight_le hsz ht hd (n := (l + (m - l)) * P.bytesOf e) (by
      rw [hdd, DataW.weights, hu]
      refine List.mem_cons.2 (.inl ?_)
      simp)
    exact Nat.le_trans (Nat.mul_le_mul_right _ (by omega)) this
theorem pairs_row {t : TypeId} {a : Option Addr} {len cap : Nat} {P : Program} (hP : P = Tryd.prog) (hsz : (DataW.weightsEach P ts ds).all (· ≤ reachBytes) = true) (ht : ts[j]? = some t) (hd : ds[j]? = some d)
    (hu : P.underlying t = some (.slice 43))
    (h : DataW.Trod enc P W 0 (fun _ => true) true t (.slice a len cap) d ps) :
    ∃ l : List S43, len = l.length ∧ Kd.C k43 W a l.length l ∧ l.length ≤ cap ∧ (∀ x ∈ l, x.f0.size ≤ 140737488351232 ∧ x.f1.size ≤ 140737488351232) ∧ l.length * 32 ≤ 140737488351232 := by
  subst hP
  have hw := slice_weight hsz ht hd hu h
  rw [show Tryd.prog.bytesOf 43 = 32 by kernel_rfl] at hw
  have hC : Tryd.prog.cellsOf 43 = 2 := by kernel_rfl
  have hC9 : Tryd.prog.cellsOf 9 = 1 := by kernel_rfl
  obtain ⟨fuel, hf⟩ := h
  rcases Deep.open_slice hu hf with ⟨hcs, hx⟩ | ⟨x, l, c, m, n, D, Pl, hcs, _, hl, hm, hmm, hx, hi⟩
  · have := slice_value hcs; injection this with e1 e2 e3
    subst e1; subst e2; subst e3
    exact ⟨[], rfl, ⟨rfl, by simp, fun h => absurd h (by simp)⟩, Nat.le_refl _, (fun x hx => by cases hx), by simp⟩
  · have := slice_value hcs; injection this with e1 e2 e3
    subst e1; subst e2; subst e3
    injection hx with hdd _
    have hml : l ≤ m := by rw [hmm]; simp; exact hl
    have hM : l ≤ 9223372036854775807 := by unfold maxLen at hm; omega
    have hch : ∀ i, i < l → ∃ y : S43, W.cell? (x.add (i * 2)) = some (.string y.f0) ∧ W.cell? (x.add (i * 2 + 1)) = some (.string y.f1) ∧ D i = .agg [.lit (.string y.f0.data.toList), .lit (.string y.f1.data.toList)] := by
      intro i h'
      obtain ⟨cs', h1, h2⟩ := hi i (by omega)
      rw [hC] at h1
      obtain ⟨_, hlen, hcell⟩ := World.cells?_some h1
      obtain ⟨y0, y1, n', hxx, _, t0, t1⟩ := trod_struct2 Tryd.underlying43 h2
      match cs', hlen with
      | [v0, v1], _ =>
        dsimp only at t0 t1
        rw [hC9] at t0 t1
        obtain ⟨s0, rfl, e0⟩ := str_of_trod Tryd.underlying9 (v := v0) (by simpa using t0)
        obtain ⟨s1, rfl, e1⟩ := str_of_trod Tryd.underlying9 (v := v1) (by simpa using t1)
        injection hxx with hD _
        have c0 := hcell 0 (by omega)
        have c1 := hcell 1 (by omega)
        refine ⟨⟨s0, s1⟩, ?_, ?_, by rw [hD, e0, e1]⟩
        · simpa [Addr.add] using c0
        · by_cases h0 : i = 0
          · subst h0; simpa [Addr.add] using c1
          · have hh : ¬ i * 2 = 0 := by omega
            simp only [Addr.add, if_neg hh] at c1
            simpa [Addr.add, Nat.add_assoc] using c1
    let g : Nat → S43 := fun i => if h' : i < l then Classical.choose (hch i h') else z43
    have hg : ∀ i, i < l → W.cell? (x.add (i * 2)) = some (.string (g i).f0) ∧ W.cell? (x.add (i * 2 + 1)) = some (.string (g i).f1) ∧ D i = .agg [.lit (.string (g i).f0.data.toList), .lit (.string (g i).f1.data.toList)] := fun i h' => by
      have : g i = Classical.choose (hch i h') := dif_pos h'
      rw [this]; exact Classical.choose_spec (hch i h')
    have hlen : ((List.range l).map g).length = l := by simp
    refine ⟨(List.range l).map g, hlen.symm, ?_, by rw [hlen]; exact hl, ?_, by rw [hlen]; exact hw⟩
    · rw [hlen]
      refine ⟨hlen, hM, fun _ => ⟨x, rfl, fun i p hp => ?_⟩⟩
      have hil : i < l := by have := (List.getElem?_eq_some_iff.1 hp).1; rw [hlen] at this; exact this
      have hpi : p = g i := by simp [hil] at hp; exact hp.symm
      subst hpi
      obtain ⟨c0, c1, _⟩ := hg i hil
      refine ⟨[.string (g i).f0, .string (g i).f1], rfl, k43_mk W (g i), fun k u hk => ?_⟩
      match k, hk with
      | 0, hk => injection hk with hk; subst hk; exact c0
      | 1, hk => injection hk with hk; subst hk; exact c1
    · intro y hy
      obtain ⟨i, hi', rfl⟩ := List.mem_map.1 hy
      have hil := List.mem_range.1 hi'
      obtain ⟨_, _, hD⟩ := hg i hil
      have hmem : ∀ nn, nn ∈ (D i).weights Tryd.prog 43 → nn ≤ 140737488351232 := fun nn hnn => weight_le hsz ht hd (by
        rw [hdd, DataW.weights, hu]
        exact List.mem_cons_of_mem _ (List.mem_append_left _ (weightsAll_mem (List.mem_map.2 ⟨i, List.mem_range.2 hil, rfl⟩) hnn)))
      have ew : (D i).weights Tryd.prog 43 = [(g i).f0.size, (g i).f1.size] := by
        rw [hD]; simp only [DataW.weights, Tryd.underlying43]; rfl
      exact ⟨hmem _ (by rw [ew]; simp), hmem _ (by rw [ew]; simp)⟩
end
end Go.Proofs.YtpfbemcoblganaaDoor.Pall

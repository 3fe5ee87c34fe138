/-
 From a law's walk to its row: a call that returns true, and leaves all that was there as it was, meets the law's statement, whatever the kinds of its arguments. The listed variables are known to hold what is listed, and the world is well shaped.
 From a row's readings to the forms that the printed walks take: slices of numbers, bools, strings and pairs, and what their parts weigh.
 From a row's readings to the forms that the printed walks take: slices of bools, of strings and of pairs.
-/
import Derived.Test.YthdiiiopjkaifaaGreatDoorRows
import Derived.WalkKit
import Derived.ProofKit
import Derived.OpenShut
import Derived.ShutString
import Derived.ChangeOld
import Derived.Below
import Derived.SizedLaws
import Derived.LaidMore
import Derived.Lay
import Derived.SevenTiedAt
import Derived.Stop.Joined
import Derived.Test.YthdiiiopjkaifaaGreatDoorZdExt
import Derived.Test.YthdiiiopjkaifaaGreatDoorZdGateA
import Derived.Shelf.Vars
import Derived.SliceStrings
import Derived.Deep.Slices
import Derived.Lib.SmallJoins
import Derived.Stop.LaidErr
import Derived.MakeChecks
import Derived.Test.YthdiiiopjkaifaaGreatDoorZdPall0
namespace Go.Proofs.YthdiiiopjkaifaaGreatDoor
open Go.ChangeShapes Go.WideShapes Go.ChangeAt Go.RowKit
set_option linter.unusedVariables false
theorem belowAll {H : Type} {enc : TypeId × Value → H} {P : Program} (hl : laidOutB P = true) {W W' : World} (hb : Below W.heap.size W W') :
  ∀ {ts : List TypeId} (hr : (ts.all fun t => P.readableRec t && decide (t < P.types.size)) = true) {vs : List Value} {ds : List (DataW H)} {ps : List MemPlace},
   DataW.TrodAll enc P W 0 (fun _ => true) true ts vs ds ps → DataW.TrodAll enc P W' 0 (fun b => decide (b < W.heap.size)) true ts vs ds ps
 | [], _, [], [], _, h => h
 | t :: ts, hr, v :: vs, d :: ds, ps, h => by
  obtain ⟨p, q, h1, h2, rfl⟩ := h
  simp only [List.all_cons, Bool.and_eq_true, decide_eq_true_eq] at hr
  have hlt : ∀ x ∈ p, x.block < W.heap.size := by obtain ⟨m, hm⟩ := h1; exact DataW.trod_lt m _ _ _ hm
  exact ⟨p, q, Below.trod hl hr.1.1 hr.1.2 h1 hb hlt, belowAll hl hb hr.2 h2, rfl⟩
 | [], _, [], _ :: _, _, h => h.elim
 | [], _, _ :: _, [], _, h => h.elim
 | [], _, _ :: _, _ :: _, _, h => h.elim
 | _ :: _, _, [], [], _, h => h.elim
 | _ :: _, _, [], _ :: _, _, h => h.elim
 | _ :: _, _, _ :: _, [], _, h => h.elim
/-- The row's condition on a call, for a law: out of a walk that ends in 'true' and leaves what was there. -/
theorem law_lifted {H : Type} {enc : TypeId × Value → H} {C : Checked} {os : Os} {f : FuncId} {fn : Func} {s : ChangeSpec} {L : List (String × DataW Unit)} {rt : TypeId}
  (own : ownKnob C.prog.godebug = none) (started : os.Started) (noInit : C.prog.inits.idxOf? f = none) (hfn : C.prog.funcs[f]? = some fn)
  (hlaid : laidOutB C.prog = true) (hread : (fn.params.toList.all fun t => C.prog.readableRec t && decide (t < C.prog.types.size)) = true)
  (hv : s.vars = []) (hvt : s.plain.varTypes C.prog = []) (hres : fn.resultTypes.toList = [rt]) (hrt : C.prog.underlying rt = some .bool)
  (hfnc : ∀ (ds : List (DataW H)), ds.length = fn.params.size → s.fn H (ds ++ []) = { results := [.lit (.bool true)], args := ds })
  (witness : ∃ (w : World) (tape : Tape) (i : Input), w.os = os ∧ (w.forCall tape i).Shaped C.prog ∧ i.vars = [] ∧ Input.okWide C.prog (w.forCall tape i) .any w.heap.size f i ∧
   ((s.pre enc C.prog fn [] false (w.forCall tape i).memory i.args ∧ laidMetH C.prog L (w.forCall tape i).memory) ∧ sizedMet enc C.prog fn (OpenSpec.ofChange s) false (w.forCall tape i).memory i.args) ∧ ({} : Assume).holds C.prog (lone (Frame.enter C.prog f i.args .normal) [] (w.forCall tape i)))
  (contract : ∀ (W : World) (base : Nat) (args : Array Value) (ds : List (DataW H)) (ps : List MemPlace),
   (∀ (j : Nat) t v, fn.params[j]? = some t → args[j]? = some v → Value.okWide C.prog W .any base t v) →
   DataW.TrodAll enc C.prog W 0 (fun _ => true) true fn.params.toList args.toList ds ps →
   (DataW.weightsEach C.prog fn.params.toList ds).all (· ≤ reachBytes) = true → laidMetH C.prog L W → W.ShapedOpen C.prog →
   Calls C.prog f args W fun e W' => e = .returned (.bool true) ∧ Below W.heap.size W W') :
  ReturnsInHanded {} C os f .any (fun w args => (s.pre enc C.prog fn [] false w args ∧ laidMetH C.prog L w) ∧ sizedMet enc C.prog fn (OpenSpec.ofChange s) false w args)
   (s.post enc C.prog fn false true false false) := by
 refine returnsInHanded_of_calls own started noInit witness ?_
 intro w tape i _ hsh _ hok hpre hholds
 obtain ⟨_, _, _, fn', hfn', _, _, _, _, hval⟩ := hok
 have e : fn' = fn := Option.some.inj (hfn'.symm.trans hfn)
 subst e
 obtain ⟨⟨⟨ds, gs, before, hw, hc⟩, hx⟩, hz⟩ := hpre
 have hw' := DataW.Whole.of_heap (w' := w.forCall tape i) (by rfl) hw
 have hwt := hz.weights hw
 obtain ⟨p, q, hA, hV, hpq, hfz, hnd⟩ := hw'
 rw [hv] at hV
 obtain ⟨rfl, rfl⟩ := trodVars_none hV
 rw [show (OpenSpec.ofChange s).bare.plain.varTypes C.prog = [] from hvt] at hwt
 have hlen : ds.length = fn'.params.size := by
  have : ∀ {ts : List TypeId} {vs : List Value} {ds : List (DataW H)} {ps}, DataW.TrodAll enc C.prog (w.forCall tape i) 0 (fun _ => true) true ts vs ds ps → ds.length = ts.length := by
   intro ts
   induction ts with
   | nil => intro vs ds ps h; cases vs <;> cases ds <;> first | rfl | exact h.elim
   | cons t ts ih =>
    intro vs ds ps h
    cases vs with
    | nil => cases ds <;> exact h.elim
    | cons v vs =>
     cases ds with
     | nil => exact h.elim
     | cons d ds => obtain ⟨p, q, _, h2, _⟩ := h; simp [ih h2]
  rw [this hA, Array.length_toList]
 refine (contract (w.forCall tape i) w.heap.size i.args ds p hval hA (by simpa using hwt) (hx.of_heap (by rfl)) hsh).mono fun e W' ⟨he, bel⟩ => ?_
 subst he
 refine ChangeSpec.post_blind ?_
 refine ⟨ds, [], p ++ [], [], p, [], ⟨p, [], hA, by rw [hv]; exact rfl, rfl, by rw [hpq] at hfz; exact hfz, by rw [hpq] at hnd; exact hnd⟩, ?_, ?_, ?_, bel.frame _, fun h => by cases h⟩
 ·rw [hfnc ds hlen, hres]
  have hz1 : fn'.resultTypes.size = 1 := by rw [← Array.length_toList, hres]; rfl
  rw [hz1]
  exact trodAll_mk1 (shut_bool hrt true)
 ·rw [hfnc ds hlen]; exact belowAll hlaid bel hread hA
 ·rw [hfnc ds hlen, hv]; exact rfl
end Go.Proofs.YthdiiiopjkaifaaGreatDoor
namespace Go.Proofs.YthdiiiopjkaifaaGreatDoor.Pall
open Go.ChangeShapes Go.WideShapes Go.ChangeAt Go.RowKit Go.Proofs.YthdiiiopjkaifaaGreatDoorW Go.Proofs.YthdiiiopjkaifaaGreatDoorW.PrintWords
set_option linter.unusedVariables false
theorem laidMet_drop {P : Program} {w : World} : ∀ (i : Nat) {L : List (String × DataW Unit)}, laidMet P L w → laidMet P (L.drop i) w
 | 0, _, h => h
 | i + 1, [], h => h
 | i + 1, x :: L, h => laidMet_drop i (laidMet.tail h)
theorem tb_of {w : World} {L rest : List (String × DataW Unit)} (hL : laidMetH Tryz.prog L w) (hp : (L.all fun x => x.2.handleName?.isNone) = true) (i : Nat) (hd : L.drop i = ("internal/strconv.uint64pow10", Lib.tabData .u64 Lib.pow10Tab) :: rest) : Tb w := by
 rw [MakeChecks.laidMetH_plain _ _ _ hp] at hL
 have h1 := laidMet_drop i hL
 rw [hd] at h1
 exact Lib.tabIs_of_head (g := 2) (t := 330) (e := 38) (by kernel_rfl) (by kernel_rfl) Tryz.underlying330 Tryz.underlying38 (by kernel_rfl) (by kernel_rfl) h1
theorem cell_of_shapedOpen_int' {w : World} (h : w.ShapedOpen Tryz.prog) : Sh w :=
 cell_of_shapedOpen_int h (t := 3) (zero := #[.int .i64 0]) (of_decide_eq_true (by kernel_rfl)) (by kernel_rfl) rfl (by kernel_rfl) (by kernel_rfl) Tryz.underlying3
section
variable {H : Type} {enc : TypeId × Value → H} {P : Program} {W : World} {d : DataW H} {ps : List MemPlace} {ts : List TypeId} {ds : List (DataW H)} {j : Nat}
theorem ints_row {t e : TypeId} {k : IntKind} {a : Option Addr} {len cap : Nat} (hu : P.underlying t = some (.slice e)) (he : P.underlying e = some (.int k)) (hc : P.cellsOf e = 1)
  (h : DataW.Trod enc P W 0 (fun _ => true) true t (.slice a len cap) d ps) :
  ∃ zs : List Int, (a = none ∧ len = 0 ∧ cap = 0 ∧ zs = []) ∨ ∃ x, a = some x ∧ len ≤ cap ∧ cap ≤ maxLen ∧ zs.length = cap ∧ (∀ i, i < zs.length → W.cell? (x.add i) = some (.int k (zs.getD i 0))) ∧ ∀ n ∈ zs, (Lit.int k n).wf = true := by
 obtain ⟨fuel, hf⟩ := h
 rcases open_ints hu he hc hf with ⟨hcs, _⟩ | ⟨x, l, c, zs, hcs, _, hl, hm, hz, _, hcell, hwz⟩
 ·simp [Value.cells] at hcs
  obtain ⟨rfl, rfl, rfl⟩ := hcs
  exact ⟨[], .inl ⟨rfl, rfl, rfl, rfl⟩⟩
 ·simp [Value.cells] at hcs
  obtain ⟨rfl, rfl, rfl⟩ := hcs
  exact ⟨zs, .inr ⟨_, rfl, hl, hm, by simpa using hz, hcell, hwz⟩⟩
end
end Go.Proofs.YthdiiiopjkaifaaGreatDoor.Pall

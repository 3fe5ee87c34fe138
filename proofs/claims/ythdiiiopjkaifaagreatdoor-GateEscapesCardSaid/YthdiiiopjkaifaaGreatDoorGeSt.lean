/-
The document's hex text of some bytes.
From a law's walk to its row: a call that returns true, and leaves all that was there as it was, meets the law's statement, whatever the kinds of its arguments. The listed variables are known to hold what is listed, and the world is well shaped.
 From a row's readings to the forms that the printed walks take: slices of numbers, bools, strings and pairs, and what their parts weigh.
 From a row's readings to the forms that the printed walks take: slices of bools, of strings and of pairs.
What stands while a call is walked: the call's own blocks, each with what it holds, no two the same; a step tells which of them it changes.
-/
import Derived.Test.YthdiiiopjkaifaaGreatDoorGePlb
import Derived.Test.YthdiiiopjkaifaaGreatDoorGeLines
import Derived.Test.YthdiiiopjkaifaaGreatDoorGePall17
import Derived.Test.YthdiiiopjkaifaaGreatDoorRows
import Derived.WalkKit
import Derived.ProofKit
import Derived.OpenShut
import Derived.ShutString
import Derived.ChangeOld
import Derived.Below
import Derived.SizedLaws
import Derived.LaidMore
import Derived.Lay
import Derived.SevenTiedAt
import Derived.Stop.Joined
import Derived.Test.YthdiiiopjkaifaaGreatDoorGeExt
import Derived.Test.YthdiiiopjkaifaaGreatDoorGeWSized
import Derived.Shelf.Vars
import Derived.SliceStrings
import Derived.Deep.Slices
import Derived.Lib.SmallJoins
import Derived.Stop.LaidErr
import Derived.MakeChecks
import Derived.Test.YthdiiiopjkaifaaGreatDoorGePall0
import Derived.Deep.Draws
import Derived.Deep.AppendLies
import Derived.Maps.AppendAt
import Derived.OwnWalk
import Derived.Laws.BytesArg
import Derived.Laws.MakeOwn
import Derived.Laws.OwnMore
import Derived.Deep.OwnRows
import Derived.Tactics
import Derived.Lib.ConvBytes
import Derived.Laws.Slices
import Derived.KernelRfl
import Derived.RowKit3
import Derived.Deep.LoopGhost
import Derived.Deep.QuietTactic
import Derived.BigQuiet
import Derived.WideLaws
import Derived.Deep.DeepCutAuto
import Derived.Deep.CutBlock
import Derived.Deep.RegionHeld3
import Derived.Laws.Rows
import Derived.Lib.AppendStr
import Derived.ArgAppend
import Derived.Laws.IdiomCopy
import Derived.RowKit
import Derived.OrdersHeld
import Derived.Laws.BitsLemmas
import Derived.Laws.StructEq
import Derived.Test.YthdiiiopjkaifaaGreatDoorGeWN
import Derived.Test.YthdiiiopjkaifaaGreatDoorGeWWords
import Derived.Test.YthdiiiopjkaifaaGreatDoorGeWMore
import Derived.Test.YthdiiiopjkaifaaGreatDoorGeWLast
import Derived.Lib.Builder
section
namespace Go.Proofs.YthdiiiopjkaifaaGreatDoor.Pl
open Go.RowKit Go.Proofs.YthdiiiopjkaifaaGreatDoor.Pall Go.Proofs.YthdiiiopjkaifaaGreatDoorW.PrintWords
set_option linter.unusedVariables false
set_option linter.unusedSimpArgs false
def hexD (n : Nat) : UInt8 := ([48, 49, 50, 51, 52, 53, 54, 55, 56, 57, 97, 98, 99, 100, 101, 102] : List UInt8).getD n 0
def hexP (x : Int) : List UInt8 := [hexD (x.toNat / 16), hexD (x.toNat % 16)]
def digB : ByteArray := ⟨#[48, 49, 50, 51, 52, 53, 54, 55, 56, 57, 97, 98, 99, 100, 101, 102]⟩
def hexChk (x : Int) : Bool :=
 decide (0 ≤ ((Int.tdiv x 16) % 256)) && decide (((Int.tdiv x 16) % 256) ≤ ((((Int.tdiv x 16) % 256) + 1) % 256)) && decide (((((Int.tdiv x 16) % 256) + 1) % 256) ≤ 16) && decide (0 ≤ (Int.tmod x 16)) && decide ((Int.tmod x 16) ≤ (((Int.tmod x 16) + 1) % 256)) && decide ((((Int.tmod x 16) + 1) % 256) ≤ 16)
 && ((digB.extract (((Int.tdiv x 16) % 256) : Int).toNat (((((Int.tdiv x 16) % 256) + 1) % 256) : Int).toNat).data.toList == [hexD (x.toNat / 16)]) && ((digB.extract ((Int.tmod x 16) : Int).toNat ((((Int.tmod x 16) + 1) % 256) : Int).toNat).data.toList == [hexD (x.toNat % 16)])
theorem hexChk_all (c : UInt8) : hexChk (c.toNat : Int) = true := u8_all (fun c => hexChk (c.toNat : Int)) (by decide +kernel) c
theorem hexT (l : List Int) (hl : ∀ x ∈ l, 0 ≤ x ∧ x ≤ 255) (hn : l.length ≤ 1000000) : Ev (fun k => wicketmanref05_Text.f k l) (mkB (l.flatMap hexP)) := by
 have h := ev_build (fun k s i => wicketmanref05_Text.l0 k l s (i : Int)) (fun _ s => some s) l l.length 2 hexP (fun x _ => Nat.le_refl _) (fun k s i hi _ hs => ?_) (fun k s i hi hN ho hs => ?_) (r := mkB ((l.take l.length).flatMap hexP)) (Ev.now _)
 ·rw [List.take_length] at h
  exact h
 ·obtain ⟨c, hc⟩ : ∃ c : UInt8, l.getD i 0 = (c.toNat : Int) := by
   have hm := hl _ (getD_mem0 l 0 hi)
   refine ⟨UInt8.ofNat (l.getD i 0).toNat, ?_⟩
   rw [UInt8.toNat_ofNat']
   omega
  have hk := hexChk_all c
  unfold hexChk at hk
  simp only [Bool.and_eq_true, decide_eq_true_eq, beq_iff_eq] at hk
  obtain ⟨⟨⟨⟨⟨⟨⟨h1, h2⟩, h3⟩, h4⟩, h5⟩, h6⟩, h7⟩, h8⟩ := hk
  have e7 : digB.extract (((Int.tdiv (c.toNat : Int) 16) % 256) : Int).toNat (((((Int.tdiv (c.toNat : Int) 16) % 256) + 1) % 256) : Int).toNat = mkB [hexD ((c.toNat : Int).toNat / 16)] := Pall.ba_ext h7
  have e8 : digB.extract ((Int.tmod (c.toNat : Int) 16) : Int).toNat ((((Int.tmod (c.toNat : Int) 16) + 1) % 256) : Int).toNat = mkB [hexD ((c.toNat : Int).toNat % 16)] := Pall.ba_ext h8
  simp only [wicketmanref05_Text.l0]
  rw [rd_at, hc, if_pos (by omega), if_pos (by omega), if_pos h1, if_pos h2, if_pos h3]
  rw [show (⟨#[48, 49, 50, 51, 52, 53, 54, 55, 56, 57, 97, 98, 99, 100, 101, 102]⟩ : ByteArray) = digB from rfl, e7, e8]
  rw [if_pos (by rw [mkB_size]; show s.size + 1 ≤ _; omega), if_pos h4, if_pos h5, if_pos h6, if_pos (by rw [ByteArray.size_append, mkB_size, mkB_size]; show s.size + 1 + 1 ≤ _; omega), mkB_snoc, wrap_id (by omega) (by omega)]
  rfl
 ·simp only [wicketmanref05_Text.l0]
  rw [if_neg (by omega)]
end Go.Proofs.YthdiiiopjkaifaaGreatDoor.Pl
end
section
namespace Go.Proofs.YthdiiiopjkaifaaGreatDoor
open Go.ChangeShapes Go.WideShapes Go.ChangeAt Go.RowKit
set_option linter.unusedVariables false
theorem belowAll {H : Type} {enc : TypeId × Value → H} {P : Program} (hl : laidOutB P = true) {W W' : World} (hb : Below W.heap.size W W') :
  ∀ {ts : List TypeId} (hr : (ts.all fun t => P.readableRec t && decide (t < P.types.size)) = true) {vs : List Value} {ds : List (DataW H)} {ps : List MemPlace},
   DataW.TrodAll enc P W 0 (fun _ => true) true ts vs ds ps → DataW.TrodAll enc P W' 0 (fun b => decide (b < W.heap.size)) true ts vs ds ps
 | [], _, [], [], _, h => h
 | t :: ts, hr, v :: vs, d :: ds, ps, h => by
  obtain ⟨p, q, h1, h2, rfl⟩ := h
  simp only [List.all_cons, Bool.and_eq_true, decide_eq_true_eq] at hr
  have hlt : ∀ x ∈ p, x.block < W.heap.size := by obtain ⟨m, hm⟩ := h1; exact DataW.trod_lt m _ _ _ hm
  exact ⟨p, q, Below.trod hl hr.1.1 hr.1.2 h1 hb hlt, belowAll hl hb hr.2 h2, rfl⟩
 | [], _, [], _ :: _, _, h => h.elim
 | [], _, _ :: _, [], _, h => h.elim
 | [], _, _ :: _, _ :: _, _, h => h.elim
 | _ :: _, _, [], [], _, h => h.elim
 | _ :: _, _, [], _ :: _, _, h => h.elim
 | _ :: _, _, _ :: _, [], _, h => h.elim
/-- The row's condition on a call, for a law: out of a walk that ends in 'true' and leaves what was there. -/
theorem law_lifted {H : Type} {enc : TypeId × Value → H} {C : Checked} {os : Os} {f : FuncId} {fn : Func} {s : ChangeSpec} {L : List (String × DataW Unit)} {rt : TypeId}
  (own : ownKnob C.prog.godebug = none) (started : os.Started) (noInit : C.prog.inits.idxOf? f = none) (hfn : C.prog.funcs[f]? = some fn)
  (hlaid : laidOutB C.prog = true) (hread : (fn.params.toList.all fun t => C.prog.readableRec t && decide (t < C.prog.types.size)) = true)
  (hv : s.vars = []) (hvt : s.plain.varTypes C.prog = []) (hres : fn.resultTypes.toList = [rt]) (hrt : C.prog.underlying rt = some .bool)
  (hfnc : ∀ (ds : List (DataW H)), ds.length = fn.params.size → s.fn H (ds ++ []) = { results := [.lit (.bool true)], args := ds })
  (witness : ∃ (w : World) (tape : Tape) (i : Input), w.os = os ∧ (w.forCall tape i).Shaped C.prog ∧ i.vars = [] ∧ Input.okWide C.prog (w.forCall tape i) .any w.heap.size f i ∧
   ((s.pre enc C.prog fn [] false (w.forCall tape i).memory i.args ∧ laidMetH C.prog L (w.forCall tape i).memory) ∧ sizedMet enc C.prog fn (OpenSpec.ofChange s) false (w.forCall tape i).memory i.args) ∧ ({} : Assume).holds C.prog (lone (Frame.enter C.prog f i.args .normal) [] (w.forCall tape i)))
  (contract : ∀ (W : World) (base : Nat) (args : Array Value) (ds : List (DataW H)) (ps : List MemPlace),
   (∀ (j : Nat) t v, fn.params[j]? = some t → args[j]? = some v → Value.okWide C.prog W .any base t v) →
   DataW.TrodAll enc C.prog W 0 (fun _ => true) true fn.params.toList args.toList ds ps →
   (DataW.weightsEach C.prog fn.params.toList ds).all (· ≤ reachBytes) = true → laidMetH C.prog L W → W.ShapedOpen C.prog →
   Calls C.prog f args W fun e W' => e = .returned (.bool true) ∧ Below W.heap.size W W') :
  ReturnsInHanded {} C os f .any (fun w args => (s.pre enc C.prog fn [] false w args ∧ laidMetH C.prog L w) ∧ sizedMet enc C.prog fn (OpenSpec.ofChange s) false w args)
   (s.post enc C.prog fn false true false false) := by
 refine returnsInHanded_of_calls own started noInit witness ?_
 intro w tape i _ hsh _ hok hpre hholds
 obtain ⟨_, _, _, fn', hfn', _, _, _, _, hval⟩ := hok
 have e : fn' = fn := Option.some.inj (hfn'.symm.trans hfn)
 subst e
 obtain ⟨⟨⟨ds, gs, before, hw, hc⟩, hx⟩, hz⟩ := hpre
 have hw' := DataW.Whole.of_heap (w' := w.forCall tape i) (by rfl) hw
 have hwt := hz.weights hw
 obtain ⟨p, q, hA, hV, hpq, hfz, hnd⟩ := hw'
 rw [hv] at hV
 obtain ⟨rfl, rfl⟩ := trodVars_none hV
 rw [show (OpenSpec.ofChange s).bare.plain.varTypes C.prog = [] from hvt] at hwt
 have hlen : ds.length = fn'.params.size := by
  have : ∀ {ts : List TypeId} {vs : List Value} {ds : List (DataW H)} {ps}, DataW.TrodAll enc C.prog (w.forCall tape i) 0 (fun _ => true) true ts vs ds ps → ds.length = ts.length := by
   intro ts
   induction ts with
   | nil => intro vs ds ps h; cases vs <;> cases ds <;> first | rfl | exact h.elim
   | cons t ts ih =>
    intro vs ds ps h
    cases vs with
    | nil => cases ds <;> exact h.elim
    | cons v vs =>
     cases ds with
     | nil => exact h.elim
     | cons d ds => obtain ⟨p, q, _, h2, _⟩ := h; simp [ih h2]
  rw [this hA, Array.length_toList]
 refine (contract (w.forCall tape i) w.heap.size i.args ds p hval hA (by simpa using hwt) (hx.of_heap (by rfl)) hsh).mono fun e W' ⟨he, bel⟩ => ?_
 subst he
 refine ChangeSpec.post_blind ?_
 refine ⟨ds, [], p ++ [], [], p, [], ⟨p, [], hA, by rw [hv]; exact rfl, rfl, by rw [hpq] at hfz; exact hfz, by rw [hpq] at hnd; exact hnd⟩, ?_, ?_, ?_, bel.frame _, fun h => by cases h⟩
 ·rw [hfnc ds hlen, hres]
  have hz1 : fn'.resultTypes.size = 1 := by rw [← Array.length_toList, hres]; rfl
  rw [hz1]
  exact trodAll_mk1 (shut_bool hrt true)
 ·rw [hfnc ds hlen]; exact belowAll hlaid bel hread hA
 ·rw [hfnc ds hlen, hv]; exact rfl
end Go.Proofs.YthdiiiopjkaifaaGreatDoor
namespace Go.Proofs.YthdiiiopjkaifaaGreatDoor.Pall
open Go.ChangeShapes Go.WideShapes Go.ChangeAt Go.RowKit Go.Proofs.YthdiiiopjkaifaaGreatDoorW Go.Proofs.YthdiiiopjkaifaaGreatDoorW.PrintWords
set_option linter.unusedVariables false
theorem laidMet_drop {P : Program} {w : World} : ∀ (i : Nat) {L : List (String × DataW Unit)}, laidMet P L w → laidMet P (L.drop i) w
 | 0, _, h => h
 | i + 1, [], h => h
 | i + 1, x :: L, h => laidMet_drop i (laidMet.tail h)
theorem tb_of {w : World} {L rest : List (String × DataW Unit)} (hL : laidMetH Tryz.prog L w) (hp : (L.all fun x => x.2.handleName?.isNone) = true) (i : Nat) (hd : L.drop i = ("internal/strconv.uint64pow10", Lib.tabData .u64 Lib.pow10Tab) :: rest) : Tb w := by
 rw [MakeChecks.laidMetH_plain _ _ _ hp] at hL
 have h1 := laidMet_drop i hL
 rw [hd] at h1
 exact Lib.tabIs_of_head (g := 2) (t := 330) (e := 38) (by kernel_rfl) (by kernel_rfl) Tryz.underlying330 Tryz.underlying38 (by kernel_rfl) (by kernel_rfl) h1
theorem cell_of_shapedOpen_int' {w : World} (h : w.ShapedOpen Tryz.prog) : Sh w :=
 cell_of_shapedOpen_int h (t := 3) (zero := #[.int .i64 0]) (of_decide_eq_true (by kernel_rfl)) (by kernel_rfl) rfl (by kernel_rfl) (by kernel_rfl) Tryz.underlying3
section
variable {H : Type} {enc : TypeId × Value → H} {P : Program} {W : World} {d : DataW H} {ps : List MemPlace} {ts : List TypeId} {ds : List (DataW H)} {j : Nat}
theorem ints_row {t e : TypeId} {k : IntKind} {a : Option Addr} {len cap : Nat} (hu : P.underlying t = some (.slice e)) (he : P.underlying e = some (.int k)) (hc : P.cellsOf e = 1)
  (h : DataW.Trod enc P W 0 (fun _ => true) true t (.slice a len cap) d ps) :
  ∃ zs : List Int, (a = none ∧ len = 0 ∧ cap = 0 ∧ zs = []) ∨ ∃ x, a = some x ∧ len ≤ cap ∧ cap ≤ maxLen ∧ zs.length = cap ∧ (∀ i, i < zs.length → W.cell? (x.add i) = some (.int k (zs.getD i 0))) ∧ ∀ n ∈ zs, (Lit.int k n).wf = true := by
 obtain ⟨fuel, hf⟩ := h
 rcases open_ints hu he hc hf with ⟨hcs, _⟩ | ⟨x, l, c, zs, hcs, _, hl, hm, hz, _, hcell, hwz⟩
 ·simp [Value.cells] at hcs
  obtain ⟨rfl, rfl, rfl⟩ := hcs
  exact ⟨[], .inl ⟨rfl, rfl, rfl, rfl⟩⟩
 ·simp [Value.cells] at hcs
  obtain ⟨rfl, rfl, rfl⟩ := hcs
  exact ⟨zs, .inr ⟨_, rfl, hl, hm, by simpa using hz, hcell, hwz⟩⟩
end
end Go.Proofs.YthdiiiopjkaifaaGreatDoor.Pall
end
section
namespace Go.Proofs.YthdiiiopjkaifaaGreatDoor.St
open Go Go.RowKit Go.Proofs.YthdiiiopjkaifaaGreatDoorW.PrintWords
set_option linter.unusedVariables false
/-- from one world to another: what was there stays, but for the blocks bs -/
structure Mut (bs : List Nat) (w w' : World) : Prop where
 os : w'.os = w.os
 tape : w'.tape = w.tape
 output : w'.output = w.output
 size : w.heap.size ≤ w'.heap.size
 keep : ∀ b, b < w.heap.size → b ∉ bs → w'.heap[b]? = w.heap[b]?
theorem Mut.refl (bs : List Nat) (w : World) : Mut bs w w := ⟨rfl, rfl, rfl, Nat.le_refl _, fun _ _ _ => rfl⟩
theorem Mut.of_below {w w' : World} (h : Below w.heap.size w w') : Mut [] w w' := ⟨h.os, h.tape, h.output, h.size, fun b hb _ => h.block b hb⟩
theorem Mut.below {bs : List Nat} {B : Nat} {w w' : World} (h : Mut bs w w') (hB : B ≤ w.heap.size) (hb : ∀ b ∈ bs, B ≤ b) : Below B w w' :=
 ⟨h.os, h.tape, h.output, h.size, fun k hk => h.keep k (by omega) (fun hm => by have := hb k hm; omega)⟩
theorem Mut.all {w w' : World} (h : Mut [] w w') : Below w.heap.size w w' := h.below (Nat.le_refl _) (fun _ hm => by cases hm)
theorem Mut.mono {bs bs' : List Nat} {w w' : World} (h : Mut bs w w') (hs : ∀ b ∈ bs, b ∈ bs') : Mut bs' w w' := ⟨h.os, h.tape, h.output, h.size, fun b hb hn => h.keep b hb (fun hm => hn (hs b hm))⟩
theorem Mut.trans {bs bs' : List Nat} {a b c : World} (h : Mut bs a b) (k : Mut bs' b c) (hs : ∀ x ∈ bs', x ∈ bs ∨ a.heap.size ≤ x) : Mut bs a c :=
 ⟨k.os.trans h.os, k.tape.trans h.tape, k.output.trans h.output, Nat.le_trans h.size k.size, fun x hx hn => (k.keep x (Nat.lt_of_lt_of_le hx h.size) (fun hm => by rcases hs x hm with h1 | h1; exact hn h1; omega)).trans (h.keep x hx hn)⟩
theorem Mut.set (w : World) (p : Addr) (v : Value) : Mut [p.block] w (w.setCell p v) := ⟨rfl, rfl, rfl, by simp [World.setCell], fun b _ hn => Below.heap_setCell w p v b (by simpa using hn)⟩
theorem Mut.alloc (w : World) (o : Obj) : Mut [] w (w.alloc o) := .of_below ((Below.refl _ _).alloc (Nat.le_refl _) _)
theorem Mut.drew (w : World) : Mut [] w w.drew := ⟨rfl, rfl, rfl, Nat.le_refl _, fun _ _ _ => rfl⟩
theorem Mut.grown {w w' : World} {row : Option Nat} (h : w.grownBy w' row) : Mut row.toList w w' := ⟨h.os, h.tape, h.output, h.size, fun b hb hn => h.block b hb (fun e => hn (by subst e; simp))⟩
/-- a thing that some blocks hold -/
structure Res where
 bs : List Nat
 p : World → Prop
 dep : ∀ {w w' : World}, p w → (∀ b ∈ bs, w'.heap[b]? = w.heap[b]?) → p w'
def Res.box (g : Nat) (cs : Array Value) (t : TypeId) : Res := ⟨[g], fun w => w.heap[g]? = some (.cells cs t (0, 0)), fun h k => (k g (List.mem_singleton_self g)).trans h⟩
structure Flat {α : Type} (d : Kd α) : Prop where
 M : ∀ {w w' : World} {base base' : Nat} {ok ok' : Nat → Prop} {x : α} {cs : List Value}, d.M w base ok x cs → d.M w' base' ok' x cs
theorem flat_string : Flat Kd.string := ⟨fun h => h⟩
theorem flat_pair {α β : Type} {a : Kd α} {b : Kd β} (ha : Flat a) (hb : Flat b) : Flat (Kd.pair a b) := ⟨fun h => by
 obtain ⟨c0, c1, rfl, h0, h1⟩ := h
 exact ⟨c0, c1, rfl, ha.M h0, hb.M h1⟩⟩
theorem flat_iso {α β : Type} {d : Kd α} (f : β → α) (hd : Flat d) : Flat (Kd.iso d f) := ⟨fun h => hd.M (x := f _) h⟩
theorem Flat.R {α : Type} {d : Kd α} (fl : Flat d) {e : Nat} {w w' : World} {base : Nat} {ok ok' : Nat → Prop} {v : Value} {xs : List α} (h : d.R e w base ok v xs) (hok : ∀ k, v.ownBlock = some k → ok' k) (hm : ∀ k, v.ownBlock = some k → w'.heap[k]? = w.heap[k]?) : d.R e w' base ok' v xs := by
 obtain ⟨h0, inner, ho, hr⟩ := h
 exact ⟨hok, inner, own_move ho hm, hr.imp_ (fun _ _ hp => fl.M hp)⟩
/-- a row of its own -/
def Res.row {α : Type} (d : Kd α) (fl : Flat d) (e base : Nat) (v : Value) (xs : List α) : Res :=
 ⟨v.ownBlock.toList, fun w => d.R e w base (fun _ => True) v xs, fun h k => fl.R h (fun _ _ => trivial) (fun b hb => k b (by rw [hb]; exact List.mem_singleton_self b))⟩
/-- a builder: its block b, and the row v in which its bytes lie -/
structure Bld (T e : TypeId) (b : Nat) (p v : Value) (bs : List Value) (w : World) : Prop where
 blk : w.heap[b]? = some (.cells #[p, v] T (0, 0))
 row : w.ownsRow 0 e 1 v bs.length bs
 ad : p = .pointer none ∨ p = .pointer (some ⟨b, 0, none⟩)
/-- a row of its own, behind a store into an elder block -/
theorem R_set {α : Type} {d : Kd α} {e : Nat} {w : World} {base : Nat} {v : Value} {xs : List α} (h : d.R e w base (fun _ => True) v xs) (g i : Nat) (hg : g < base) (u : Value) : d.R e (w.setCell ⟨g, i, none⟩ u) base (fun _ => True) v xs :=
 Kd.R_mono (Kd.R_far (p := ⟨g, i, none⟩) (Kd.R_bound h) (fun k hk => by have := hk.2.1; show k ≠ g; omega) u) (fun _ _ => trivial)
structure St (W : World) (l : List Res) (w : World) : Prop where
 bel : Below W.heap.size W w
 all : ∀ (i : Nat) (r : Res), l[i]? = some r → r.p w
 nd : (l.flatMap Res.bs).Nodup
 rng : ∀ b ∈ l.flatMap Res.bs, W.heap.size ≤ b ∧ b < w.heap.size
theorem St.nil {W w : World} (h : Below W.heap.size W w) : St W [] w := ⟨h, fun i r hi => by simp at hi, List.nodup_nil, fun b hb => by simp at hb⟩
section
variable {W w w' : World} {l l' : List Res} {r r' : Res} {i g : Nat} {cs : Array Value} {t : TypeId}
theorem St.box (h : St W l w) (i : Nat) (hr : l[i]? = some (.box g cs t)) : w.heap[g]? = some (.cells cs t (0, 0)) := h.all i _ hr
theorem St.cell (h : St W l w) (i j : Nat) (hr : l[i]? = some (.box g cs t)) : w.cell? ⟨g, j, none⟩ = cs[j]? := blk_cell (h.box i hr) j
theorem St.fz (h : St W l w) (i j : Nat) (hr : l[i]? = some (.box g cs t)) : w.frozen? ⟨g, j, none⟩ = false := blk_frozen (h.box i hr) j
theorem St.row {α : Type} {d : Kd α} {fl : Flat d} {e base : Nat} {v : Value} {xs : List α} (h : St W l w) (i : Nat) (hr : l[i]? = some (.row d fl e base v xs)) : d.R e w base (fun _ => True) v xs := h.all i _ hr
theorem mem_bs (hr : l[i]? = some r) {b : Nat} (hb : b ∈ r.bs) : b ∈ l.flatMap Res.bs := List.mem_flatMap.2 ⟨r, List.mem_of_getElem? hr, hb⟩
theorem St.ge (h : St W l w) (i : Nat) (hr : l[i]? = some r) {b : Nat} (hb : b ∈ r.bs) : W.heap.size ≤ b := (h.rng b (mem_bs hr hb)).1
theorem St.lt (h : St W l w) (i : Nat) (hr : l[i]? = some r) {b : Nat} (hb : b ∈ r.bs) : b < w.heap.size := (h.rng b (mem_bs hr hb)).2
theorem St.next (h : St W l w) (hm : Mut [] w w') : St W l w' where
 bel := h.bel.trans (hm.all.mono h.bel.size)
 all := fun i r hr => r.dep (h.all i r hr) (fun b hb => hm.keep b (h.lt i hr hb) (fun e => by cases e))
 nd := h.nd
 rng := fun b hb => ⟨(h.rng b hb).1, Nat.lt_of_lt_of_le (h.rng b hb).2 hm.size⟩
theorem St.go (h : St W l w) (hb : Below w.heap.size w w') : St W l w' := h.next (.of_below hb)
theorem St.drew (h : St W l w) : St W l w.drew := h.next (.drew w)
/-- one thing more -/
theorem St.push (h : St W l w) (hm : Mut [] w w') (hp : r.p w') (hr : ∀ b ∈ r.bs, w.heap.size ≤ b ∧ b < w'.heap.size) (hn : r.bs.Nodup) : St W (r :: l) w' where
 bel := (h.next hm).bel
 all := fun i q hq => by
  cases i with
  | zero => simp at hq; subst hq; exact hp
  | succ i => exact (h.next hm).all i q (by simpa using hq)
 nd := by
  rw [List.flatMap_cons, List.nodup_append]
  exact ⟨hn, h.nd, fun a ha b hb e => by have := (hr a ha).1; have := (h.rng b hb).2; omega⟩
 rng := fun b hb => by
  rw [List.flatMap_cons, List.mem_append] at hb
  rcases hb with hb | hb
  ·exact ⟨Nat.le_trans h.bel.size (hr b hb).1, (hr b hb).2⟩
  ·exact (h.next hm).rng b hb
theorem St.new (h : St W l w) (cs : Array Value) (t : TypeId) : St W (.box w.heap.size cs t :: l) (w.alloc (.cells cs t)) :=
 h.push (.alloc w _) (blk_new w _) (fun b hb => by rw [List.mem_singleton.1 hb]; exact ⟨Nat.le_refl _, by simp [World.alloc, -World.alloc_eq]⟩) (List.nodup_cons.2 ⟨by simp, List.nodup_nil⟩)
theorem St.newAt (h : St W l w) (n : Nat) (hn : w.heap.size = n) (cs : Array Value) (t : TypeId) : St W (.box n cs t :: l) (w.alloc (.cells cs t)) := by
 subst hn
 exact h.new cs t
theorem size_alloc (w : World) (o : Obj) : (w.alloc o).heap.size = w.heap.size + 1 := by simp [World.alloc, -World.alloc_eq]
theorem nodup_set {l : List Res} {i : Nat} {r r' : Res} (hi : l[i]? = some r) (hn : (l.flatMap Res.bs).Nodup) (hr' : r'.bs.Nodup) (hd : ∀ b ∈ r'.bs, b ∈ r.bs ∨ b ∉ l.flatMap Res.bs) : ((l.set i r').flatMap Res.bs).Nodup := by
 induction l generalizing i with
 | nil => simp at hi
 | cons q l ih =>
  rw [List.flatMap_cons, List.nodup_append] at hn
  obtain ⟨h1, h2, h3⟩ := hn
  cases i with
  | zero =>
   simp at hi
   subst hi
   rw [List.set_cons_zero, List.flatMap_cons, List.nodup_append]
   refine ⟨hr', h2, fun a ha b hb e => ?_⟩
   subst e
   rcases hd a ha with h | h
   ·exact h3 a h a hb rfl
   ·exact h (by rw [List.flatMap_cons, List.mem_append]; exact .inr hb)
  | succ i =>
   have hi' : l[i]? = some r := by simpa using hi
   rw [List.set_cons_succ, List.flatMap_cons, List.nodup_append]
   refine ⟨h1, ih hi' h2 (fun b hb => (hd b hb).imp id (fun h hm => h (by rw [List.flatMap_cons, List.mem_append]; exact .inr hm))), fun a ha b hb e => ?_⟩
   subst e
   obtain ⟨x, hx, hax⟩ := List.mem_flatMap.1 hb
   rcases List.mem_or_eq_of_mem_set hx with hx | rfl
   ·exact h3 a ha a (List.mem_flatMap.2 ⟨x, hx, hax⟩) rfl
   ·rcases hd a hax with h | h
    ·exact h3 a ha a (mem_bs hi' h) rfl
    ·exact h (by rw [List.flatMap_cons, List.mem_append]; exact .inl ha)
theorem apart {l : List Res} {i j : Nat} {r q : Res} (hn : (l.flatMap Res.bs).Nodup) (hi : l[i]? = some r) (hj : l[j]? = some q) (hij : i ≠ j) {b : Nat} (hb : b ∈ r.bs) : b ∉ q.bs := by
 induction l generalizing i j with
 | nil => simp at hi
 | cons x l ih =>
  rw [List.flatMap_cons, List.nodup_append] at hn
  obtain ⟨_, h2, h3⟩ := hn
  intro hbq
  cases i with
  | zero =>
   cases j with
   | zero => exact hij rfl
   | succ j =>
    simp at hi hj
    subst hi
    exact h3 b hb b (mem_bs hj hbq) rfl
  | succ i =>
   simp at hi
   cases j with
   | zero =>
    simp at hj
    subst hj
    exact h3 b hbq b (mem_bs hi hb) rfl
   | succ j =>
    simp at hj
    exact ih h2 hi hj (fun e => hij (by rw [e])) hbq
/-- one of the things is changed -/
theorem St.chg (h : St W l w) (i : Nat) (hi : l[i]? = some r) (hm : Mut r.bs w w') (hp : r'.p w') (hr : ∀ b ∈ r'.bs, b ∈ r.bs ∨ w.heap.size ≤ b ∧ b < w'.heap.size) (hn : r'.bs.Nodup) : St W (l.set i r') w' where
 bel := h.bel.trans (hm.below h.bel.size (fun b hb => h.ge i hi hb))
 all := fun j q hq => by
  rw [List.getElem?_set] at hq
  split at hq
  ·split at hq
   ·injection hq with hq; subst hq; exact hp
   ·cases hq
  ·rename_i hne
   exact q.dep (h.all j q hq) (fun b hb => hm.keep b (h.lt j hq hb) (apart h.nd hq hi (fun e => hne e.symm) hb))
 nd := nodup_set hi h.nd hn (fun b hb => (hr b hb).imp id (fun h1 h2 => by have := (h.rng b h2).2; omega))
 rng := fun b hb => by
  obtain ⟨x, hx, hbx⟩ := List.mem_flatMap.1 hb
  rcases List.mem_or_eq_of_mem_set hx with hx | rfl
  ·have := h.rng b (List.mem_flatMap.2 ⟨x, hx, hbx⟩)
   exact ⟨this.1, Nat.lt_of_lt_of_le this.2 hm.size⟩
  ·rcases hr b hbx with h1 | h1
   ·have := h.rng b (mem_bs hi h1)
    exact ⟨this.1, Nat.lt_of_lt_of_le this.2 hm.size⟩
   ·exact ⟨Nat.le_trans h.bel.size h1.1, h1.2⟩
theorem St.set (h : St W l w) (i : Nat) (hi : l[i]? = some (.box g cs t)) (j : Nat) (v : Value) : St W (l.set i (.box g (cs.setIfInBounds j v) t)) (w.setCell ⟨g, j, none⟩ v) :=
 h.chg i hi (.set w ⟨g, j, none⟩ v) (blk_set (h.box i hi) j v) (fun b hb => .inl hb) (List.nodup_cons.2 ⟨by simp, List.nodup_nil⟩)
end
end Go.Proofs.YthdiiiopjkaifaaGreatDoor.St
end

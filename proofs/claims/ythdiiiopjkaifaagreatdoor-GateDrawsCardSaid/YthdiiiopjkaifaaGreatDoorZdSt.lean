/-
gate.Ask: a path that is none is answered by 404.
What stands while a call is walked: the call's own blocks, each with what it holds, no two the same; a step tells which of them it changes.
-/
import Derived.Below
import Derived.Deep.Draws
import Derived.Deep.AppendLies
import Derived.Maps.AppendAt
import Derived.OwnWalk
import Derived.Laws.BytesArg
import Derived.Laws.MakeOwn
import Derived.Laws.OwnMore
import Derived.Deep.OwnRows
import Derived.Tactics
import Derived.Lib.ConvBytes
import Derived.Laws.Slices
import Derived.WalkKit
import Derived.KernelRfl
import Derived.RowKit3
import Derived.Deep.LoopGhost
import Derived.Deep.QuietTactic
import Derived.BigQuiet
import Derived.WideLaws
import Derived.Deep.DeepCutAuto
import Derived.Deep.CutBlock
import Derived.Deep.RegionHeld3
import Derived.Laws.Rows
import Derived.Lib.AppendStr
import Derived.ArgAppend
import Derived.Laws.IdiomCopy
import Derived.RowKit
import Derived.OrdersHeld
import Derived.Laws.BitsLemmas
import Derived.Laws.StructEq
import Derived.Test.YthdiiiopjkaifaaGreatDoorZdWN
import Derived.Test.YthdiiiopjkaifaaGreatDoorZdWWords
import Derived.Test.YthdiiiopjkaifaaGreatDoorZdWMore
import Derived.Test.YthdiiiopjkaifaaGreatDoorZdWLast
import Derived.Test.YthdiiiopjkaifaaGreatDoorZdGateA
import Derived.Lib.Builder
section
namespace Go.Proofs.YthdiiiopjkaifaaGreatDoor.Pl
open Go Go.RowKit Go.Proofs.YthdiiiopjkaifaaGreatDoor.MapS Go.Proofs.YthdiiiopjkaifaaGreatDoorW.PrintWords Go.Proofs.YthdiiiopjkaifaaGreatDoorW.PrintLast
set_option linter.unusedVariables false
set_option linter.unusedSimpArgs false
def zAsk : Array Value := #[.int .i64 0, .string ⟨#[]⟩, .string ⟨#[]⟩, .string ⟨#[]⟩, .string ⟨#[]⟩, .string ⟨#[]⟩, .slice none 0 0, .slice none 0 0]
structure Aq (W : World) (c2 c4 : Array Value) (w : World) : Prop where
 bel : Below W.heap.size W w
 x2 : w.heap[W.heap.size]? = some (.cells c2 25 (0, 0))
 x4 : w.heap[W.heap.size + 1]? = some (.cells c4 31 (0, 0))
theorem Aq.start (W : World) (c2 c4 : Array Value) : Aq W c2 c4 ((W.alloc (.cells c2 25)).alloc (.cells c4 31)) where
 bel := ((Below.refl _ _).alloc (Nat.le_refl _) _).alloc (by simp [World.alloc, -World.alloc_eq]) _
 x2 := blk_alloc (blk_new W _) _
 x4 := by
  have h := blk_new (W.alloc (.cells c2 25)) (.cells c4 31)
  have e : (W.alloc (.cells c2 25)).heap.size = W.heap.size + 1 := by simp [World.alloc, -World.alloc_eq]
  rw [e] at h
  exact h
theorem Aq.next {W : World} {c2 c4 : Array Value} {w w' : World} (h : Aq W c2 c4 w) (hb : Below w.heap.size w w') : Aq W c2 c4 w' where
 bel := h.bel.trans (hb.mono h.bel.size)
 x2 := blk_below h.x2 hb
 x4 := blk_below h.x4 hb
theorem Aq.drew {W : World} {c2 c4 : Array Value} {w : World} (h : Aq W c2 c4 w) : Aq W c2 c4 w.drew := ⟨h.bel.drew, h.x2, h.x4⟩
theorem ask_results (tmps : Array Value) (W : World) (N : Nat) (h4 : tmps.getD 4 undef = .pointer (some ⟨N, 0, none⟩)) (n : Value) (h5 : tmps.getD 5 undef = n) (v0 v1 v2 v3 v4 v5 v6 v7 : Value) (c : W.heap[N]? = some (.cells #[v0, v1, v2, v3, v4, v5, v6, v7] 31 (0, 0))) :
  (results Tryz.f36 tmps).run Tryz.prog W = .ok (.tuple #[.agg #[v0, v1, v2, v3, v4, v5, v6, v7], n]) W := by
 have hr : Tryz.f36.results = #[.cell 4 31, .tmp 5] := rfl
 have hu := Tryz.underlying31
 have a0 := (blk_cell c 0).trans (show _ = some v0 from rfl)
 have a1 := (blk_cell c 1).trans (show _ = some v1 from rfl)
 have a2 := (blk_cell c 2).trans (show _ = some v2 from rfl)
 have a3 := (blk_cell c 3).trans (show _ = some v3 from rfl)
 have a4 := (blk_cell c 4).trans (show _ = some v4 from rfl)
 have a5 := (blk_cell c 5).trans (show _ = some v5 from rfl)
 have a6 := (blk_cell c 6).trans (show _ = some v6 from rfl)
 have a7 := (blk_cell c 7).trans (show _ = some v7 from rfl)
 unfold results
 rw [hr]
 rw [Array.getD_eq_getD_getElem?] at h4 h5
 simp [h4, h5, loadVar, a0, a1, a2, a3, a4, a5, a6, a7, go_sem, hu, isAgg, asAddr]
set_option maxRecDepth 100000 in
set_option maxHeartbeats 2000000 in
theorem ask_missing (m p : ByteArray) (A : Option Addr) (n c : Nat) (B : Option Addr) (k d : Nat) (Dr : Value) (W : World) (hp : ∀ b1 b2 b3 b4 b5, at_ (pathsL b1 b2 b3 b4 b5) p = none) :
  Calls Tryz.prog 36 #[.agg #[.string m, .string p, .slice A n c, .slice B k d], Dr] W fun e w => e = .returned (.tuple #[.agg zAsk, .int .i64 404]) ∧ Below W.heap.size W w := by
 have HA := hidM (Aq.start W #[.string m, .string p, .slice A n c, .slice B k d] #[.int .i64 0, .string ⟨#[]⟩, .string ⟨#[]⟩, .string ⟨#[]⟩, .string ⟨#[]⟩, .string ⟨#[]⟩, .slice none 0 0, .slice none 0 0])
 have hz : ∀ w, (zeroValue 145).run Tryz.prog w = .ok (.map none) w := fun w => by first | rfl | simp [zeroValue, run_underlying Tryz.underlying145]
 go_enter Tryz.func36, Tryz.ntmps36
 go_upto_region 1 with (fail)
 generalize (W.alloc (.cells #[.string m, .string p, .slice A n c, .slice B k d] 25)).alloc (.cells #[.int .i64 0, .string ⟨#[]⟩, .string ⟨#[]⟩, .string ⟨#[]⟩, .string ⟨#[]⟩, .string ⟨#[]⟩, .slice none 0 0, .slice none 0 0] 31) = wq at HA ⊢
 have hx0 := blk_cell HA.out.x2 0
 have hx1 := blk_cell HA.out.x2 1
 have HAd := hidM HA.out.drew
 refine start_ (n := 9) (S := fun w' => w'.cell? ⟨W.heap.size, 0, none⟩ = some (.string m) ∧ w'.cell? ⟨W.heap.size, 1, none⟩ = some (.string p)) (ds := []) #[false, false, false, false, false, false, false, false, false] (by kernel_rfl) rfl rfl ⟨hx0, hx1⟩ (fun hHeld => ?_)
 generalize wq.drew = wd at hHeld HAd ⊢
 refine pure_ (i := 1) (N := some 15) (v := ?_) (a' := ?_) #[false, true, false, false, false, false, false, false, false] rfl rfl (by kernel_rfl) (fun _ _ _ h => h) (Or.inl ⟨by rfl, ?_⟩) ?_ ?_
 rotate_left
 ·intro w'
  go_simp
  with_reducible rfl
 rotate_left
 ·simp only [Act.put, List.setIfInBounds_toArray, List.set_cons_zero, List.set_cons_succ]
  rfl
 refine take_ (i := 2) (N := some 16) (v := ?_) (a' := ?_) #[false, true, true, false, false, false, false, false, false] rfl rfl (by kernel_rfl) (fun _ _ _ h => h) (Or.inl ⟨by rfl, ?_⟩) hHeld ?_ ?_
 rotate_left
 ·rintro w' ⟨z0, z1⟩
  go_simp
  with_reducible rfl
 rotate_left
 ·simp only [Act.put, List.setIfInBounds_toArray, List.set_cons_zero, List.set_cons_succ]
  rfl
 refine one_ (i := 0) (N := some 14) #[true, true, true, false, false, false, false, false, false] rfl rfl (by kernel_rfl) (by decide) (fun K hK => ?_)
 go_simp; go_wp2_with (go_at_call 77; refine (routes_any _).mono ?_; rintro e w9 ⟨b, rfl, b1, b2, b3, b4, b5, hR⟩; have HA9 := hidM (HAd.out.next hR.bel); have hN := And.intro (blk_cell HA9.out.x2 0) (blk_cell HA9.out.x2 1); have hlk := look_run (P := Tryz.prog) (w := w9) Tryz.underlying147 Tryz.underlying9 hR.out p true (hz w9); simp only [hp, Option.getD_none, Option.isSome_none, if_true] at hlk)
 refine hK.out _ _ (hN) (fun hHeld => ?_)
 clear hK K
 refine one_ (i := 3) (N := some 17) #[true, true, true, true, false, false, false, false, false] rfl rfl (by kernel_rfl) (by decide) (fun K hK => ?_)
 go_simp
 refine hK.out _ _ (hN) (fun hHeld => ?_)
 clear hK K
 refine pure_ (i := 4) (N := some 13) (v := ?_) (a' := ?_) #[true, true, true, true, true, false, false, false, false] rfl rfl (by kernel_rfl) (fun _ _ _ h => h) (Or.inl ⟨by rfl, ?_⟩) ?_ ?_
 rotate_left
 ·intro w'
  go_simp
  with_reducible rfl
 rotate_left
 ·simp only [Act.put, List.setIfInBounds_toArray, List.set_cons_zero, List.set_cons_succ]
  rfl
 refine pure_ (i := 5) (N := some 18) (v := ?_) (a' := ?_) #[true, true, true, true, true, true, false, false, false] rfl rfl (by kernel_rfl) (fun _ _ _ h => h) (Or.inl ⟨by rfl, ?_⟩) ?_ ?_
 rotate_left
 ·intro w'
  go_simp
  with_reducible rfl
 rotate_left
 ·simp only [Act.put, List.setIfInBounds_toArray, List.set_cons_zero, List.set_cons_succ]
  rfl
 refine pure_ (i := 6) (N := some 19) (v := ?_) (a' := ?_) #[true, true, true, true, true, true, true, false, false] rfl rfl (by kernel_rfl) (fun _ _ _ h => h) (Or.inl ⟨by rfl, ?_⟩) ?_ ?_
 rotate_left
 ·intro w'
  go_simp
  with_reducible rfl
 rotate_left
 ·simp only [Act.put, List.setIfInBounds_toArray, List.set_cons_zero, List.set_cons_succ]
  rfl
 refine pure_ (i := 7) (N := some 6) (v := ?_) (a' := ?_) #[true, true, true, true, true, true, true, true, false] rfl rfl (by kernel_rfl) (fun _ _ _ h => h) (Or.inl ⟨by rfl, ?_⟩) ?_ ?_
 rotate_left
 ·intro w'
  go_simp
  with_reducible rfl
 rotate_left
 ·simp only [Act.put, List.setIfInBounds_toArray, List.set_cons_zero, List.set_cons_succ]
  rfl
 refine pure_ (i := 8) (N := some 7) (v := ?_) (a' := ?_) #[true, true, true, true, true, true, true, true, true] rfl rfl (by kernel_rfl) (fun _ _ _ h => h) (Or.inl ⟨by rfl, ?_⟩) ?_ ?_
 rotate_left
 ·intro w'
  go_simp
  with_reducible rfl
 rotate_left
 ·simp only [Act.put, List.setIfInBounds_toArray, List.set_cons_zero, List.set_cons_succ]
  rfl
 refine done_ (by kernel_rfl) ?_
 have y0 := blk_cell HA9.out.x4 0
 have y1 := blk_cell HA9.out.x4 1
 have y2 := blk_cell HA9.out.x4 2
 have y3 := blk_cell HA9.out.x4 3
 have y4 := blk_cell HA9.out.x4 4
 have y5 := blk_cell HA9.out.x4 5
 have y6 := blk_cell HA9.out.x4 6
 have y7 := blk_cell HA9.out.x4 7
 have f0 := blk_frozen HA9.out.x4 0
 have f1 := blk_frozen HA9.out.x4 1
 have f2 := blk_frozen HA9.out.x4 2
 have f3 := blk_frozen HA9.out.x4 3
 have f4 := blk_frozen HA9.out.x4 4
 have f5 := blk_frozen HA9.out.x4 5
 have f6 := blk_frozen HA9.out.x4 6
 have f7 := blk_frozen HA9.out.x4 7
 go_wp2
 have hb := HA9.out.bel
 have hge : W.heap.size ≤ W.heap.size + 1 := Nat.le_succ _
 have x1 := blk_set (blk_set (blk_set (blk_set (blk_set (blk_set (blk_set (blk_set HA9.out.x4 0 (.int .i64 0)) 1 (.string ⟨#[]⟩)) 2 (.string ⟨#[]⟩)) 3 (.string ⟨#[]⟩)) 4 (.string ⟨#[]⟩)) 5 (.string ⟨#[]⟩)) 6 (.slice none 0 0)) 7 (.slice none 0 0)
 refine ⟨rfl, .tuple #[.agg zAsk, .int .i64 404], ?_, ?_⟩
 ·exact ask_results _ _ (W.heap.size + 1) rfl (.int .i64 404) rfl _ _ _ _ _ _ _ _ x1
 exact ⟨rfl, (((((((hb.setCell (p := ⟨W.heap.size + 1, 0, none⟩) hge _).setCell (p := ⟨W.heap.size + 1, 1, none⟩) hge _).setCell (p := ⟨W.heap.size + 1, 2, none⟩) hge _).setCell (p := ⟨W.heap.size + 1, 3, none⟩) hge _).setCell (p := ⟨W.heap.size + 1, 4, none⟩) hge _).setCell (p := ⟨W.heap.size + 1, 5, none⟩) hge _).setCell (p := ⟨W.heap.size + 1, 6, none⟩) hge _).setCell (p := ⟨W.heap.size + 1, 7, none⟩) hge _⟩
end Go.Proofs.YthdiiiopjkaifaaGreatDoor.Pl
end
section
namespace Go.Proofs.YthdiiiopjkaifaaGreatDoor.St
open Go Go.RowKit Go.Proofs.YthdiiiopjkaifaaGreatDoorW.PrintWords
set_option linter.unusedVariables false
/-- from one world to another: what was there stays, but for the blocks bs -/
structure Mut (bs : List Nat) (w w' : World) : Prop where
 os : w'.os = w.os
 tape : w'.tape = w.tape
 output : w'.output = w.output
 size : w.heap.size ≤ w'.heap.size
 keep : ∀ b, b < w.heap.size → b ∉ bs → w'.heap[b]? = w.heap[b]?
theorem Mut.refl (bs : List Nat) (w : World) : Mut bs w w := ⟨rfl, rfl, rfl, Nat.le_refl _, fun _ _ _ => rfl⟩
theorem Mut.of_below {w w' : World} (h : Below w.heap.size w w') : Mut [] w w' := ⟨h.os, h.tape, h.output, h.size, fun b hb _ => h.block b hb⟩
theorem Mut.below {bs : List Nat} {B : Nat} {w w' : World} (h : Mut bs w w') (hB : B ≤ w.heap.size) (hb : ∀ b ∈ bs, B ≤ b) : Below B w w' :=
 ⟨h.os, h.tape, h.output, h.size, fun k hk => h.keep k (by omega) (fun hm => by have := hb k hm; omega)⟩
theorem Mut.all {w w' : World} (h : Mut [] w w') : Below w.heap.size w w' := h.below (Nat.le_refl _) (fun _ hm => by cases hm)
theorem Mut.mono {bs bs' : List Nat} {w w' : World} (h : Mut bs w w') (hs : ∀ b ∈ bs, b ∈ bs') : Mut bs' w w' := ⟨h.os, h.tape, h.output, h.size, fun b hb hn => h.keep b hb (fun hm => hn (hs b hm))⟩
theorem Mut.trans {bs bs' : List Nat} {a b c : World} (h : Mut bs a b) (k : Mut bs' b c) (hs : ∀ x ∈ bs', x ∈ bs ∨ a.heap.size ≤ x) : Mut bs a c :=
 ⟨k.os.trans h.os, k.tape.trans h.tape, k.output.trans h.output, Nat.le_trans h.size k.size, fun x hx hn => (k.keep x (Nat.lt_of_lt_of_le hx h.size) (fun hm => by rcases hs x hm with h1 | h1; exact hn h1; omega)).trans (h.keep x hx hn)⟩
theorem Mut.set (w : World) (p : Addr) (v : Value) : Mut [p.block] w (w.setCell p v) := ⟨rfl, rfl, rfl, by simp [World.setCell], fun b _ hn => Below.heap_setCell w p v b (by simpa using hn)⟩
theorem Mut.alloc (w : World) (o : Obj) : Mut [] w (w.alloc o) := .of_below ((Below.refl _ _).alloc (Nat.le_refl _) _)
theorem Mut.drew (w : World) : Mut [] w w.drew := ⟨rfl, rfl, rfl, Nat.le_refl _, fun _ _ _ => rfl⟩
theorem Mut.grown {w w' : World} {row : Option Nat} (h : w.grownBy w' row) : Mut row.toList w w' := ⟨h.os, h.tape, h.output, h.size, fun b hb hn => h.block b hb (fun e => hn (by subst e; simp))⟩
/-- a thing that some blocks hold -/
structure Res where
 bs : List Nat
 p : World → Prop
 dep : ∀ {w w' : World}, p w → (∀ b ∈ bs, w'.heap[b]? = w.heap[b]?) → p w'
def Res.box (g : Nat) (cs : Array Value) (t : TypeId) : Res := ⟨[g], fun w => w.heap[g]? = some (.cells cs t (0, 0)), fun h k => (k g (List.mem_singleton_self g)).trans h⟩
structure Flat {α : Type} (d : Kd α) : Prop where
 M : ∀ {w w' : World} {base base' : Nat} {ok ok' : Nat → Prop} {x : α} {cs : List Value}, d.M w base ok x cs → d.M w' base' ok' x cs
theorem flat_string : Flat Kd.string := ⟨fun h => h⟩
theorem flat_pair {α β : Type} {a : Kd α} {b : Kd β} (ha : Flat a) (hb : Flat b) : Flat (Kd.pair a b) := ⟨fun h => by
 obtain ⟨c0, c1, rfl, h0, h1⟩ := h
 exact ⟨c0, c1, rfl, ha.M h0, hb.M h1⟩⟩
theorem flat_iso {α β : Type} {d : Kd α} (f : β → α) (hd : Flat d) : Flat (Kd.iso d f) := ⟨fun h => hd.M (x := f _) h⟩
theorem Flat.R {α : Type} {d : Kd α} (fl : Flat d) {e : Nat} {w w' : World} {base : Nat} {ok ok' : Nat → Prop} {v : Value} {xs : List α} (h : d.R e w base ok v xs) (hok : ∀ k, v.ownBlock = some k → ok' k) (hm : ∀ k, v.ownBlock = some k → w'.heap[k]? = w.heap[k]?) : d.R e w' base ok' v xs := by
 obtain ⟨h0, inner, ho, hr⟩ := h
 exact ⟨hok, inner, own_move ho hm, hr.imp_ (fun _ _ hp => fl.M hp)⟩
/-- a row of its own -/
def Res.row {α : Type} (d : Kd α) (fl : Flat d) (e base : Nat) (v : Value) (xs : List α) : Res :=
 ⟨v.ownBlock.toList, fun w => d.R e w base (fun _ => True) v xs, fun h k => fl.R h (fun _ _ => trivial) (fun b hb => k b (by rw [hb]; exact List.mem_singleton_self b))⟩
/-- a builder: its block b, and the row v in which its bytes lie -/
structure Bld (T e : TypeId) (b : Nat) (p v : Value) (bs : List Value) (w : World) : Prop where
 blk : w.heap[b]? = some (.cells #[p, v] T (0, 0))
 row : w.ownsRow 0 e 1 v bs.length bs
 ad : p = .pointer none ∨ p = .pointer (some ⟨b, 0, none⟩)
/-- a row of its own, behind a store into an elder block -/
theorem R_set {α : Type} {d : Kd α} {e : Nat} {w : World} {base : Nat} {v : Value} {xs : List α} (h : d.R e w base (fun _ => True) v xs) (g i : Nat) (hg : g < base) (u : Value) : d.R e (w.setCell ⟨g, i, none⟩ u) base (fun _ => True) v xs :=
 Kd.R_mono (Kd.R_far (p := ⟨g, i, none⟩) (Kd.R_bound h) (fun k hk => by have := hk.2.1; show k ≠ g; omega) u) (fun _ _ => trivial)
structure St (W : World) (l : List Res) (w : World) : Prop where
 bel : Below W.heap.size W w
 all : ∀ (i : Nat) (r : Res), l[i]? = some r → r.p w
 nd : (l.flatMap Res.bs).Nodup
 rng : ∀ b ∈ l.flatMap Res.bs, W.heap.size ≤ b ∧ b < w.heap.size
theorem St.nil {W w : World} (h : Below W.heap.size W w) : St W [] w := ⟨h, fun i r hi => by simp at hi, List.nodup_nil, fun b hb => by simp at hb⟩
section
variable {W w w' : World} {l l' : List Res} {r r' : Res} {i g : Nat} {cs : Array Value} {t : TypeId}
theorem St.box (h : St W l w) (i : Nat) (hr : l[i]? = some (.box g cs t)) : w.heap[g]? = some (.cells cs t (0, 0)) := h.all i _ hr
theorem St.cell (h : St W l w) (i j : Nat) (hr : l[i]? = some (.box g cs t)) : w.cell? ⟨g, j, none⟩ = cs[j]? := blk_cell (h.box i hr) j
theorem St.fz (h : St W l w) (i j : Nat) (hr : l[i]? = some (.box g cs t)) : w.frozen? ⟨g, j, none⟩ = false := blk_frozen (h.box i hr) j
theorem St.row {α : Type} {d : Kd α} {fl : Flat d} {e base : Nat} {v : Value} {xs : List α} (h : St W l w) (i : Nat) (hr : l[i]? = some (.row d fl e base v xs)) : d.R e w base (fun _ => True) v xs := h.all i _ hr
theorem mem_bs (hr : l[i]? = some r) {b : Nat} (hb : b ∈ r.bs) : b ∈ l.flatMap Res.bs := List.mem_flatMap.2 ⟨r, List.mem_of_getElem? hr, hb⟩
theorem St.ge (h : St W l w) (i : Nat) (hr : l[i]? = some r) {b : Nat} (hb : b ∈ r.bs) : W.heap.size ≤ b := (h.rng b (mem_bs hr hb)).1
theorem St.lt (h : St W l w) (i : Nat) (hr : l[i]? = some r) {b : Nat} (hb : b ∈ r.bs) : b < w.heap.size := (h.rng b (mem_bs hr hb)).2
theorem St.next (h : St W l w) (hm : Mut [] w w') : St W l w' where
 bel := h.bel.trans (hm.all.mono h.bel.size)
 all := fun i r hr => r.dep (h.all i r hr) (fun b hb => hm.keep b (h.lt i hr hb) (fun e => by cases e))
 nd := h.nd
 rng := fun b hb => ⟨(h.rng b hb).1, Nat.lt_of_lt_of_le (h.rng b hb).2 hm.size⟩
theorem St.go (h : St W l w) (hb : Below w.heap.size w w') : St W l w' := h.next (.of_below hb)
theorem St.drew (h : St W l w) : St W l w.drew := h.next (.drew w)
/-- one thing more -/
theorem St.push (h : St W l w) (hm : Mut [] w w') (hp : r.p w') (hr : ∀ b ∈ r.bs, w.heap.size ≤ b ∧ b < w'.heap.size) (hn : r.bs.Nodup) : St W (r :: l) w' where
 bel := (h.next hm).bel
 all := fun i q hq => by
  cases i with
  | zero => simp at hq; subst hq; exact hp
  | succ i => exact (h.next hm).all i q (by simpa using hq)
 nd := by
  rw [List.flatMap_cons, List.nodup_append]
  exact ⟨hn, h.nd, fun a ha b hb e => by have := (hr a ha).1; have := (h.rng b hb).2; omega⟩
 rng := fun b hb => by
  rw [List.flatMap_cons, List.mem_append] at hb
  rcases hb with hb | hb
  ·exact ⟨Nat.le_trans h.bel.size (hr b hb).1, (hr b hb).2⟩
  ·exact (h.next hm).rng b hb
theorem St.new (h : St W l w) (cs : Array Value) (t : TypeId) : St W (.box w.heap.size cs t :: l) (w.alloc (.cells cs t)) :=
 h.push (.alloc w _) (blk_new w _) (fun b hb => by rw [List.mem_singleton.1 hb]; exact ⟨Nat.le_refl _, by simp [World.alloc, -World.alloc_eq]⟩) (List.nodup_cons.2 ⟨by simp, List.nodup_nil⟩)
theorem St.newAt (h : St W l w) (n : Nat) (hn : w.heap.size = n) (cs : Array Value) (t : TypeId) : St W (.box n cs t :: l) (w.alloc (.cells cs t)) := by
 subst hn
 exact h.new cs t
theorem size_alloc (w : World) (o : Obj) : (w.alloc o).heap.size = w.heap.size + 1 := by simp [World.alloc, -World.alloc_eq]
theorem nodup_set {l : List Res} {i : Nat} {r r' : Res} (hi : l[i]? = some r) (hn : (l.flatMap Res.bs).Nodup) (hr' : r'.bs.Nodup) (hd : ∀ b ∈ r'.bs, b ∈ r.bs ∨ b ∉ l.flatMap Res.bs) : ((l.set i r').flatMap Res.bs).Nodup := by
 induction l generalizing i with
 | nil => simp at hi
 | cons q l ih =>
  rw [List.flatMap_cons, List.nodup_append] at hn
  obtain ⟨h1, h2, h3⟩ := hn
  cases i with
  | zero =>
   simp at hi
   subst hi
   rw [List.set_cons_zero, List.flatMap_cons, List.nodup_append]
   refine ⟨hr', h2, fun a ha b hb e => ?_⟩
   subst e
   rcases hd a ha with h | h
   ·exact h3 a h a hb rfl
   ·exact h (by rw [List.flatMap_cons, List.mem_append]; exact .inr hb)
  | succ i =>
   have hi' : l[i]? = some r := by simpa using hi
   rw [List.set_cons_succ, List.flatMap_cons, List.nodup_append]
   refine ⟨h1, ih hi' h2 (fun b hb => (hd b hb).imp id (fun h hm => h (by rw [List.flatMap_cons, List.mem_append]; exact .inr hm))), fun a ha b hb e => ?_⟩
   subst e
   obtain ⟨x, hx, hax⟩ := List.mem_flatMap.1 hb
   rcases List.mem_or_eq_of_mem_set hx with hx | rfl
   ·exact h3 a ha a (List.mem_flatMap.2 ⟨x, hx, hax⟩) rfl
   ·rcases hd a hax with h | h
    ·exact h3 a ha a (mem_bs hi' h) rfl
    ·exact h (by rw [List.flatMap_cons, List.mem_append]; exact .inl ha)
theorem apart {l : List Res} {i j : Nat} {r q : Res} (hn : (l.flatMap Res.bs).Nodup) (hi : l[i]? = some r) (hj : l[j]? = some q) (hij : i ≠ j) {b : Nat} (hb : b ∈ r.bs) : b ∉ q.bs := by
 induction l generalizing i j with
 | nil => simp at hi
 | cons x l ih =>
  rw [List.flatMap_cons, List.nodup_append] at hn
  obtain ⟨_, h2, h3⟩ := hn
  intro hbq
  cases i with
  | zero =>
   cases j with
   | zero => exact hij rfl
   | succ j =>
    simp at hi hj
    subst hi
    exact h3 b hb b (mem_bs hj hbq) rfl
  | succ i =>
   simp at hi
   cases j with
   | zero =>
    simp at hj
    subst hj
    exact h3 b hbq b (mem_bs hi hb) rfl
   | succ j =>
    simp at hj
    exact ih h2 hi hj (fun e => hij (by rw [e])) hbq
/-- one of the things is changed -/
theorem St.chg (h : St W l w) (i : Nat) (hi : l[i]? = some r) (hm : Mut r.bs w w') (hp : r'.p w') (hr : ∀ b ∈ r'.bs, b ∈ r.bs ∨ w.heap.size ≤ b ∧ b < w'.heap.size) (hn : r'.bs.Nodup) : St W (l.set i r') w' where
 bel := h.bel.trans (hm.below h.bel.size (fun b hb => h.ge i hi hb))
 all := fun j q hq => by
  rw [List.getElem?_set] at hq
  split at hq
  ·split at hq
   ·injection hq with hq; subst hq; exact hp
   ·cases hq
  ·rename_i hne
   exact q.dep (h.all j q hq) (fun b hb => hm.keep b (h.lt j hq hb) (apart h.nd hq hi (fun e => hne e.symm) hb))
 nd := nodup_set hi h.nd hn (fun b hb => (hr b hb).imp id (fun h1 h2 => by have := (h.rng b h2).2; omega))
 rng := fun b hb => by
  obtain ⟨x, hx, hbx⟩ := List.mem_flatMap.1 hb
  rcases List.mem_or_eq_of_mem_set hx with hx | rfl
  ·have := h.rng b (List.mem_flatMap.2 ⟨x, hx, hbx⟩)
   exact ⟨this.1, Nat.lt_of_lt_of_le this.2 hm.size⟩
  ·rcases hr b hbx with h1 | h1
   ·have := h.rng b (mem_bs hi h1)
    exact ⟨this.1, Nat.lt_of_lt_of_le this.2 hm.size⟩
   ·exact ⟨Nat.le_trans h.bel.size h1.1, h1.2⟩
theorem St.set (h : St W l w) (i : Nat) (hi : l[i]? = some (.box g cs t)) (j : Nat) (v : Value) : St W (l.set i (.box g (cs.setIfInBounds j v) t)) (w.setCell ⟨g, j, none⟩ v) :=
 h.chg i hi (.set w ⟨g, j, none⟩ v) (blk_set (h.box i hi) j v) (fun b hb => .inl hb) (List.nodup_cons.2 ⟨by simp, List.nodup_nil⟩)
end
end Go.Proofs.YthdiiiopjkaifaaGreatDoor.St
end

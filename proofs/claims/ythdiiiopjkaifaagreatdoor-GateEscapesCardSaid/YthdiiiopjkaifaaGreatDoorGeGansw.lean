/-
gate.routes: a map of maps, as it is laid.
gate.Ask: a path that is none is answered by 404.
gate.Answer: what is no request, or asks nothing, is answered by a page of a status alone.
-/
import Derived.Test.YthdiiiopjkaifaaGreatDoorProg
import Derived.Below
import Derived.Deep.Draws
import Derived.Deep.AppendLies
import Derived.Maps.AppendAt
import Derived.OwnWalk
import Derived.Laws.BytesArg
import Derived.Laws.MakeOwn
import Derived.Laws.OwnMore
import Derived.Deep.OwnRows
import Derived.Tactics
import Derived.Lib.ConvBytes
import Derived.Laws.Slices
import Derived.WalkKit
import Derived.KernelRfl
import Derived.RowKit3
import Derived.Deep.LoopGhost
import Derived.Deep.QuietTactic
import Derived.BigQuiet
import Derived.WideLaws
import Derived.Deep.DeepCutAuto
import Derived.Deep.CutBlock
import Derived.Deep.RegionHeld3
import Derived.Laws.Rows
import Derived.Lib.AppendStr
import Derived.ArgAppend
import Derived.Laws.IdiomCopy
import Derived.RowKit
import Derived.OrdersHeld
import Derived.Laws.BitsLemmas
import Derived.Laws.StructEq
import Derived.Test.YthdiiiopjkaifaaGreatDoorGeWN
import Derived.Test.YthdiiiopjkaifaaGreatDoorGeWWords
import Derived.Test.YthdiiiopjkaifaaGreatDoorGeWMore
import Derived.Test.YthdiiiopjkaifaaGreatDoorGeWLast
import Derived.Test.YthdiiiopjkaifaaGreatDoorGeWSized
import Derived.Test.YthdiiiopjkaifaaGreatDoorGeBld
import Derived.ProofKit
import Derived.Tactics2
import Derived.Deep.RegionLaw
import Derived.Maps.OwnOps
import Derived.Test.YthdiiiopjkaifaaGreatDoorGeSt
import Derived.Test.YthdiiiopjkaifaaGreatDoorGeReal
import Derived.Test.YthdiiiopjkaifaaGreatDoorGePall5
import Derived.Test.YthdiiiopjkaifaaGreatDoorGePall6
section
namespace Go.Proofs.YthdiiiopjkaifaaGreatDoor.Pl
open Go Go.RowKit Go.Proofs.YthdiiiopjkaifaaGreatDoor.MapS Go.Proofs.YthdiiiopjkaifaaGreatDoorW.PrintWords Go.Proofs.YthdiiiopjkaifaaGreatDoorW.PrintLast
set_option linter.unusedVariables false
set_option linter.unusedSimpArgs false
def sGET : ByteArray := ⟨#[71, 69, 84]⟩
def sPOST : ByteArray := ⟨#[80, 79, 83, 84]⟩
/-- the routes' map: of each path a map of methods -/
def pathsL (b1 b2 b3 b4 b5 : Nat) : List (ByteArray × Value) :=
 [(⟨#[47, 108, 111, 103, 105, 110]⟩, .map (some b1)), (⟨#[47, 114, 101, 103, 105, 115, 116, 101, 114]⟩, .map (some b2)), (⟨#[47, 108, 111, 103, 111, 117, 116]⟩, .map (some b3)), (⟨#[47, 109, 101]⟩, .map (some b4)), (⟨#[47, 110, 111, 116, 101]⟩, .map (some b5))]
def Routes (W w : World) (b : Nat) : Prop := ∃ b1 b2 b3 b4 b5, MS W w b (pathsL b1 b2 b3 b4 b5) [(b5, [(sPOST, .int .i64 6)]), (b4, [(sGET, .int .i64 5)]), (b3, [(sPOST, .int .i64 4)]), (b2, [(sPOST, .int .i64 2)]), (b1, [(sGET, .int .i64 1), (sPOST, .int .i64 3)])]
theorem make_run {P : Program} (t : TypeId) (w : World) : (Instr.makeMap t none).run P w = .ok (.map (some w.heap.size)) (w.alloc (.map #[] 0)) := by
 simp [Instr.makeMap, newObj, Sem.run, Result.andThen, World.alloc, -World.alloc_eq]
set_option maxRecDepth 100000 in
set_option maxHeartbeats 2000000 in
theorem routes_any (W : World) : Calls Tryz.prog 77 #[] W fun e w => ∃ b, e = .returned (.map (some b)) ∧ Routes W w b := by
 have hs : (W.alloc (.map #[] 0)).heap.size = W.heap.size + 1 := by simp [World.alloc, -World.alloc_eq]
 have h1 := (MS.start W).make
 rw [hs] at h1
 have HM := hidM h1
 clear h1 hs
 have hmk := fun (t : TypeId) (w : World) => make_run (P := Tryz.prog) t w
 go_enter Tryz.func77, Tryz.ntmps77
 go_wp2_with (first
  | (refine wpList_insert rfl (.tmp 2) (.const (.string ⟨#[71, 69, 84]⟩)) (.const (.int .i64 1)) rfl Tryz.underlying145 Tryz.underlying9 rfl ⟨#[71, 69, 84]⟩ rfl (.int .i64 1) rfl [] (HM.out.ins _ List.mem_cons_self).1 (by decide) ?_; intro wn i1 i0 i2 i3; have HN := hidM (HM.out.inner i1 i2 i3); clear i0 i1 i2 i3 HM; have HM := HN; clear HN)
  | (refine wpList_insert rfl (.tmp 2) (.const (.string ⟨#[80, 79, 83, 84]⟩)) (.const (.int .i64 3)) rfl Tryz.underlying145 Tryz.underlying9 rfl ⟨#[80, 79, 83, 84]⟩ rfl (.int .i64 3) rfl [(⟨#[71, 69, 84]⟩, .int .i64 1)] (HM.out.ins _ List.mem_cons_self).1 (by decide) ?_; intro wn i1 i0 i2 i3; have HN := hidM (HM.out.inner i1 i2 i3); clear i0 i1 i2 i3 HM; have HM := HN; clear HN)
  | (refine wpList_insert rfl (.tmp 1) (.const (.string ⟨#[47, 108, 111, 103, 105, 110]⟩)) (.tmp 3) rfl Tryz.underlying147 Tryz.underlying9 rfl ⟨#[47, 108, 111, 103, 105, 110]⟩ rfl _ rfl _ HM.out.out (by simp [at_]) ?_; intro wn i1 i0 i2 i3; have HN := hidM (HM.out.outer i1 i2 i3); clear i0 i1 i2 i3 HM; have HM := HN; clear HN)
  | (have HK := hidM (HM.out.make); refine wpList_insert rfl (.tmp 4) (.const (.string ⟨#[80, 79, 83, 84]⟩)) (.const (.int .i64 2)) rfl Tryz.underlying145 Tryz.underlying9 rfl ⟨#[80, 79, 83, 84]⟩ rfl (.int .i64 2) rfl [] (HK.out.ins _ List.mem_cons_self).1 (by decide) ?_; intro wn i1 i0 i2 i3; have HN := hidM (HK.out.inner i1 i2 i3); clear i0 i1 i2 i3 HM HK; have HM := HN; clear HN)
  | (refine wpList_insert rfl (.tmp 1) (.const (.string ⟨#[47, 114, 101, 103, 105, 115, 116, 101, 114]⟩)) (.tmp 5) rfl Tryz.underlying147 Tryz.underlying9 rfl ⟨#[47, 114, 101, 103, 105, 115, 116, 101, 114]⟩ rfl _ rfl _ HM.out.out (by simp [at_]) ?_; intro wn i1 i0 i2 i3; have HN := hidM (HM.out.outer i1 i2 i3); clear i0 i1 i2 i3 HM; have HM := HN; clear HN)
  | (have HK := hidM (HM.out.make); refine wpList_insert rfl (.tmp 6) (.const (.string ⟨#[80, 79, 83, 84]⟩)) (.const (.int .i64 4)) rfl Tryz.underlying145 Tryz.underlying9 rfl ⟨#[80, 79, 83, 84]⟩ rfl (.int .i64 4) rfl [] (HK.out.ins _ List.mem_cons_self).1 (by decide) ?_; intro wn i1 i0 i2 i3; have HN := hidM (HK.out.inner i1 i2 i3); clear i0 i1 i2 i3 HM HK; have HM := HN; clear HN)
  | (refine wpList_insert rfl (.tmp 1) (.const (.string ⟨#[47, 108, 111, 103, 111, 117, 116]⟩)) (.tmp 7) rfl Tryz.underlying147 Tryz.underlying9 rfl ⟨#[47, 108, 111, 103, 111, 117, 116]⟩ rfl _ rfl _ HM.out.out (by simp [at_]) ?_; intro wn i1 i0 i2 i3; have HN := hidM (HM.out.outer i1 i2 i3); clear i0 i1 i2 i3 HM; have HM := HN; clear HN)
  | (have HK := hidM (HM.out.make); refine wpList_insert rfl (.tmp 8) (.const (.string ⟨#[71, 69, 84]⟩)) (.const (.int .i64 5)) rfl Tryz.underlying145 Tryz.underlying9 rfl ⟨#[71, 69, 84]⟩ rfl (.int .i64 5) rfl [] (HK.out.ins _ List.mem_cons_self).1 (by decide) ?_; intro wn i1 i0 i2 i3; have HN := hidM (HK.out.inner i1 i2 i3); clear i0 i1 i2 i3 HM HK; have HM := HN; clear HN)
  | (refine wpList_insert rfl (.tmp 1) (.const (.string ⟨#[47, 109, 101]⟩)) (.tmp 9) rfl Tryz.underlying147 Tryz.underlying9 rfl ⟨#[47, 109, 101]⟩ rfl _ rfl _ HM.out.out (by simp [at_]) ?_; intro wn i1 i0 i2 i3; have HN := hidM (HM.out.outer i1 i2 i3); clear i0 i1 i2 i3 HM; have HM := HN; clear HN)
  | (have HK := hidM (HM.out.make); refine wpList_insert rfl (.tmp 10) (.const (.string ⟨#[80, 79, 83, 84]⟩)) (.const (.int .i64 6)) rfl Tryz.underlying145 Tryz.underlying9 rfl ⟨#[80, 79, 83, 84]⟩ rfl (.int .i64 6) rfl [] (HK.out.ins _ List.mem_cons_self).1 (by decide) ?_; intro wn i1 i0 i2 i3; have HN := hidM (HK.out.inner i1 i2 i3); clear i0 i1 i2 i3 HM HK; have HM := HN; clear HN)
  | (refine wpList_insert rfl (.tmp 1) (.const (.string ⟨#[47, 110, 111, 116, 101]⟩)) (.tmp 11) rfl Tryz.underlying147 Tryz.underlying9 rfl ⟨#[47, 110, 111, 116, 101]⟩ rfl _ rfl _ HM.out.out (by simp [at_]) ?_; intro wn i1 i0 i2 i3; have HN := hidM (HM.out.outer i1 i2 i3); clear i0 i1 i2 i3 HM; have HM := HN; clear HN))
 go_ret
 exact ⟨_, rfl, _, _, _, _, _, HM.out⟩
end Go.Proofs.YthdiiiopjkaifaaGreatDoor.Pl
end
section
namespace Go.Proofs.YthdiiiopjkaifaaGreatDoor.Pl
open Go Go.RowKit Go.Proofs.YthdiiiopjkaifaaGreatDoor.MapS Go.Proofs.YthdiiiopjkaifaaGreatDoorW.PrintWords Go.Proofs.YthdiiiopjkaifaaGreatDoorW.PrintLast
set_option linter.unusedVariables false
set_option linter.unusedSimpArgs false
def zAsk : Array Value := #[.int .i64 0, .string ⟨#[]⟩, .string ⟨#[]⟩, .string ⟨#[]⟩, .string ⟨#[]⟩, .string ⟨#[]⟩, .slice none 0 0, .slice none 0 0]
structure Aq (W : World) (c2 c4 : Array Value) (w : World) : Prop where
 bel : Below W.heap.size W w
 x2 : w.heap[W.heap.size]? = some (.cells c2 25 (0, 0))
 x4 : w.heap[W.heap.size + 1]? = some (.cells c4 31 (0, 0))
theorem Aq.start (W : World) (c2 c4 : Array Value) : Aq W c2 c4 ((W.alloc (.cells c2 25)).alloc (.cells c4 31)) where
 bel := ((Below.refl _ _).alloc (Nat.le_refl _) _).alloc (by simp [World.alloc, -World.alloc_eq]) _
 x2 := blk_alloc (blk_new W _) _
 x4 := by
  have h := blk_new (W.alloc (.cells c2 25)) (.cells c4 31)
  have e : (W.alloc (.cells c2 25)).heap.size = W.heap.size + 1 := by simp [World.alloc, -World.alloc_eq]
  rw [e] at h
  exact h
theorem Aq.next {W : World} {c2 c4 : Array Value} {w w' : World} (h : Aq W c2 c4 w) (hb : Below w.heap.size w w') : Aq W c2 c4 w' where
 bel := h.bel.trans (hb.mono h.bel.size)
 x2 := blk_below h.x2 hb
 x4 := blk_below h.x4 hb
theorem Aq.drew {W : World} {c2 c4 : Array Value} {w : World} (h : Aq W c2 c4 w) : Aq W c2 c4 w.drew := ⟨h.bel.drew, h.x2, h.x4⟩
theorem ask_results (tmps : Array Value) (W : World) (N : Nat) (h4 : tmps.getD 4 undef = .pointer (some ⟨N, 0, none⟩)) (n : Value) (h5 : tmps.getD 5 undef = n) (v0 v1 v2 v3 v4 v5 v6 v7 : Value) (c : W.heap[N]? = some (.cells #[v0, v1, v2, v3, v4, v5, v6, v7] 31 (0, 0))) :
  (results Tryz.f36 tmps).run Tryz.prog W = .ok (.tuple #[.agg #[v0, v1, v2, v3, v4, v5, v6, v7], n]) W := by
 have hr : Tryz.f36.results = #[.cell 4 31, .tmp 5] := rfl
 have hu := Tryz.underlying31
 have a0 := (blk_cell c 0).trans (show _ = some v0 from rfl)
 have a1 := (blk_cell c 1).trans (show _ = some v1 from rfl)
 have a2 := (blk_cell c 2).trans (show _ = some v2 from rfl)
 have a3 := (blk_cell c 3).trans (show _ = some v3 from rfl)
 have a4 := (blk_cell c 4).trans (show _ = some v4 from rfl)
 have a5 := (blk_cell c 5).trans (show _ = some v5 from rfl)
 have a6 := (blk_cell c 6).trans (show _ = some v6 from rfl)
 have a7 := (blk_cell c 7).trans (show _ = some v7 from rfl)
 unfold results
 rw [hr]
 rw [Array.getD_eq_getD_getElem?] at h4 h5
 simp [h4, h5, loadVar, a0, a1, a2, a3, a4, a5, a6, a7, go_sem, hu, isAgg, asAddr]
set_option maxRecDepth 100000 in
set_option maxHeartbeats 2000000 in
theorem ask_missing (m p : ByteArray) (A : Option Addr) (n c : Nat) (B : Option Addr) (k d : Nat) (Dr : Value) (W : World) (hp : ∀ b1 b2 b3 b4 b5, at_ (pathsL b1 b2 b3 b4 b5) p = none) :
  Calls Tryz.prog 36 #[.agg #[.string m, .string p, .slice A n c, .slice B k d], Dr] W fun e w => e = .returned (.tuple #[.agg zAsk, .int .i64 404]) ∧ Below W.heap.size W w := by
 have HA := hidM (Aq.start W #[.string m, .string p, .slice A n c, .slice B k d] #[.int .i64 0, .string ⟨#[]⟩, .string ⟨#[]⟩, .string ⟨#[]⟩, .string ⟨#[]⟩, .string ⟨#[]⟩, .slice none 0 0, .slice none 0 0])
 have hz : ∀ w, (zeroValue 145).run Tryz.prog w = .ok (.map none) w := fun w => by first | rfl | simp [zeroValue, run_underlying Tryz.underlying145]
 go_enter Tryz.func36, Tryz.ntmps36
 go_upto_region 1 with (fail)
 generalize (W.alloc (.cells #[.string m, .string p, .slice A n c, .slice B k d] 25)).alloc (.cells #[.int .i64 0, .string ⟨#[]⟩, .string ⟨#[]⟩, .string ⟨#[]⟩, .string ⟨#[]⟩, .string ⟨#[]⟩, .slice none 0 0, .slice none 0 0] 31) = wq at HA ⊢
 have hx0 := blk_cell HA.out.x2 0
 have hx1 := blk_cell HA.out.x2 1
 have HAd := hidM HA.out.drew
 refine start_ (n := 9) (S := fun w' => w'.cell? ⟨W.heap.size, 0, none⟩ = some (.string m) ∧ w'.cell? ⟨W.heap.size, 1, none⟩ = some (.string p)) (ds := []) #[false, false, false, false, false, false, false, false, false] (by kernel_rfl) rfl rfl ⟨hx0, hx1⟩ (fun hHeld => ?_)
 generalize wq.drew = wd at hHeld HAd ⊢
 refine pure_ (i := 1) (N := some 15) (v := ?_) (a' := ?_) #[false, true, false, false, false, false, false, false, false] rfl rfl (by kernel_rfl) (fun _ _ _ h => h) (Or.inl ⟨by rfl, ?_⟩) ?_ ?_
 rotate_left
 ·intro w'
  go_simp
  with_reducible rfl
 rotate_left
 ·simp only [Act.put, List.setIfInBounds_toArray, List.set_cons_zero, List.set_cons_succ]
  rfl
 refine take_ (i := 2) (N := some 16) (v := ?_) (a' := ?_) #[false, true, true, false, false, false, false, false, false] rfl rfl (by kernel_rfl) (fun _ _ _ h => h) (Or.inl ⟨by rfl, ?_⟩) hHeld ?_ ?_
 rotate_left
 ·rintro w' ⟨z0, z1⟩
  go_simp
  with_reducible rfl
 rotate_left
 ·simp only [Act.put, List.setIfInBounds_toArray, List.set_cons_zero, List.set_cons_succ]
  rfl
 refine one_ (i := 0) (N := some 14) #[true, true, true, false, false, false, false, false, false] rfl rfl (by kernel_rfl) (by decide) (fun K hK => ?_)
 go_simp; go_wp2_with (go_at_call 77; refine (routes_any _).mono ?_; rintro e w9 ⟨b, rfl, b1, b2, b3, b4, b5, hR⟩; have HA9 := hidM (HAd.out.next hR.bel); have hN := And.intro (blk_cell HA9.out.x2 0) (blk_cell HA9.out.x2 1); have hlk := look_run (P := Tryz.prog) (w := w9) Tryz.underlying147 Tryz.underlying9 hR.out p true (hz w9); simp only [hp, Option.getD_none, Option.isSome_none, if_true] at hlk)
 refine hK.out _ _ (hN) (fun hHeld => ?_)
 clear hK K
 refine one_ (i := 3) (N := some 17) #[true, true, true, true, false, false, false, false, false] rfl rfl (by kernel_rfl) (by decide) (fun K hK => ?_)
 go_simp
 refine hK.out _ _ (hN) (fun hHeld => ?_)
 clear hK K
 refine pure_ (i := 4) (N := some 13) (v := ?_) (a' := ?_) #[true, true, true, true, true, false, false, false, false] rfl rfl (by kernel_rfl) (fun _ _ _ h => h) (Or.inl ⟨by rfl, ?_⟩) ?_ ?_
 rotate_left
 ·intro w'
  go_simp
  with_reducible rfl
 rotate_left
 ·simp only [Act.put, List.setIfInBounds_toArray, List.set_cons_zero, List.set_cons_succ]
  rfl
 refine pure_ (i := 5) (N := some 18) (v := ?_) (a' := ?_) #[true, true, true, true, true, true, false, false, false] rfl rfl (by kernel_rfl) (fun _ _ _ h => h) (Or.inl ⟨by rfl, ?_⟩) ?_ ?_
 rotate_left
 ·intro w'
  go_simp
  with_reducible rfl
 rotate_left
 ·simp only [Act.put, List.setIfInBounds_toArray, List.set_cons_zero, List.set_cons_succ]
  rfl
 refine pure_ (i := 6) (N := some 19) (v := ?_) (a' := ?_) #[true, true, true, true, true, true, true, false, false] rfl rfl (by kernel_rfl) (fun _ _ _ h => h) (Or.inl ⟨by rfl, ?_⟩) ?_ ?_
 rotate_left
 ·intro w'
  go_simp
  with_reducible rfl
 rotate_left
 ·simp only [Act.put, List.setIfInBounds_toArray, List.set_cons_zero, List.set_cons_succ]
  rfl
 refine pure_ (i := 7) (N := some 6) (v := ?_) (a' := ?_) #[true, true, true, true, true, true, true, true, false] rfl rfl (by kernel_rfl) (fun _ _ _ h => h) (Or.inl ⟨by rfl, ?_⟩) ?_ ?_
 rotate_left
 ·intro w'
  go_simp
  with_reducible rfl
 rotate_left
 ·simp only [Act.put, List.setIfInBounds_toArray, List.set_cons_zero, List.set_cons_succ]
  rfl
 refine pure_ (i := 8) (N := some 7) (v := ?_) (a' := ?_) #[true, true, true, true, true, true, true, true, true] rfl rfl (by kernel_rfl) (fun _ _ _ h => h) (Or.inl ⟨by rfl, ?_⟩) ?_ ?_
 rotate_left
 ·intro w'
  go_simp
  with_reducible rfl
 rotate_left
 ·simp only [Act.put, List.setIfInBounds_toArray, List.set_cons_zero, List.set_cons_succ]
  rfl
 refine done_ (by kernel_rfl) ?_
 have y0 := blk_cell HA9.out.x4 0
 have y1 := blk_cell HA9.out.x4 1
 have y2 := blk_cell HA9.out.x4 2
 have y3 := blk_cell HA9.out.x4 3
 have y4 := blk_cell HA9.out.x4 4
 have y5 := blk_cell HA9.out.x4 5
 have y6 := blk_cell HA9.out.x4 6
 have y7 := blk_cell HA9.out.x4 7
 have f0 := blk_frozen HA9.out.x4 0
 have f1 := blk_frozen HA9.out.x4 1
 have f2 := blk_frozen HA9.out.x4 2
 have f3 := blk_frozen HA9.out.x4 3
 have f4 := blk_frozen HA9.out.x4 4
 have f5 := blk_frozen HA9.out.x4 5
 have f6 := blk_frozen HA9.out.x4 6
 have f7 := blk_frozen HA9.out.x4 7
 go_wp2
 have hb := HA9.out.bel
 have hge : W.heap.size ≤ W.heap.size + 1 := Nat.le_succ _
 have x1 := blk_set (blk_set (blk_set (blk_set (blk_set (blk_set (blk_set (blk_set HA9.out.x4 0 (.int .i64 0)) 1 (.string ⟨#[]⟩)) 2 (.string ⟨#[]⟩)) 3 (.string ⟨#[]⟩)) 4 (.string ⟨#[]⟩)) 5 (.string ⟨#[]⟩)) 6 (.slice none 0 0)) 7 (.slice none 0 0)
 refine ⟨rfl, .tuple #[.agg zAsk, .int .i64 404], ?_, ?_⟩
 ·exact ask_results _ _ (W.heap.size + 1) rfl (.int .i64 404) rfl _ _ _ _ _ _ _ _ x1
 exact ⟨rfl, (((((((hb.setCell (p := ⟨W.heap.size + 1, 0, none⟩) hge _).setCell (p := ⟨W.heap.size + 1, 1, none⟩) hge _).setCell (p := ⟨W.heap.size + 1, 2, none⟩) hge _).setCell (p := ⟨W.heap.size + 1, 3, none⟩) hge _).setCell (p := ⟨W.heap.size + 1, 4, none⟩) hge _).setCell (p := ⟨W.heap.size + 1, 5, none⟩) hge _).setCell (p := ⟨W.heap.size + 1, 6, none⟩) hge _).setCell (p := ⟨W.heap.size + 1, 7, none⟩) hge _⟩
end Go.Proofs.YthdiiiopjkaifaaGreatDoor.Pl
end
section
namespace Go.Proofs.YthdiiiopjkaifaaGreatDoor.Pl
open Go Go.RowKit Go.Proofs.YthdiiiopjkaifaaGreatDoor.St Go.Proofs.YthdiiiopjkaifaaGreatDoor.Pall Go.Proofs.YthdiiiopjkaifaaGreatDoorW.PrintWords Go.Proofs.YthdiiiopjkaifaaGreatDoorW.PrintLast
set_option linter.unusedVariables false
set_option linter.unusedSimpArgs false
def zOp : Array Value := #[.int .i64 0, .string ⟨#[]⟩, .string ⟨#[]⟩, .string ⟨#[]⟩, .slice none 0 0, .slice none 0 0, .string ⟨#[]⟩]
theorem answer_results (tmps : Array Value) (W : World) (N : Nat) (h4 : tmps.getD 11 undef = .pointer (some ⟨N, 0, none⟩)) (n u : Value) (h5 : tmps.getD 10 undef = n) (h6 : tmps.getD 12 undef = u) (v0 v1 v2 v3 v4 v5 v6 : Value) (c : W.heap[N]? = some (.cells #[v0, v1, v2, v3, v4, v5, v6] 64 (0, 0))) :
  (results Tryz.f28 tmps).run Tryz.prog W = .ok (.tuple #[n, .agg #[v0, v1, v2, v3, v4, v5, v6], u]) W := by
 have hr : Tryz.f28.results = #[.tmp 10, .cell 11 64, .tmp 12] := rfl
 have hu := Tryz.underlying64
 have a0 := (blk_cell c 0).trans (show _ = some v0 from rfl)
 have a1 := (blk_cell c 1).trans (show _ = some v1 from rfl)
 have a2 := (blk_cell c 2).trans (show _ = some v2 from rfl)
 have a3 := (blk_cell c 3).trans (show _ = some v3 from rfl)
 have a4 := (blk_cell c 4).trans (show _ = some v4 from rfl)
 have a5 := (blk_cell c 5).trans (show _ = some v5 from rfl)
 have a6 := (blk_cell c 6).trans (show _ = some v6 from rfl)
 unfold results
 rw [hr]
 rw [Array.getD_eq_getD_getElem?] at h4 h5 h6
 simp [h4, h5, h6, loadVar, a0, a1, a2, a3, a4, a5, a6, go_sem, hu, isAgg, asAddr]
/-- what an answer that changes nothing comes to -/
def AnsNo (W : World) (out : List Int) (e : Ending) (w' : World) : Prop := ∃ v, e = .returned (.tuple #[v, .agg zOp, .bool false]) ∧ Kd.R (Kd.int .u8) 5 w' W.heap.size (fun _ => True) v out ∧ Below W.heap.size W w'
set_option maxRecDepth 100000 in
set_option maxHeartbeats 4000000 in
theorem answer_none (i0 i1 i2 i3 : Int) (AK : Option Addr) (cK : Nat) (key : List Int) (mk : Value) (scs : Array Value) (s0 s1 s2 : Value) (hs : scs = #[s0, s1, s2]) (A : Option Addr) (c : Nat) (raw : List Int) (dr : Value) (W : World)
  (hk : Kd.C (Kd.int .u8) W AK key.length key) (hck : key.length ≤ cK) (hr : Kd.C (Kd.int .u8) W A raw.length raw) (hc : raw.length ≤ c) (hS : Sh W) (hT : Tb W)
  (m p : ByteArray) (fs : List S76) (bd : List Int) (hq : http_Parse.f raw = some (m, p, fs, bd, 0)) (n : Int) (hn : (n != 0) = true)
  (hask : ∀ (A : Option Addr) (c : Nat) (B : Option Addr) (d : Nat) (W' : World), Below W.heap.size W W' → Kd.C k76 W' A fs.length fs → fs.length ≤ c → Kd.C (Kd.int .u8) W' B bd.length bd → bd.length ≤ d → Calls Tryz.prog 36 #[.agg #[.string m, .string p, .slice A fs.length c, .slice B bd.length d], dr] W' fun e w => e = .returned (.tuple #[.agg zAsk, .int .i64 n]) ∧ Below W'.heap.size W' w)
  (out : List Int) (hb : gate_bytes.f i0 i1 i2 i3 key n ⟨#[]⟩ false ⟨#[]⟩ ⟨#[]⟩ ⟨#[]⟩ = some out) :
  Calls Tryz.prog 28 #[.agg #[.int .u64 i0, .int .u64 i1, .int .u64 i2, .int .i64 i3, .slice AK key.length cK], mk, .agg scs, .slice A raw.length c, dr] W (AnsNo W out) := by
 subst hs
 have HP := hid (fun (W' : World) (h : Below W.heap.size W W') => http_Parse.calls A c raw m p fs bd 0 W' (Kd.C_below hr h) hc (hS.of_below h) hq)
 have HBY := hid (fun (W' : World) (h : Below W.heap.size W W') => gate_bytes.calls i0 i1 i2 i3 AK cK key n ⟨#[]⟩ false ⟨#[]⟩ ⟨#[]⟩ ⟨#[]⟩ out W' (Kd.C_below hk h) hck (hT.of_below h) hb)
 have HASK := hid hask
 have HS := hid ((((St.nil (Below.refl W.heap.size W)).newAt W.heap.size rfl #[.int .u64 i0, .int .u64 i1, .int .u64 i2, .int .i64 i3, .slice AK key.length cK] 40).newAt (W.heap.size + 1) (size_alloc _ _) #[s0, s1, s2] 54).newAt (W.heap.size + 1 + 1) (by rw [size_alloc, size_alloc]) #[.int .i64 0, .string ⟨#[]⟩, .string ⟨#[]⟩, .string ⟨#[]⟩, .slice none 0 0, .slice none 0 0, .string ⟨#[]⟩] 64)
 have hu1 := Tryz.underlying40
 have hu2 := Tryz.underlying64
 have hu3 := Tryz.underlying31
 have hu4 := Tryz.underlying25
 clear hk hck hr hc hS hT hq hask hb
 go_enter Tryz.func28, Tryz.ntmps28
 go_upto_region 1 with (fail)
 generalize ((W.alloc (.cells #[.int .u64 i0, .int .u64 i1, .int .u64 i2, .int .i64 i3, .slice AK key.length cK] 40)).alloc (.cells #[s0, s1, s2] 54)).alloc (.cells #[.int .i64 0, .string ⟨#[]⟩, .string ⟨#[]⟩, .string ⟨#[]⟩, .slice none 0 0, .slice none 0 0, .string ⟨#[]⟩] 64) = w0 at HS ⊢
 go_upto_region 4 with (go_at_call 53; refine (HP.out _ HS.out.bel).mono ?_; rintro e w1 ⟨v2, v3, rfl, h2, h3, hb⟩; have hs2 := Kd.R_reads h2; obtain ⟨A2, c2, rfl, hc2, hC2⟩ := hs2; have hs3 := Kd.R_reads h3; obtain ⟨A3, c3, rfl, hc3, hC3⟩ := hs3; have HC2 := hid hC2; have HC3 := hid hC3; have HS1 := hid (HS.out.go hb); clear h2 h3 hC2 hC3 hb)
 have HS2 := hid (HS1.out.newAt w1.heap.size rfl #[.string m, .string p, .slice A2 fs.length c2, .slice A3 bd.length c3] 25)
 have HA := hid (fun (W' : World) (h : Below (w1.alloc (.cells #[.string m, .string p, .slice A2 fs.length c2, .slice A3 bd.length c3] 25)).heap.size (w1.alloc (.cells #[.string m, .string p, .slice A2 fs.length c2, .slice A3 bd.length c3] 25)) W') =>
  HASK.out A2 c2 A3 c3 W' (HS2.out.bel.trans (h.mono HS2.out.bel.size)) (Kd.C_below (Kd.C_alloc HC2.out _) h) hc2 (Kd.C_below (Kd.C_alloc HC3.out _) h) hc3)
 generalize hg : w1.heap.size = g3 at HS2 HA ⊢
 generalize w1.alloc (.cells #[.string m, .string p, .slice A2 fs.length c2, .slice A3 bd.length c3] 25) = w2 at HS2 HA ⊢
 clear HS HP HASK HC2 HC3 HS1 hg
 unfold zAsk at HA
 have z0 := HS2.out.cell 0 0 rfl
 have z1 := HS2.out.cell 0 1 rfl
 have z2 := HS2.out.cell 0 2 rfl
 have z3 := HS2.out.cell 0 3 rfl
 go_upto_region 6 with (go_at_call 36; refine (HA.out _ (Below.refl _ _)).mono ?_; rintro e w3 ⟨rfl, hb⟩; have HS3 := hid (HS2.out.go hb); clear hb z0 z1 z2 z3)
 have HS4 := hid (HS3.out.newAt w3.heap.size rfl zAsk 31)
 unfold zAsk at HS4
 generalize hg : w3.heap.size = g4 at HS4 ⊢
 generalize w3.alloc (.cells #[.int .i64 0, .string ⟨#[]⟩, .string ⟨#[]⟩, .string ⟨#[]⟩, .string ⟨#[]⟩, .string ⟨#[]⟩, .slice none 0 0, .slice none 0 0] 31) = w4 at HS4 ⊢
 clear HS2 HS3 HA hg
 have r0 := HS4.out.cell 4 0 rfl
 have r1 := HS4.out.cell 4 1 rfl
 have r2 := HS4.out.cell 4 2 rfl
 have r3 := HS4.out.cell 4 3 rfl
 have r4 := HS4.out.cell 4 4 rfl
 go_wp2_with (go_at_call 54; refine (HBY.out _ HS4.out.bel).mono ?_; rintro e w5 ⟨v5, rfl, h5, hb⟩; have HS5 := hid (HS4.out.go hb); have H5 := hid h5; have HB5 := hid HS4.out.bel.size; clear r0 r1 r2 r3 r4; have o0 := HS5.out.cell 2 0 rfl; have o1 := HS5.out.cell 2 1 rfl; have o2 := HS5.out.cell 2 2 rfl; have o3 := HS5.out.cell 2 3 rfl; have o4 := HS5.out.cell 2 4 rfl; have o5 := HS5.out.cell 2 5 rfl; have o6 := HS5.out.cell 2 6 rfl; have q0 := HS5.out.fz 2 0 rfl; have q1 := HS5.out.fz 2 1 rfl; have q2 := HS5.out.fz 2 2 rfl; have q3 := HS5.out.fz 2 3 rfl; have q4 := HS5.out.fz 2 4 rfl; have q5 := HS5.out.fz 2 5 rfl; have q6 := HS5.out.fz 2 6 rfl; clear h5 hb)
 have hg2 : W.heap.size + 1 + 1 < w4.heap.size := HS4.out.lt 2 rfl (List.mem_singleton_self _)
 have HW5 := hid HS5.out.bel
 have hge : W.heap.size ≤ W.heap.size + 1 + 1 := by omega
 refine ⟨rfl, .tuple #[v5, .agg zOp, .bool false], ?_, v5, rfl, ?_, ?_⟩
 ·exact answer_results _ _ (W.heap.size + 1 + 1) rfl _ _ rfl rfl _ _ _ _ _ _ _ (blk_set (blk_set (blk_set (blk_set (blk_set (blk_set (blk_set (HS5.out.box 2 rfl) 0 _) 1 _) 2 _) 3 _) 4 _) 5 _) 6 _)
 ·exact Kd.R_lower (R_set (R_set (R_set (R_set (R_set (R_set (R_set H5.out _ 0 hg2 _) _ 1 hg2 _) _ 2 hg2 _) _ 3 hg2 _) _ 4 hg2 _) _ 5 hg2 _) _ 6 hg2 _) HB5.out
 ·exact ((((((HW5.out.setCell (p := ⟨W.heap.size + 1 + 1, 0, none⟩) hge _).setCell (p := ⟨W.heap.size + 1 + 1, 1, none⟩) hge _).setCell (p := ⟨W.heap.size + 1 + 1, 2, none⟩) hge _).setCell (p := ⟨W.heap.size + 1 + 1, 3, none⟩) hge _).setCell (p := ⟨W.heap.size + 1 + 1, 4, none⟩) hge _).setCell (p := ⟨W.heap.size + 1 + 1, 5, none⟩) hge _).setCell (p := ⟨W.heap.size + 1 + 1, 6, none⟩) hge _
end Go.Proofs.YthdiiiopjkaifaaGreatDoor.Pl
end

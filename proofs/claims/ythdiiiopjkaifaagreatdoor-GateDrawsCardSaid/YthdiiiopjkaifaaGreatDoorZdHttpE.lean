/-
 Package http: Parse's deferred closure, which recovers.
-/
import Derived.Test.YthdiiiopjkaifaaGreatDoorZdHttpD
import Derived.Tactics
import Derived.Laws.Pointers
namespace Go.Proofs.YthdiiiopjkaifaaGreatDoor.Pl
open Go.RowKit Go.Proofs.YthdiiiopjkaifaaGreatDoor.Pall Go.Proofs.YthdiiiopjkaifaaGreatDoorW.PrintWords Go.Proofs.YthdiiiopjkaifaaGreatDoorW.PrintLast
set_option linter.unusedVariables false
set_option linter.unusedSimpArgs false
theorem ta_nil (w : World) : (Instr.typeAssert Value.nilIface 20 175 true).run Tryz.prog w = .ok (.tuple #[.agg #[.int .u16 0], .bool false]) w := by kernel_rfl
theorem ta_is (n : Int) (w : World) : (Instr.typeAssert (.iface 175 (.agg #[.int .u16 n])) 20 175 true).run Tryz.prog w = .ok (.tuple #[.agg #[.int .u16 n], .bool true]) w := by kernel_rfl
set_option maxRecDepth 100000 in
set_option maxHeartbeats 1000000 in
theorem catch_idle (p1 p2 : Addr) (w : World) :
  CallsD Tryz.prog 99 #[.pointer (some p1), .pointer (some p2)] .returning w fun e u' w' => e = .returned (.tuple #[]) ∧ u' = .returning ∧ Below w.heap.size w w' := by
 have ht := ta_nil
 refine callsD_of_wpS Tryz.func99 rfl fun c₀ cs hu => ?_
 apply wpS_seq
 apply wpS_region
 simp [wpOpsS, go_sem, recoverD, hu, Tryz.ntmps99, Exit.thenS]
 refine wpS_of_wp ?_
 change Code.wp _ _ _ { tmps := #[.pointer (some p1), .pointer (some p2), .nilIface, undef, undef, .nilIface, undef, undef, undef, undef, undef, undef, undef, undef, undef, undef, undef, undef], defers := [] } w
 go_wp2
 have hres : ∀ W : World, (results Tryz.f99 #[.pointer (some p1), .pointer (some p2), .nilIface, .pointer (some ⟨w.heap.size, 0, none⟩), .bool false, .nilIface, .tuple #[.agg #[.int .u16 0], .bool false], .nilIface, .tuple #[.agg #[.int .u16 0], .bool false], .agg #[.int .u16 0], .bool false, .bool false, undef, undef, undef, .nilIface, .bool false, undef]).run Tryz.prog W = .ok (.tuple #[]) W := fun W => results_none rfl _ _ _
 refine ⟨rfl, .returning, ?_, .tuple #[], hres _, rfl, rfl, (Below.refl _ _).alloc (Nat.le_refl _) _⟩
 cases c₀
 simp_all
/-- the results are laid anew -/
def quitW (B : Nat) (n : Int) (W : World) : World := ((((W.setCell ⟨B, 0, none⟩ (.string ⟨#[]⟩)).setCell ⟨B, 1, none⟩ (.string ⟨#[]⟩)).setCell ⟨B, 2, none⟩ (.slice none 0 0)).setCell ⟨B, 3, none⟩ (.slice none 0 0)).setCell ⟨B + 1, 0, none⟩ (.int .u16 n)
theorem quit_world (B : Nat) (n : Int) (W : World) {s1 s2 v3 v4 : Value} {x : Int} (hB : W.heap[B]? = some (.cells #[s1, s2, v3, v4] 25 (0, 0))) (hB2 : W.heap[B + 1]? = some (.cells #[.int .u16 x] 106 (0, 0))) :
  Below B W (quitW B n W) ∧ (quitW B n W).heap[B]? = some (.cells #[.string ⟨#[]⟩, .string ⟨#[]⟩, .slice none 0 0, .slice none 0 0] 25 (0, 0)) ∧ (quitW B n W).heap[B + 1]? = some (.cells #[.int .u16 n] 106 (0, 0)) := by
 have b0 : Below B W (quitW B n W) := (((((Below.refl B W).setCell (p := ⟨B, 0, none⟩) (Nat.le_refl _) _).setCell (p := ⟨B, 1, none⟩) (Nat.le_refl _) _).setCell (p := ⟨B, 2, none⟩) (Nat.le_refl _) _).setCell (p := ⟨B, 3, none⟩) (Nat.le_refl _) _).setCell (p := ⟨B + 1, 0, none⟩) (Nat.le_succ B) _
 have a1 := heap_setCell_same W B 0 _ _ (.string ⟨#[]⟩) hB
 have a2 := heap_setCell_same _ B 1 _ _ (.string ⟨#[]⟩) a1
 have a3 := heap_setCell_same _ B 2 _ _ (.slice none 0 0) a2
 have a4 := heap_setCell_same _ B 3 _ _ (.slice none 0 0) a3
 have hne : ∀ (V : World) (i : Nat) (u : Value), (V.setCell ⟨B, i, none⟩ u).heap[B + 1]? = V.heap[B + 1]? := fun V i u => heap_setCell_other V ⟨B, i, none⟩ (B + 1) u (by show B + 1 ≠ B; omega)
 have c4 : ((((W.setCell ⟨B, 0, none⟩ (.string ⟨#[]⟩)).setCell ⟨B, 1, none⟩ (.string ⟨#[]⟩)).setCell ⟨B, 2, none⟩ (.slice none 0 0)).setCell ⟨B, 3, none⟩ (.slice none 0 0)).heap[B + 1]? = some (.cells #[.int .u16 x] 106 (0, 0)) := by rw [hne, hne, hne, hne]; exact hB2
 exact ⟨b0, (heap_setCell_other _ ⟨B + 1, 0, none⟩ B _ (by show B ≠ B + 1; omega)).trans a4, heap_setCell_same _ (B + 1) 0 _ _ (.int .u16 n) c4⟩
set_option maxRecDepth 100000 in
set_option maxHeartbeats 1000000 in
theorem catch_wrong (B : Nat) (s1 s2 v3 v4 : Value) (x n : Int) (older : List PanicEntry) (w : World) (hB : w.heap[B]? = some (.cells #[s1, s2, v3, v4] 25 (0, 0))) (hB2 : w.heap[B + 1]? = some (.cells #[.int .u16 x] 106 (0, 0))) :
  CallsD Tryz.prog 99 #[.pointer (some ⟨B, 0, none⟩), .pointer (some ⟨B + 1, 0, none⟩)] (.panicking ({ v := .iface 175 (.agg #[.int .u16 n]), recovered := false } :: older)) w fun e u' w' =>
   e = .returned (.tuple #[]) ∧ u' = .panicking ({ v := .iface 175 (.agg #[.int .u16 n]), recovered := true } :: older) ∧ Below B w w' ∧ w'.heap[B]? = some (.cells #[.string ⟨#[]⟩, .string ⟨#[]⟩, .slice none 0 0, .slice none 0 0] 25 (0, 0)) ∧ w'.heap[B + 1]? = some (.cells #[.int .u16 n] 106 (0, 0)) := by
 have ht := ta_is
 refine callsD_of_wpS Tryz.func99 rfl fun c₀ cs hu => ?_
 apply wpS_seq
 apply wpS_region
 simp [wpOpsS, go_sem, recoverD, hu, Tryz.ntmps99, Exit.thenS]
 refine wpS_of_wp ?_
 change Code.wp _ _ _ { tmps := #[.pointer (some ⟨B, 0, none⟩), .pointer (some ⟨B + 1, 0, none⟩), .iface 175 (.agg #[.int .u16 n]), undef, undef, .iface 175 (.agg #[.int .u16 n]), undef, undef, undef, undef, undef, undef, undef, undef, undef, undef, undef, undef], defers := [] } w
 go_upto_region 3 with fail
 have hlt : B + 1 < w.heap.size := (Array.getElem?_eq_some_iff.1 hB2).1
 have hb : Below w.heap.size w (w.alloc (.cells #[.int .u16 n] 175)) := (Below.refl _ w).alloc (Nat.le_refl _) _
 have hW := (hb.block B (by omega)).trans hB
 have hW2 := (hb.block (B + 1) hlt).trans hB2
 have hq0 : (w.alloc (.cells #[.int .u16 n] 175)).heap[w.heap.size]? = some (.cells #[.int .u16 n] 175) := by show (w.heap.push _)[w.heap.size]? = _; simp
 have c0 := (blk_cell hW 0).trans (show _ = some s1 from rfl)
 have c1 := (blk_cell hW 1).trans (show _ = some s2 from rfl)
 have c2 := (blk_cell hW 2).trans (show _ = some v3 from rfl)
 have c3 := (blk_cell hW 3).trans (show _ = some v4 from rfl)
 have z0 := blk_frozen hW 0
 have z1 := blk_frozen hW 1
 have z2 := blk_frozen hW 2
 have z3 := blk_frozen hW 3
 have d0 := (blk_cell hW2 0).trans (show _ = some (Value.int .u16 x) from rfl)
 have y0 := blk_frozen hW2 0
 have q0 := (blk_cell hq0 0).trans (show _ = some (Value.int .u16 n) from rfl)
 clear hq0
 have HW := hid hW
 have HW2 := hid hW2
 have HB := hid (hb.mono (show B ≤ w.heap.size by omega))
 clear hW hW2 hb hB hB2
 generalize w.alloc (.cells #[.int .u16 n] 175) = W at *
 generalize w.heap.size = q at *
 go_region
 obtain ⟨e1, e2, e3⟩ := quit_world (x := x) B n W HW.out HW2.out
 refine ⟨rfl, _, rfl, .tuple #[], results_none rfl _ _ _, rfl, rfl, (HB.out.trans e1).drew, e2, e3⟩
end Go.Proofs.YthdiiiopjkaifaaGreatDoor.Pl

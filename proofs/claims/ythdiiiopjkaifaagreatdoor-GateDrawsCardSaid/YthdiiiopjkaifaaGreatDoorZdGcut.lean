/-
 gate.cut: so many of a row's first bytes, as a row of its own, and what is left.
-/
import Derived.Test.YthdiiiopjkaifaaGreatDoorZdSt
import Derived.Test.YthdiiiopjkaifaaGreatDoorProg
import Derived.Test.YthdiiiopjkaifaaGreatDoorZdShelf
import Derived.WalkKit
import Derived.ProofKit
import Derived.Tactics2
namespace Go.Proofs.YthdiiiopjkaifaaGreatDoor.Pl
open Go Go.RowKit Go.Proofs.YthdiiiopjkaifaaGreatDoor.St Go.Proofs.YthdiiiopjkaifaaGreatDoorW.PrintWords Go.Proofs.YthdiiiopjkaifaaGreatDoorW.PrintLast
set_option linter.unusedVariables false
set_option linter.unusedSimpArgs false
theorem info_u8 : (Tryz.prog.info? 5).map (fun i => (i.zero, i.size, i.bytes)) = some (some (.int .u8 0), 1, 1) := by kernel_rfl
def cutA (A : Option Addr) (c m : Nat) : Option Addr := if c = m then A else A.map (·.add m)
set_option maxRecDepth 100000 in
set_option maxHeartbeats 1000000 in
theorem cut_any (A : Option Addr) (c : Nat) (l : List Int) (n m : Nat) (hm : m = min n l.length) (W : World) (hr : Kd.C (Kd.int .u8) W A l.length l) (hc : l.length ≤ c) (hl : l.length ≤ 140737488351232) (hn : n ≤ 1000) :
  Calls Tryz.prog 81 #[.slice A l.length c, .int .i64 n] W fun e w' => ∃ v, e = .returned (.tuple #[v, .slice (cutA A c m) (l.length - m) (c - m)]) ∧ Kd.R (Kd.int .u8) 5 w' W.heap.size (fun _ => True) v (l.take m) ∧ Below W.heap.size W w' := by
 have hml : m ≤ l.length := by omega
 obtain ⟨ie, hie, _, hze, _⟩ := info_parts info_u8
 have ht : (l.take m).length = m := by rw [List.length_take]; omega
 have HTK := hid (show ReadsRow ((Kd.int .u8).K W.drew) (Kd.int .u8).sz W.drew A m (l.take m) from by
  have h := Kd.C_take (Kd.C_below hr (below_drew (Below.refl _ W))) hml
  rw [ht] at h
  exact h)
 have HLN := hid (show (([] : List Int).length + m) * 1 ≤ 140737488355328 from by simp only [List.length_nil]; omega)
 have h1 := fun (w : World) => (show (Instr.slice 23 (.slice A l.length c) none (some (.int .i64 (m : Int))) none).run Tryz.prog w = .ok (.slice A m c) w from by
  have h := cut_to (P := Tryz.prog) 23 5 .i64 Tryz.underlying23 hie A l.length c (m : Int) (by omega) (by omega) hc w
  rw [Int.toNat_natCast] at h
  exact h)
 have h2 := fun (w : World) => (show (Instr.slice 23 (.slice A l.length c) (some (.int .i64 (m : Int))) none none).run Tryz.prog w = .ok (.slice (cutA A c m) (l.length - m) (c - m)) w from by
  have h := cut_from (P := Tryz.prog) 23 5 .i64 Tryz.underlying23 hie 1 hze A l.length c (m : Int) (by omega) (by omega) w
  rw [Int.toNat_natCast, Nat.mul_one] at h
  exact h)
 have hmi : min (n : Int) (l.length : Int) = (m : Int) := by omega
 have hif : (if l.length < n then (l.length : Int) else (n : Int)) = (m : Int) := by split <;> omega
 have HM := hid hm
 clear hm ht hr
 go_enter Tryz.func81, Tryz.ntmps81
 go_upto_region 2 with (fail)
 refine start_ (n := 9) (S := fun w' => True) (ds := []) #[false, false, false, false, false, false, false, false, false] (by kernel_rfl) rfl rfl trivial (fun hHeld => ?_)
 refine pure_ (i := 0) (N := some 10) (v := ?_) (a' := ?_) #[true, false, false, false, false, false, false, false, false] rfl rfl (by kernel_rfl) (fun _ _ _ h => h) (Or.inl ⟨by rfl, ?_⟩) ?_ ?_
 rotate_left
 ·intro w'
  go_simp
  with_reducible rfl
 rotate_left
 ·simp only [Act.put, List.setIfInBounds_toArray, List.set_cons_zero, List.set_cons_succ]
  rfl
 refine pure_ (i := 1) (N := some 11) (v := ?_) (a' := ?_) #[true, true, false, false, false, false, false, false, false] rfl rfl (by kernel_rfl) (fun _ _ _ h => h) (Or.inl ⟨by rfl, ?_⟩) ?_ ?_
 rotate_left
 ·intro w'
  go_simp
  with_reducible rfl
 rotate_left
 ·simp only [Act.put, List.setIfInBounds_toArray, List.set_cons_zero, List.set_cons_succ]
  rfl
 refine pure_ (i := 2) (N := some 12) (v := ?_) (a' := ?_) #[true, true, true, false, false, false, false, false, false] rfl rfl (by kernel_rfl) (fun _ _ _ h => h) (Or.inl ⟨by rfl, ?_⟩) ?_ ?_
 rotate_left
 ·intro w'
  go_simp
  with_reducible rfl
 rotate_left
 ·simp only [Act.put, List.setIfInBounds_toArray, List.set_cons_zero, List.set_cons_succ]
  rfl
 refine pure_ (i := 4) (N := some 14) (v := ?_) (a' := ?_) #[true, true, true, false, true, false, false, false, false] rfl rfl (by kernel_rfl) (fun _ _ _ h => h) (Or.inl ⟨by rfl, ?_⟩) ?_ ?_
 rotate_left
 ·intro w'
  go_simp
  with_reducible rfl
 rotate_left
 ·simp only [Act.put, List.setIfInBounds_toArray, List.set_cons_zero, List.set_cons_succ]
  rfl
 refine pure_ (i := 5) (N := some 15) (v := ?_) (a' := ?_) #[true, true, true, false, true, true, false, false, false] rfl rfl (by kernel_rfl) (fun _ _ _ h => h) (Or.inl ⟨by rfl, ?_⟩) ?_ ?_
 rotate_left
 ·intro w'
  go_simp
  with_reducible rfl
 rotate_left
 ·simp only [Act.put, List.setIfInBounds_toArray, List.set_cons_zero, List.set_cons_succ]
  rfl
 refine pure_ (i := 6) (N := some 16) (v := ?_) (a' := ?_) #[true, true, true, false, true, true, true, false, false] rfl rfl (by kernel_rfl) (fun _ _ _ h => h) (Or.inl ⟨by rfl, ?_⟩) ?_ ?_
 rotate_left
 ·intro w'
  go_simp
  with_reducible rfl
 rotate_left
 ·simp only [Act.put, List.setIfInBounds_toArray, List.set_cons_zero, List.set_cons_succ]
  rfl
 refine one_ (i := 3) (N := some 13) #[true, true, true, true, true, true, true, false, false] rfl rfl (by kernel_rfl) (by decide) (fun K hK => ?_)
 refine Kd.R_append_rows_step (Kd.int .u8) (w0 := W) W.heap.size (by rfl) (.const (.slice none 0 0)) (.tmp 12) 23 5 (.int .u8 0) 1 (by rfl) Tryz.underlying23 info_u8 rfl (by decide) (by omega) (.slice none 0 0) ([] : List Int) (l.take m) _ _ _ (fun _ => True) (fun _ => False) (by rfl) (by rfl) (Kd.R_nil _ _ _ _ _) HTK.out (fun _ _ h => h) (fun _ h => h.elim) (fun _ _ => trivial) (below_drew (Below.refl _ _)) (Nat.le_refl _) HLN.out ?_
 intro v1 w1 ho hb _ _
 rw [List.nil_append] at ho
 have HO := hid ho
 have HB := hid hb
 clear ho hb
 refine hK.out _ _ (trivial) (fun hHeld => ?_)
 clear hK K
 refine norm_ (show _ = Act.put _ (some 13) _ from rfl) ?_
 refine norm_ (a' := ?_) ?_ ?_
 rotate_left
 ·simp only [Act.put, List.setIfInBounds_toArray, List.set_cons_zero, List.set_cons_succ]
  rfl
 refine pure_ (i := 7) (N := some 4) (v := ?_) (a' := ?_) #[true, true, true, true, true, true, true, true, false] rfl rfl (by kernel_rfl) (fun _ _ _ h => h) (Or.inl ⟨by rfl, ?_⟩) ?_ ?_
 rotate_left
 ·intro w'
  go_simp
  with_reducible rfl
 rotate_left
 ·simp only [Act.put, List.setIfInBounds_toArray, List.set_cons_zero, List.set_cons_succ]
  rfl
 refine pure_ (i := 8) (N := some 5) (v := ?_) (a' := ?_) #[true, true, true, true, true, true, true, true, true] rfl rfl (by kernel_rfl) (fun _ _ _ h => h) (Or.inl ⟨by rfl, ?_⟩) ?_ ?_
 rotate_left
 ·intro w'
  go_simp
  with_reducible rfl
 rotate_left
 ·simp only [Act.put, List.setIfInBounds_toArray, List.set_cons_zero, List.set_cons_succ]
  rfl
 refine done_ (by kernel_rfl) ?_
 go_wp2
 go_ret2
 exact ⟨_, rfl, HO.out, HB.out⟩
end Go.Proofs.YthdiiiopjkaifaaGreatDoor.Pl

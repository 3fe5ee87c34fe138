/-
 GateDraws: what is drawn is cut in two.
-/
import Derived.Test.YthdiiiopjkaifaaGreatDoorZdMaps
import Derived.Test.YthdiiiopjkaifaaGreatDoorZdGknown
namespace Go.Proofs.YthdiiiopjkaifaaGreatDoor.Pl
open Go Go.RowKit Go.Proofs.YthdiiiopjkaifaaGreatDoor.St Go.Proofs.YthdiiiopjkaifaaGreatDoor.Pall Go.Proofs.YthdiiiopjkaifaaGreatDoorW.PrintWords Go.Proofs.YthdiiiopjkaifaaGreatDoorW.PrintLast
set_option linter.unusedVariables false
set_option linter.unusedSimpArgs false
def bb (n k : Nat) : Array Bool := ((List.range n).map fun i => decide (i < k)).toArray
set_option maxRecDepth 100000 in
set_option maxHeartbeats 4000000 in
theorem draws_any (A : Option Addr) (c : Nat) (draw : List Int) (W : World) (hd : Kd.C (Kd.int .u8) W A draw.length draw) (hc : draw.length ≤ c) (hl : draw.length ≤ 140737488351232) (hS : Sh W) (hT : Tb W) :
  Calls Tryz.prog 11 #[.slice A draw.length c] W fun e w' => e = .returned (.bool true) ∧ Below W.heap.size W w' := by
 obtain ⟨ie, hie, _, hze, _⟩ := info_parts info_u8
 obtain ⟨dl, hdl⟩ : ∃ l, l = draw.take 60 := ⟨_, rfl⟩
 obtain ⟨n, hn⟩ : ∃ k, k = dl.length := ⟨_, rfl⟩
 have hnL : n = min 60 draw.length := by rw [hn, hdl, List.length_take]
 have HD := hid (show Kd.C (Kd.int .u8) W A n dl from by
  have h := Kd.C_take hd (show min 60 draw.length ≤ draw.length by omega)
  have e : draw.take (min 60 draw.length) = dl := by rw [hdl]; exact take_min draw 60
  rw [e] at h
  rw [hn, ← hn, hnL] at *
  exact h)
 have h0 := fun (w : World) => (show (Instr.slice 23 (.slice A draw.length c) none (some (.int .i64 (n : Int))) none).run Tryz.prog w = .ok (.slice A n c) w from by
  have h := cut_to (P := Tryz.prog) 23 5 .i64 Tryz.underlying23 hie A draw.length c (n : Int) (by omega) (by omega) hc w
  rw [Int.toNat_natCast] at h
  exact h)
 have hmi : min (draw.length : Int) 60 = (n : Int) := by omega
 have hif : (if (60 : Int) < (draw.length : Int) then (60 : Int) else (draw.length : Int)) = (n : Int) := by split <;> omega
 have hif2 : (if 60 < draw.length then (60 : Int) else (draw.length : Int)) = (n : Int) := by split <;> omega
 have hn60 : n ≤ 60 := by omega
 have hcn : n ≤ c := by omega
 have HAK := hid (fun (w : World) (h : Below W.heap.size W w) => (show Calls Tryz.prog 36 #[.agg #[.string sGET, .string pLogin, .slice none 0 0, .slice none 0 0], .slice A n c] w (AskLogin w dl) from by
  have hd' := Kd.C_below HD.out h
  rw [hn] at hd' ⊢
  exact ask_login A c dl w hd' (by omega) (by omega) (hS.of_below h)))
 have HKN := hid (fun (w : World) (h : Below W.heap.size W w) => known_any w (hS.of_below h) (hT.of_below h))
 have HN := hid hn
 clear hd hS hT hdl hnL hn
 have hu1 := Tryz.underlying31
 go_enter Tryz.func11, Tryz.ntmps11
 go_upto_region 2 with (fail)
 obtain ⟨m1, hm1⟩ : ∃ m, (dl.take 32).length = m := ⟨_, rfl⟩
 obtain ⟨m2, hm2⟩ : ∃ m, ((dl.drop 32).take 16).length = m := ⟨_, rfl⟩
 have HM1 := hid hm1
 have HM2 := hid hm2
 clear hm1 hm2
 go_upto_region 3 with (go_at_call 36; refine (HAK.out _ (Below.refl _ _)).mono ?_; rintro e w1 ⟨v1, v2, rfl, h1, h2, hb1⟩; have hr1 := Kd.R_slice h1; obtain ⟨B1, d1, e1⟩ := hr1; rw [HM1.out] at e1; subst e1; have hr2 := Kd.R_slice h2; obtain ⟨B2, d2, e2⟩ := hr2; rw [HM2.out] at e2; subst e2; have HR1 := hid h1; have HR2 := hid h2; have HB1 := hid hb1; clear h1 h2 hb1)
 have HX := hid (blk_new w1 (.cells #[.int .i64 1, .string ⟨#[]⟩, .string ⟨#[]⟩, .string ⟨#[]⟩, .string ⟨#[]⟩, .string ⟨#[]⟩, .slice B1 m1 d1, .slice B2 m2 d2] 31))
 have HB2 := hid (HB1.out.alloc HB1.out.size (.cells #[.int .i64 1, .string ⟨#[]⟩, .string ⟨#[]⟩, .string ⟨#[]⟩, .string ⟨#[]⟩, .string ⟨#[]⟩, .slice B1 m1 d1, .slice B2 m2 d2] 31))
 have HC1 := hid (Kd.C_alloc (Kd.R_reads' HR1.out).2.2 (.cells #[.int .i64 1, .string ⟨#[]⟩, .string ⟨#[]⟩, .string ⟨#[]⟩, .string ⟨#[]⟩, .string ⟨#[]⟩, .slice B1 m1 d1, .slice B2 m2 d2] 31))
 have HC2 := hid (Kd.C_alloc (Kd.R_reads' HR2.out).2.2 (.cells #[.int .i64 1, .string ⟨#[]⟩, .string ⟨#[]⟩, .string ⟨#[]⟩, .string ⟨#[]⟩, .string ⟨#[]⟩, .slice B1 m1 d1, .slice B2 m2 d2] 31))
 generalize hg : w1.heap.size = g at HX ⊢
 generalize w1.alloc (.cells #[.int .i64 1, .string ⟨#[]⟩, .string ⟨#[]⟩, .string ⟨#[]⟩, .string ⟨#[]⟩, .string ⟨#[]⟩, .slice B1 m1 d1, .slice B2 m2 d2] 31) = w2 at HX HB2 HC1 HC2 ⊢
 clear hg HR1 HR2 HB1 HAK
 have hm1 := HM1.out
 have hm2 := HM2.out
 have hn := HN.out
 have em1 : m1 = min 32 n := by rw [← hm1, List.length_take, ← hn]
 have em2 : m2 = min 16 (n - 32) := by rw [← hm2, List.length_take, List.length_drop, ← hn]
 obtain ⟨s1, hs1⟩ : ∃ s, s = strOfNums (dl.take 32) := ⟨_, rfl⟩
 obtain ⟨s2, hs2⟩ : ∃ s, s = strOfNums ((dl.drop 32).take 16) := ⟨_, rfl⟩
 have HK1 := hid (fun (w : World) (h : Below w2.heap.size w2 w) => (show (convert 23 9 (.slice B1 m1 d1)).run Tryz.prog w = .ok (.string s1) w from by
  have h1 := Kd.C_string (c := d1) Tryz.underlying23 Tryz.underlying5 Tryz.underlying9 (Kd.C_below HC1.out h)
  rw [hm1, ← hs1] at h1
  exact h1))
 have HK3 := hid (fun (w : World) (h : Below w2.heap.size w2 w) => (show (convert 23 9 (.slice B2 m2 d2)).run Tryz.prog w = .ok (.string s2) w from by
  have h1 := Kd.C_string (c := d2) Tryz.underlying23 Tryz.underlying5 Tryz.underlying9 (Kd.C_below HC2.out h)
  rw [hm2, ← hs2] at h1
  exact h1))
 have HK2 := hid (fun (w : World) (h : Below w2.heap.size w2 w) => (show (convert 23 9 (.slice A m1 c)).run Tryz.prog w = .ok (.string s1) w from by
  have h0 := Kd.C_below HD.out (HB2.out.trans (h.mono HB2.out.size))
  have hmn : m1 ≤ dl.length := by omega
  rw [hn] at h0
  have h1 := Kd.C_take h0 hmn
  have e : dl.take m1 = dl.take 32 := by rw [em1, hn]; exact take_min dl 32
  rw [e] at h1
  have h2 := Kd.C_string (c := c) Tryz.underlying23 Tryz.underlying5 Tryz.underlying9 h1
  rw [hm1, ← hs1] at h2
  exact h2))
 have HCL := hid (fun (w : World) (h : Below w2.heap.size w2 w) => (And.intro (blk_cell (blk_below HX.out h) 0) (And.intro (blk_cell (blk_below HX.out h) 1) (And.intro (blk_cell (blk_below HX.out h) 6) (blk_cell (blk_below HX.out h) 7)))))
 have h1s := fun (w : World) => (show (Instr.slice 23 (.slice A n c) none (some (.int .i64 (m1 : Int))) none).run Tryz.prog w = .ok (.slice A m1 c) w from by
  have h := cut_to (P := Tryz.prog) 23 5 .i64 Tryz.underlying23 hie A n c (m1 : Int) (by omega) (by omega) hcn w
  rw [Int.toNat_natCast] at h
  exact h)
 have ha1 : min (n : Int) 32 = (m1 : Int) := by omega
 have ha2 : (if (32 : Int) < (n : Int) then (32 : Int) else (n : Int)) = (m1 : Int) := by split <;> omega
 have ha3 : (if 32 < n then (32 : Int) else (n : Int)) = (m1 : Int) := by split <;> omega
 have hsub : IntKind.i64.wrap ((n : Int) - 32) = (n : Int) - 32 := by rw [IntKind.wrap_i64]; omega
 obtain ⟨p, hp⟩ : ∃ p : Int, p = min ((n : Int) - 32) 16 := ⟨_, rfl⟩
 have hb1 : min ((n : Int) - 32) 16 = p := hp.symm
 have hb2 : (if (16 : Int) < (n : Int) - 32 then (16 : Int) else (n : Int) - 32) = p := by split <;> omega
 have hb3 : max 0 p = (m2 : Int) := by omega
 have hb4 : (if (0 : Int) < p then p else (0 : Int)) = (m2 : Int) := by split <;> omega
 clear hp em1
 by_cases h32 : n ≤ 32
 ·have hq1 : decide ((n : Int) ≤ 32) = true := decide_eq_true (by omega)
  have hq2 : decide (n ≤ 32) = true := decide_eq_true h32
  clear hm1 hm2 hn em2 hs1 hs2
  have HALLF := hid (fun (w : World) (h : Below w2.heap.size w2 w) => (show w.cell? ⟨g, 0, none⟩ = some (.int .i64 1) ∧ w.cell? ⟨g, 1, none⟩ = some (.string ⟨#[]⟩) ∧ w.cell? ⟨g, 6, none⟩ = some (.slice B1 m1 d1) ∧ w.cell? ⟨g, 7, none⟩ = some (.slice B2 m2 d2) ∧ (convert 23 9 (.slice B1 m1 d1)).run Tryz.prog w = .ok (.string s1) w ∧ (convert 23 9 (.slice A m1 c)).run Tryz.prog w = .ok (.string s1) w ∧ (convert 23 9 (.slice B2 m2 d2)).run Tryz.prog w = .ok (.string s2) w from ⟨(HCL.out w h).1, (HCL.out w h).2.1, (HCL.out w h).2.2.1, (HCL.out w h).2.2.2, HK1.out w h, HK2.out w h, HK3.out w h⟩))
  refine start_ (n := 56) (S := fun w' => w'.cell? ⟨g, 0, none⟩ = some (.int .i64 1) ∧ w'.cell? ⟨g, 1, none⟩ = some (.string ⟨#[]⟩) ∧ w'.cell? ⟨g, 6, none⟩ = some (.slice B1 m1 d1) ∧ w'.cell? ⟨g, 7, none⟩ = some (.slice B2 m2 d2) ∧ (convert 23 9 (.slice B1 m1 d1)).run Tryz.prog w' = .ok (.string s1) w' ∧ (convert 23 9 (.slice A m1 c)).run Tryz.prog w' = .ok (.string s1) w' ∧ (convert 23 9 (.slice B2 m2 d2)).run Tryz.prog w' = .ok (.string s2) w') (ds := []) (bb 56 0) (by kernel_rfl) rfl (by kernel_rfl) (HALLF.out _ (Mut.drew w2).all) (fun hHeld => ?_)
  refine one_ (i := 0) (N := some 17) (bb 56 1) rfl rfl (by kernel_rfl) (by decide) (fun K hK => ?_)
  go_simp; go_wp2_with (go_at_call 13; refine (HKN.out _ (HB2.out.trans ((Mut.drew w2).all.mono HB2.out.size))).mono ?_; rintro e w5 ⟨rfl, hb5⟩; have HB5 := hid ((Mut.drew w2).all.trans hb5); have hN := HALLF.out w5 HB5.out; clear hb5)
  refine hK.out _ _ (hN) (fun hHeld => ?_)
  clear hK K
  refine pure_ (i := 1) (N := some 18) (v := ?_) (a' := ?_) (bb 56 2) rfl rfl (by kernel_rfl) (fun _ _ _ h => h) (Or.inl ⟨by rfl, ?_⟩) ?_ ?_
  rotate_left
  ·intro w'
   go_simp
   with_reducible rfl
  rotate_left
  ·simp only [Act.put, List.setIfInBounds_toArray, List.set_cons_zero, List.set_cons_succ]
   rfl
  refine pure_ (i := 2) (N := some 19) (v := ?_) (a' := ?_) (bb 56 3) rfl rfl (by kernel_rfl) (fun _ _ _ h => h) (Or.inl ⟨by rfl, ?_⟩) ?_ ?_
  rotate_left
  ·intro w'
   go_simp
   with_reducible rfl
  rotate_left
  ·simp only [Act.put, List.setIfInBounds_toArray, List.set_cons_zero, List.set_cons_succ]
   rfl
  refine pure_ (i := 3) (N := some 20) (v := ?_) (a' := ?_) (bb 56 4) rfl rfl (by kernel_rfl) (fun _ _ _ h => h) (Or.inl ⟨by rfl, ?_⟩) ?_ ?_
  rotate_left
  ·intro w'
   go_simp
   with_reducible rfl
  rotate_left
  ·simp only [Act.put, List.setIfInBounds_toArray, List.set_cons_zero, List.set_cons_succ]
   rfl
  refine pure_ (i := 4) (N := some 21) (v := ?_) (a' := ?_) (bb 56 5) rfl rfl (by kernel_rfl) (fun _ _ _ h => h) (Or.inl ⟨by rfl, ?_⟩) ?_ ?_
  rotate_left
  ·intro w'
   go_simp
   with_reducible rfl
  rotate_left
  ·simp only [Act.put, List.setIfInBounds_toArray, List.set_cons_zero, List.set_cons_succ]
   rfl
  refine pure_ (i := 5) (N := some 22) (v := ?_) (a' := ?_) (bb 56 6) rfl rfl (by kernel_rfl) (fun _ _ _ h => h) (Or.inl ⟨by rfl, ?_⟩) ?_ ?_
  rotate_left
  ·intro w'
   go_simp
   with_reducible rfl
  rotate_left
  ·simp only [Act.put, List.setIfInBounds_toArray, List.set_cons_zero, List.set_cons_succ]
   rfl
  refine pure_ (i := 6) (N := some 23) (v := ?_) (a' := ?_) (bb 56 7) rfl rfl (by kernel_rfl) (fun _ _ _ h => h) (Or.inl ⟨by rfl, ?_⟩) ?_ ?_
  rotate_left
  ·intro w'
   go_simp
   with_reducible rfl
  rotate_left
  ·simp only [Act.put, List.setIfInBounds_toArray, List.set_cons_zero, List.set_cons_succ]
   rfl
  refine take_ (i := 7) (N := some 24) (v := ?_) (a' := ?_) (bb 56 8) rfl rfl (by kernel_rfl) (fun _ _ _ h => h) (Or.inl ⟨by rfl, ?_⟩) hHeld ?_ ?_
  rotate_left
  ·rintro w' ⟨z0, z1, z6, z7, k1, k2, k3⟩
   go_simp
   with_reducible rfl
  rotate_left
  ·simp only [Act.put, List.setIfInBounds_toArray, List.set_cons_zero, List.set_cons_succ]
   rfl
  refine take_ (i := 8) (N := some 25) (v := ?_) (a' := ?_) (bb 56 9) rfl rfl (by kernel_rfl) (fun _ _ _ h => h) (Or.inl ⟨by rfl, ?_⟩) hHeld ?_ ?_
  rotate_left
  ·rintro w' ⟨z0, z1, z6, z7, k1, k2, k3⟩
   go_simp
   with_reducible rfl
  rotate_left
  ·simp only [Act.put, List.setIfInBounds_toArray, List.set_cons_zero, List.set_cons_succ]
   rfl
  refine pure_ (i := 9) (N := some 26) (v := ?_) (a' := ?_) (bb 56 10) rfl rfl (by kernel_rfl) (fun _ _ _ h => h) (Or.inl ⟨by rfl, ?_⟩) ?_ ?_
  rotate_left
  ·intro w'
   go_simp
   with_reducible rfl
  rotate_left
  ·simp only [Act.put, List.setIfInBounds_toArray, List.set_cons_zero, List.set_cons_succ]
   rfl
  refine pure_ (i := 10) (N := some 27) (v := ?_) (a' := ?_) (bb 56 11) rfl rfl (by kernel_rfl) (fun _ _ _ h => h) (Or.inl ⟨by rfl, ?_⟩) ?_ ?_
  rotate_left
  ·intro w'
   go_simp
   with_reducible rfl
  rotate_left
  ·simp only [Act.put, List.setIfInBounds_toArray, List.set_cons_zero, List.set_cons_succ]
   rfl
  refine pure_ (i := 11) (N := some 28) (v := ?_) (a' := ?_) (bb 56 12) rfl rfl (by kernel_rfl) (fun _ _ _ h => h) (Or.inl ⟨by rfl, ?_⟩) ?_ ?_
  rotate_left
  ·intro w'
   go_simp
   with_reducible rfl
  rotate_left
  ·simp only [Act.put, List.setIfInBounds_toArray, List.set_cons_zero, List.set_cons_succ]
   rfl
  refine pure_ (i := 12) (N := some 29) (v := ?_) (a' := ?_) (bb 56 13) rfl rfl (by kernel_rfl) (fun _ _ _ h => h) (Or.inl ⟨by rfl, ?_⟩) ?_ ?_
  rotate_left
  ·intro w'
   go_simp
   with_reducible rfl
  rotate_left
  ·simp only [Act.put, List.setIfInBounds_toArray, List.set_cons_zero, List.set_cons_succ]
   rfl
  refine pure_ (i := 13) (N := some 30) (v := ?_) (a' := ?_) (bb 56 14) rfl rfl (by kernel_rfl) (fun _ _ _ h => h) (Or.inl ⟨by rfl, ?_⟩) ?_ ?_
  rotate_left
  ·intro w'
   go_simp
   with_reducible rfl
  rotate_left
  ·simp only [Act.put, List.setIfInBounds_toArray, List.set_cons_zero, List.set_cons_succ]
   rfl
  refine take_ (i := 14) (N := some 31) (v := ?_) (a' := ?_) (bb 56 15) rfl rfl (by kernel_rfl) (fun _ _ _ h => h) (Or.inl ⟨by rfl, ?_⟩) hHeld ?_ ?_
  rotate_left
  ·rintro w' ⟨z0, z1, z6, z7, k1, k2, k3⟩
   go_simp
   with_reducible rfl
  rotate_left
  ·simp only [Act.put, List.setIfInBounds_toArray, List.set_cons_zero, List.set_cons_succ]
   rfl
  refine pure_ (i := 15) (N := some 32) (v := ?_) (a' := ?_) (bb 56 16) rfl rfl (by kernel_rfl) (fun _ _ _ h => h) (Or.inl ⟨by rfl, ?_⟩) ?_ ?_
  rotate_left
  ·intro w'
   go_simp
   with_reducible rfl
  rotate_left
  ·simp only [Act.put, List.setIfInBounds_toArray, List.set_cons_zero, List.set_cons_succ]
   rfl
  refine pure_ (i := 16) (N := some 33) (v := ?_) (a' := ?_) (bb 56 17) rfl rfl (by kernel_rfl) (fun _ _ _ h => h) (Or.inl ⟨by rfl, ?_⟩) ?_ ?_
  rotate_left
  ·intro w'
   go_simp
   with_reducible rfl
  rotate_left
  ·simp only [Act.put, List.setIfInBounds_toArray, List.set_cons_zero, List.set_cons_succ]
   rfl
  refine pure_ (i := 17) (N := some 34) (v := ?_) (a' := ?_) (bb 56 18) rfl rfl (by kernel_rfl) (fun _ _ _ h => h) (Or.inl ⟨by rfl, ?_⟩) ?_ ?_
  rotate_left
  ·intro w'
   go_simp
   with_reducible rfl
  rotate_left
  ·simp only [Act.put, List.setIfInBounds_toArray, List.set_cons_zero, List.set_cons_succ]
   rfl
  refine pure_ (i := 18) (N := some 35) (v := ?_) (a' := ?_) (bb 56 19) rfl rfl (by kernel_rfl) (fun _ _ _ h => h) (Or.inl ⟨by rfl, ?_⟩) ?_ ?_
  rotate_left
  ·intro w'
   go_simp
   with_reducible rfl
  rotate_left
  ·simp only [Act.put, List.setIfInBounds_toArray, List.set_cons_zero, List.set_cons_succ]
   rfl
  refine take_ (i := 19) (N := some 36) (v := ?_) (a' := ?_) (bb 56 20) rfl rfl (by kernel_rfl) (fun _ _ _ h => h) (Or.inl ⟨by rfl, ?_⟩) hHeld ?_ ?_
  rotate_left
  ·rintro w' ⟨z0, z1, z6, z7, k1, k2, k3⟩
   go_simp
   with_reducible rfl
  rotate_left
  ·simp only [Act.put, List.setIfInBounds_toArray, List.set_cons_zero, List.set_cons_succ]
   rfl
  refine pure_ (i := 20) (N := some 37) (v := ?_) (a' := ?_) (bb 56 21) rfl rfl (by kernel_rfl) (fun _ _ _ h => h) (Or.inl ⟨by rfl, ?_⟩) ?_ ?_
  rotate_left
  ·intro w'
   go_simp
   with_reducible rfl
  rotate_left
  ·simp only [Act.put, List.setIfInBounds_toArray, List.set_cons_zero, List.set_cons_succ]
   rfl
  refine pure_ (i := 21) (N := some 38) (v := ?_) (a' := ?_) (bb 56 22) rfl rfl (by kernel_rfl) (fun _ _ _ h => h) (Or.inl ⟨by rfl, ?_⟩) ?_ ?_
  rotate_left
  ·intro w'
   go_simp
   with_reducible rfl
  rotate_left
  ·simp only [Act.put, List.setIfInBounds_toArray, List.set_cons_zero, List.set_cons_succ]
   rfl
  refine pure_ (i := 22) (N := some 39) (v := ?_) (a' := ?_) (bb 56 23) rfl rfl (by kernel_rfl) (fun _ _ _ h => h) (Or.inl ⟨by rfl, ?_⟩) ?_ ?_
  rotate_left
  ·intro w'
   go_simp
   with_reducible rfl
  rotate_left
  ·simp only [Act.put, List.setIfInBounds_toArray, List.set_cons_zero, List.set_cons_succ]
   rfl
  refine pure_ (i := 23) (N := some 40) (v := ?_) (a' := ?_) (bb 56 24) rfl rfl (by kernel_rfl) (fun _ _ _ h => h) (Or.inl ⟨by rfl, ?_⟩) ?_ ?_
  rotate_left
  ·intro w'
   go_simp
   with_reducible rfl
  rotate_left
  ·simp only [Act.put, List.setIfInBounds_toArray, List.set_cons_zero, List.set_cons_succ]
   rfl
  refine pure_ (i := 24) (N := some 41) (v := ?_) (a' := ?_) (bb 56 25) rfl rfl (by kernel_rfl) (fun _ _ _ h => h) (Or.inl ⟨by rfl, ?_⟩) ?_ ?_
  rotate_left
  ·intro w'
   go_simp
   with_reducible rfl
  rotate_left
  ·simp only [Act.put, List.setIfInBounds_toArray, List.set_cons_zero, List.set_cons_succ]
   rfl
  refine pure_ (i := 25) (N := some 42) (v := ?_) (a' := ?_) (bb 56 26) rfl rfl (by kernel_rfl) (fun _ _ _ h => h) (Or.inl ⟨by rfl, ?_⟩) ?_ ?_
  rotate_left
  ·intro w'
   go_simp
   with_reducible rfl
  rotate_left
  ·simp only [Act.put, List.setIfInBounds_toArray, List.set_cons_zero, List.set_cons_succ]
   rfl
  refine pure_ (i := 26) (N := some 43) (v := ?_) (a' := ?_) (bb 56 27) rfl rfl (by kernel_rfl) (fun _ _ _ h => h) (Or.inl ⟨by rfl, ?_⟩) ?_ ?_
  rotate_left
  ·intro w'
   go_simp
   with_reducible rfl
  rotate_left
  ·simp only [Act.put, List.setIfInBounds_toArray, List.set_cons_zero, List.set_cons_succ]
   rfl
  refine pure_ (i := 27) (N := some 44) (v := ?_) (a' := ?_) (bb 56 28) rfl rfl (by kernel_rfl) (fun _ _ _ h => h) (Or.inl ⟨by rfl, ?_⟩) ?_ ?_
  rotate_left
  ·intro w'
   go_simp
   with_reducible rfl
  rotate_left
  ·simp only [Act.put, List.setIfInBounds_toArray, List.set_cons_zero, List.set_cons_succ]
   rfl
  refine pure_ (i := 28) (N := some 45) (v := ?_) (a' := ?_) (bb 56 29) rfl rfl (by kernel_rfl) (fun _ _ _ h => h) (Or.inl ⟨by rfl, ?_⟩) ?_ ?_
  rotate_left
  ·intro w'
   go_simp
   with_reducible rfl
  rotate_left
  ·simp only [Act.put, List.setIfInBounds_toArray, List.set_cons_zero, List.set_cons_succ]
   rfl
  refine pure_ (i := 29) (N := some 46) (v := ?_) (a' := ?_) (bb 56 30) rfl rfl (by kernel_rfl) (fun _ _ _ h => h) (Or.inl ⟨by rfl, ?_⟩) ?_ ?_
  rotate_left
  ·intro w'
   go_simp
   with_reducible rfl
  rotate_left
  ·simp only [Act.put, List.setIfInBounds_toArray, List.set_cons_zero, List.set_cons_succ]
   rfl
  refine pure_ (i := 30) (N := some 47) (v := ?_) (a' := ?_) (bb 56 31) rfl rfl (by kernel_rfl) (fun _ _ _ h => h) (Or.inl ⟨by rfl, ?_⟩) ?_ ?_
  rotate_left
  ·intro w'
   go_simp
   with_reducible rfl
  rotate_left
  ·simp only [Act.put, List.setIfInBounds_toArray, List.set_cons_zero, List.set_cons_succ]
   rfl
  refine pure_ (i := 31) (N := some 48) (v := ?_) (a' := ?_) (bb 56 32) rfl rfl (by kernel_rfl) (fun _ _ _ h => h) (Or.inl ⟨by rfl, ?_⟩) ?_ ?_
  rotate_left
  ·intro w'
   go_simp
   with_reducible rfl
  rotate_left
  ·simp only [Act.put, List.setIfInBounds_toArray, List.set_cons_zero, List.set_cons_succ]
   rfl
  refine pure_ (i := 32) (N := some 49) (v := ?_) (a' := ?_) (bb 56 33) rfl rfl (by kernel_rfl) (fun _ _ _ h => h) (Or.inl ⟨by rfl, ?_⟩) ?_ ?_
  rotate_left
  ·intro w'
   go_simp
   with_reducible rfl
  rotate_left
  ·simp only [Act.put, List.setIfInBounds_toArray, List.set_cons_zero, List.set_cons_succ]
   rfl
  refine pure_ (i := 33) (N := some 50) (v := undef) (a' := ?_) (bb 56 34) rfl rfl (by kernel_rfl) (fun _ _ _ h => h) (Or.inr ⟨by rfl, rfl⟩) ?_ ?_
  rotate_left
  ·simp only [Act.put, List.setIfInBounds_toArray, List.set_cons_zero, List.set_cons_succ]
   rfl
  refine pure_ (i := 34) (N := some 51) (v := undef) (a' := ?_) (bb 56 35) rfl rfl (by kernel_rfl) (fun _ _ _ h => h) (Or.inr ⟨by rfl, rfl⟩) ?_ ?_
  rotate_left
  ·simp only [Act.put, List.setIfInBounds_toArray, List.set_cons_zero, List.set_cons_succ]
   rfl
  refine pure_ (i := 35) (N := some 52) (v := undef) (a' := ?_) (bb 56 36) rfl rfl (by kernel_rfl) (fun _ _ _ h => h) (Or.inr ⟨by rfl, rfl⟩) ?_ ?_
  rotate_left
  ·simp only [Act.put, List.setIfInBounds_toArray, List.set_cons_zero, List.set_cons_succ]
   rfl
  refine pure_ (i := 36) (N := some 53) (v := undef) (a' := ?_) (bb 56 37) rfl rfl (by kernel_rfl) (fun _ _ _ h => h) (Or.inr ⟨by rfl, rfl⟩) ?_ ?_
  rotate_left
  ·simp only [Act.put, List.setIfInBounds_toArray, List.set_cons_zero, List.set_cons_succ]
   rfl
  refine pure_ (i := 37) (N := some 54) (v := undef) (a' := ?_) (bb 56 38) rfl rfl (by kernel_rfl) (fun _ _ _ h => h) (Or.inr ⟨by rfl, rfl⟩) ?_ ?_
  rotate_left
  ·simp only [Act.put, List.setIfInBounds_toArray, List.set_cons_zero, List.set_cons_succ]
   rfl
  refine pure_ (i := 38) (N := some 55) (v := undef) (a' := ?_) (bb 56 39) rfl rfl (by kernel_rfl) (fun _ _ _ h => h) (Or.inr ⟨by rfl, rfl⟩) ?_ ?_
  rotate_left
  ·simp only [Act.put, List.setIfInBounds_toArray, List.set_cons_zero, List.set_cons_succ]
   rfl
  refine pure_ (i := 39) (N := some 56) (v := undef) (a' := ?_) (bb 56 40) rfl rfl (by kernel_rfl) (fun _ _ _ h => h) (Or.inr ⟨by rfl, rfl⟩) ?_ ?_
  rotate_left
  ·simp only [Act.put, List.setIfInBounds_toArray, List.set_cons_zero, List.set_cons_succ]
   rfl
  refine pure_ (i := 40) (N := some 57) (v := undef) (a' := ?_) (bb 56 41) rfl rfl (by kernel_rfl) (fun _ _ _ h => h) (Or.inr ⟨by rfl, rfl⟩) ?_ ?_
  rotate_left
  ·simp only [Act.put, List.setIfInBounds_toArray, List.set_cons_zero, List.set_cons_succ]
   rfl
  refine pure_ (i := 41) (N := some 58) (v := undef) (a' := ?_) (bb 56 42) rfl rfl (by kernel_rfl) (fun _ _ _ h => h) (Or.inr ⟨by rfl, rfl⟩) ?_ ?_
  rotate_left
  ·simp only [Act.put, List.setIfInBounds_toArray, List.set_cons_zero, List.set_cons_succ]
   rfl
  refine pure_ (i := 42) (N := some 59) (v := undef) (a' := ?_) (bb 56 43) rfl rfl (by kernel_rfl) (fun _ _ _ h => h) (Or.inr ⟨by rfl, rfl⟩) ?_ ?_
  rotate_left
  ·simp only [Act.put, List.setIfInBounds_toArray, List.set_cons_zero, List.set_cons_succ]
   rfl
  refine pure_ (i := 43) (N := some 60) (v := ?_) (a' := ?_) (bb 56 44) rfl rfl (by kernel_rfl) (fun _ _ _ h => h) (Or.inl ⟨by rfl, ?_⟩) ?_ ?_
  rotate_left
  ·intro w'
   go_simp
   with_reducible rfl
  rotate_left
  ·simp only [Act.put, List.setIfInBounds_toArray, List.set_cons_zero, List.set_cons_succ]
   rfl
  refine pure_ (i := 44) (N := some 61) (v := ?_) (a' := ?_) (bb 56 45) rfl rfl (by kernel_rfl) (fun _ _ _ h => h) (Or.inl ⟨by rfl, ?_⟩) ?_ ?_
  rotate_left
  ·intro w'
   go_simp
   with_reducible rfl
  rotate_left
  ·simp only [Act.put, List.setIfInBounds_toArray, List.set_cons_zero, List.set_cons_succ]
   rfl
  refine pure_ (i := 45) (N := some 62) (v := ?_) (a' := ?_) (bb 56 46) rfl rfl (by kernel_rfl) (fun _ _ _ h => h) (Or.inl ⟨by rfl, ?_⟩) ?_ ?_
  rotate_left
  ·intro w'
   go_simp
   with_reducible rfl
  rotate_left
  ·simp only [Act.put, List.setIfInBounds_toArray, List.set_cons_zero, List.set_cons_succ]
   rfl
  refine pure_ (i := 46) (N := some 63) (v := ?_) (a' := ?_) (bb 56 47) rfl rfl (by kernel_rfl) (fun _ _ _ h => h) (Or.inl ⟨by rfl, ?_⟩) ?_ ?_
  rotate_left
  ·intro w'
   go_simp
   with_reducible rfl
  rotate_left
  ·simp only [Act.put, List.setIfInBounds_toArray, List.set_cons_zero, List.set_cons_succ]
   rfl
  refine take_ (i := 47) (N := some 64) (v := ?_) (a' := ?_) (bb 56 48) rfl rfl (by kernel_rfl) (fun _ _ _ h => h) (Or.inl ⟨by rfl, ?_⟩) hHeld ?_ ?_
  rotate_left
  ·rintro w' ⟨z0, z1, z6, z7, k1, k2, k3⟩
   go_simp
   with_reducible rfl
  rotate_left
  ·simp only [Act.put, List.setIfInBounds_toArray, List.set_cons_zero, List.set_cons_succ]
   rfl
  refine pure_ (i := 48) (N := some 65) (v := ?_) (a' := ?_) (bb 56 49) rfl rfl (by kernel_rfl) (fun _ _ _ h => h) (Or.inl ⟨by rfl, ?_⟩) ?_ ?_
  rotate_left
  ·intro w'
   go_simp
   with_reducible rfl
  rotate_left
  ·simp only [Act.put, List.setIfInBounds_toArray, List.set_cons_zero, List.set_cons_succ]
   rfl
  refine pure_ (i := 49) (N := some 66) (v := ?_) (a' := ?_) (bb 56 50) rfl rfl (by kernel_rfl) (fun _ _ _ h => h) (Or.inl ⟨by rfl, ?_⟩) ?_ ?_
  rotate_left
  ·intro w'
   go_simp
   with_reducible rfl
  rotate_left
  ·simp only [Act.put, List.setIfInBounds_toArray, List.set_cons_zero, List.set_cons_succ]
   rfl
  refine pure_ (i := 50) (N := some 67) (v := ?_) (a' := ?_) (bb 56 51) rfl rfl (by kernel_rfl) (fun _ _ _ h => h) (Or.inl ⟨by rfl, ?_⟩) ?_ ?_
  rotate_left
  ·intro w'
   go_simp
   with_reducible rfl
  rotate_left
  ·simp only [Act.put, List.setIfInBounds_toArray, List.set_cons_zero, List.set_cons_succ]
   rfl
  refine pure_ (i := 51) (N := some 68) (v := ?_) (a' := ?_) (bb 56 52) rfl rfl (by kernel_rfl) (fun _ _ _ h => h) (Or.inl ⟨by rfl, ?_⟩) ?_ ?_
  rotate_left
  ·intro w'
   go_simp
   with_reducible rfl
  rotate_left
  ·simp only [Act.put, List.setIfInBounds_toArray, List.set_cons_zero, List.set_cons_succ]
   rfl
  refine take_ (i := 52) (N := some 69) (v := ?_) (a' := ?_) (bb 56 53) rfl rfl (by kernel_rfl) (fun _ _ _ h => h) (Or.inl ⟨by rfl, ?_⟩) hHeld ?_ ?_
  rotate_left
  ·rintro w' ⟨z0, z1, z6, z7, k1, k2, k3⟩
   go_simp
   with_reducible rfl
  rotate_left
  ·simp only [Act.put, List.setIfInBounds_toArray, List.set_cons_zero, List.set_cons_succ]
   rfl
  refine pure_ (i := 53) (N := some 70) (v := ?_) (a' := ?_) (bb 56 54) rfl rfl (by kernel_rfl) (fun _ _ _ h => h) (Or.inl ⟨by rfl, ?_⟩) ?_ ?_
  rotate_left
  ·intro w'
   go_simp
   with_reducible rfl
  rotate_left
  ·simp only [Act.put, List.setIfInBounds_toArray, List.set_cons_zero, List.set_cons_succ]
   rfl
  refine pure_ (i := 54) (N := some 71) (v := ?_) (a' := ?_) (bb 56 55) rfl rfl (by kernel_rfl) (fun _ _ _ h => h) (Or.inl ⟨by rfl, ?_⟩) ?_ ?_
  rotate_left
  ·intro w'
   go_simp
   with_reducible rfl
  rotate_left
  ·simp only [Act.put, List.setIfInBounds_toArray, List.set_cons_zero, List.set_cons_succ]
   rfl
  refine pure_ (i := 55) (N := some 2) (v := ?_) (a' := ?_) (bb 56 56) rfl rfl (by kernel_rfl) (fun _ _ _ h => h) (Or.inl ⟨by rfl, ?_⟩) ?_ ?_
  rotate_left
  ·intro w'
   go_simp
   with_reducible rfl
  rotate_left
  ·simp only [Act.put, List.setIfInBounds_toArray, List.set_cons_zero, List.set_cons_succ]
   rfl
  refine done_ (by kernel_rfl) ?_
  go_wp2_with (fail)
  go_ret
  exact ⟨by simp, HB2.out.trans (HB5.out.mono HB2.out.size)⟩
 ·have hq1 : decide ((n : Int) ≤ 32) = false := decide_eq_false (by omega)
  have hq2 : decide (n ≤ 32) = false := decide_eq_false h32
  obtain ⟨q, hq⟩ : ∃ q : Nat, q = min n 48 := ⟨_, rfl⟩
  obtain ⟨A4, hs4, hR4, _⟩ := print_mid_of (P := Tryz.prog) (Value.int .u8) (0 : Int) 23 5 .i64 .i64 Tryz.underlying23 hie hze A c dl 32 (q : Int) (by omega) (by omega) (by omega) (by omega)
  have e4 : (dl.take (q : Int).toNat).drop (32 : Int).toNat = (dl.drop 32).take 16 := by
   rw [Int.toNat_natCast, show (32 : Int).toNat = 32 from rfl, List.drop_take, show q - 32 = min 16 (dl.drop 32).length by rw [List.length_drop]; omega]
   exact take_min _ 16
  obtain ⟨c4, hc4⟩ : ∃ c4, c4 = c - (32 : Int).toNat := ⟨_, rfl⟩
  have h4s : ∀ w, (Instr.slice 23 (.slice A n c) (some (.int .i64 32)) (some (.int .i64 (q : Int))) none).run Tryz.prog w = .ok (.slice A4 m2 c4) w := fun w => by
   have h := hs4 w
   rw [e4, hm2, ← hc4, ← hn] at h
   exact h
  have HK4 := hid (fun (w : World) (h : Below w2.heap.size w2 w) => (show (convert 23 9 (.slice A4 m2 c4)).run Tryz.prog w = .ok (.string s2) w from by
   have h0 := Kd.C_below HD.out (HB2.out.trans (h.mono HB2.out.size))
   rw [hn] at h0
   have h1 := hR4 w (Kd.reads_of_C (enc := Value.int .u8) (d := (0 : Int)) (h1 := fun _ => rfl) h0)
   rw [e4] at h1
   have h2 := Kd.C_string (c := c4) Tryz.underlying23 Tryz.underlying5 Tryz.underlying9 (Kd.C_of_reads (d := (0 : Int)) (h1 := fun _ => rfl) h1)
   rw [hm2, ← hs2] at h2
   exact h2))
  have hc1 : min (n : Int) 48 = (q : Int) := by omega
  have hc2 : (if (48 : Int) < (n : Int) then (48 : Int) else (n : Int)) = (q : Int) := by split <;> omega
  have hc3 : (if 48 < n then (48 : Int) else (n : Int)) = (q : Int) := by split <;> omega
  clear hs4 hR4 e4 hc4 hq hm1 hm2 hn em2 hs1 hs2
  have HALLF := hid (fun (w : World) (h : Below w2.heap.size w2 w) => (show w.cell? ⟨g, 0, none⟩ = some (.int .i64 1) ∧ w.cell? ⟨g, 1, none⟩ = some (.string ⟨#[]⟩) ∧ w.cell? ⟨g, 6, none⟩ = some (.slice B1 m1 d1) ∧ w.cell? ⟨g, 7, none⟩ = some (.slice B2 m2 d2) ∧ (convert 23 9 (.slice B1 m1 d1)).run Tryz.prog w = .ok (.string s1) w ∧ (convert 23 9 (.slice A m1 c)).run Tryz.prog w = .ok (.string s1) w ∧ (convert 23 9 (.slice B2 m2 d2)).run Tryz.prog w = .ok (.string s2) w ∧ (convert 23 9 (.slice A4 m2 c4)).run Tryz.prog w = .ok (.string s2) w from ⟨(HCL.out w h).1, (HCL.out w h).2.1, (HCL.out w h).2.2.1, (HCL.out w h).2.2.2, HK1.out w h, HK2.out w h, HK3.out w h, HK4.out w h⟩))
  refine start_ (n := 56) (S := fun w' => w'.cell? ⟨g, 0, none⟩ = some (.int .i64 1) ∧ w'.cell? ⟨g, 1, none⟩ = some (.string ⟨#[]⟩) ∧ w'.cell? ⟨g, 6, none⟩ = some (.slice B1 m1 d1) ∧ w'.cell? ⟨g, 7, none⟩ = some (.slice B2 m2 d2) ∧ (convert 23 9 (.slice B1 m1 d1)).run Tryz.prog w' = .ok (.string s1) w' ∧ (convert 23 9 (.slice A m1 c)).run Tryz.prog w' = .ok (.string s1) w' ∧ (convert 23 9 (.slice B2 m2 d2)).run Tryz.prog w' = .ok (.string s2) w' ∧ (convert 23 9 (.slice A4 m2 c4)).run Tryz.prog w' = .ok (.string s2) w') (ds := []) (bb 56 0) (by kernel_rfl) rfl (by kernel_rfl) (HALLF.out _ (Mut.drew w2).all) (fun hHeld => ?_)
  refine one_ (i := 0) (N := some 17) (bb 56 1) rfl rfl (by kernel_rfl) (by decide) (fun K hK => ?_)
  go_simp; go_wp2_with (go_at_call 13; refine (HKN.out _ (HB2.out.trans ((Mut.drew w2).all.mono HB2.out.size))).mono ?_; rintro e w5 ⟨rfl, hb5⟩; have HB5 := hid ((Mut.drew w2).all.trans hb5); have hN := HALLF.out w5 HB5.out; clear hb5)
  refine hK.out _ _ (hN) (fun hHeld => ?_)
  clear hK K
  refine pure_ (i := 1) (N := some 18) (v := ?_) (a' := ?_) (bb 56 2) rfl rfl (by kernel_rfl) (fun _ _ _ h => h) (Or.inl ⟨by rfl, ?_⟩) ?_ ?_
  rotate_left
  ·intro w'
   go_simp
   with_reducible rfl
  rotate_left
  ·simp only [Act.put, List.setIfInBounds_toArray, List.set_cons_zero, List.set_cons_succ]
   rfl
  refine pure_ (i := 2) (N := some 19) (v := ?_) (a' := ?_) (bb 56 3) rfl rfl (by kernel_rfl) (fun _ _ _ h => h) (Or.inl ⟨by rfl, ?_⟩) ?_ ?_
  rotate_left
  ·intro w'
   go_simp
   with_reducible rfl
  rotate_left
  ·simp only [Act.put, List.setIfInBounds_toArray, List.set_cons_zero, List.set_cons_succ]
   rfl
  refine pure_ (i := 3) (N := some 20) (v := ?_) (a' := ?_) (bb 56 4) rfl rfl (by kernel_rfl) (fun _ _ _ h => h) (Or.inl ⟨by rfl, ?_⟩) ?_ ?_
  rotate_left
  ·intro w'
   go_simp
   with_reducible rfl
  rotate_left
  ·simp only [Act.put, List.setIfInBounds_toArray, List.set_cons_zero, List.set_cons_succ]
   rfl
  refine pure_ (i := 4) (N := some 21) (v := ?_) (a' := ?_) (bb 56 5) rfl rfl (by kernel_rfl) (fun _ _ _ h => h) (Or.inl ⟨by rfl, ?_⟩) ?_ ?_
  rotate_left
  ·intro w'
   go_simp
   with_reducible rfl
  rotate_left
  ·simp only [Act.put, List.setIfInBounds_toArray, List.set_cons_zero, List.set_cons_succ]
   rfl
  refine pure_ (i := 5) (N := some 22) (v := ?_) (a' := ?_) (bb 56 6) rfl rfl (by kernel_rfl) (fun _ _ _ h => h) (Or.inl ⟨by rfl, ?_⟩) ?_ ?_
  rotate_left
  ·intro w'
   go_simp
   with_reducible rfl
  rotate_left
  ·simp only [Act.put, List.setIfInBounds_toArray, List.set_cons_zero, List.set_cons_succ]
   rfl
  refine pure_ (i := 6) (N := some 23) (v := ?_) (a' := ?_) (bb 56 7) rfl rfl (by kernel_rfl) (fun _ _ _ h => h) (Or.inl ⟨by rfl, ?_⟩) ?_ ?_
  rotate_left
  ·intro w'
   go_simp
   with_reducible rfl
  rotate_left
  ·simp only [Act.put, List.setIfInBounds_toArray, List.set_cons_zero, List.set_cons_succ]
   rfl
  refine take_ (i := 7) (N := some 24) (v := ?_) (a' := ?_) (bb 56 8) rfl rfl (by kernel_rfl) (fun _ _ _ h => h) (Or.inl ⟨by rfl, ?_⟩) hHeld ?_ ?_
  rotate_left
  ·rintro w' ⟨z0, z1, z6, z7, k1, k2, k3, k4⟩
   go_simp
   with_reducible rfl
  rotate_left
  ·simp only [Act.put, List.setIfInBounds_toArray, List.set_cons_zero, List.set_cons_succ]
   rfl
  refine take_ (i := 8) (N := some 25) (v := ?_) (a' := ?_) (bb 56 9) rfl rfl (by kernel_rfl) (fun _ _ _ h => h) (Or.inl ⟨by rfl, ?_⟩) hHeld ?_ ?_
  rotate_left
  ·rintro w' ⟨z0, z1, z6, z7, k1, k2, k3, k4⟩
   go_simp
   with_reducible rfl
  rotate_left
  ·simp only [Act.put, List.setIfInBounds_toArray, List.set_cons_zero, List.set_cons_succ]
   rfl
  refine pure_ (i := 9) (N := some 26) (v := ?_) (a' := ?_) (bb 56 10) rfl rfl (by kernel_rfl) (fun _ _ _ h => h) (Or.inl ⟨by rfl, ?_⟩) ?_ ?_
  rotate_left
  ·intro w'
   go_simp
   with_reducible rfl
  rotate_left
  ·simp only [Act.put, List.setIfInBounds_toArray, List.set_cons_zero, List.set_cons_succ]
   rfl
  refine pure_ (i := 10) (N := some 27) (v := ?_) (a' := ?_) (bb 56 11) rfl rfl (by kernel_rfl) (fun _ _ _ h => h) (Or.inl ⟨by rfl, ?_⟩) ?_ ?_
  rotate_left
  ·intro w'
   go_simp
   with_reducible rfl
  rotate_left
  ·simp only [Act.put, List.setIfInBounds_toArray, List.set_cons_zero, List.set_cons_succ]
   rfl
  refine pure_ (i := 11) (N := some 28) (v := ?_) (a' := ?_) (bb 56 12) rfl rfl (by kernel_rfl) (fun _ _ _ h => h) (Or.inl ⟨by rfl, ?_⟩) ?_ ?_
  rotate_left
  ·intro w'
   go_simp
   with_reducible rfl
  rotate_left
  ·simp only [Act.put, List.setIfInBounds_toArray, List.set_cons_zero, List.set_cons_succ]
   rfl
  refine pure_ (i := 12) (N := some 29) (v := ?_) (a' := ?_) (bb 56 13) rfl rfl (by kernel_rfl) (fun _ _ _ h => h) (Or.inl ⟨by rfl, ?_⟩) ?_ ?_
  rotate_left
  ·intro w'
   go_simp
   with_reducible rfl
  rotate_left
  ·simp only [Act.put, List.setIfInBounds_toArray, List.set_cons_zero, List.set_cons_succ]
   rfl
  refine pure_ (i := 13) (N := some 30) (v := ?_) (a' := ?_) (bb 56 14) rfl rfl (by kernel_rfl) (fun _ _ _ h => h) (Or.inl ⟨by rfl, ?_⟩) ?_ ?_
  rotate_left
  ·intro w'
   go_simp
   with_reducible rfl
  rotate_left
  ·simp only [Act.put, List.setIfInBounds_toArray, List.set_cons_zero, List.set_cons_succ]
   rfl
  refine take_ (i := 14) (N := some 31) (v := ?_) (a' := ?_) (bb 56 15) rfl rfl (by kernel_rfl) (fun _ _ _ h => h) (Or.inl ⟨by rfl, ?_⟩) hHeld ?_ ?_
  rotate_left
  ·rintro w' ⟨z0, z1, z6, z7, k1, k2, k3, k4⟩
   go_simp
   with_reducible rfl
  rotate_left
  ·simp only [Act.put, List.setIfInBounds_toArray, List.set_cons_zero, List.set_cons_succ]
   rfl
  refine pure_ (i := 15) (N := some 32) (v := ?_) (a' := ?_) (bb 56 16) rfl rfl (by kernel_rfl) (fun _ _ _ h => h) (Or.inl ⟨by rfl, ?_⟩) ?_ ?_
  rotate_left
  ·intro w'
   go_simp
   with_reducible rfl
  rotate_left
  ·simp only [Act.put, List.setIfInBounds_toArray, List.set_cons_zero, List.set_cons_succ]
   rfl
  refine pure_ (i := 16) (N := some 33) (v := ?_) (a' := ?_) (bb 56 17) rfl rfl (by kernel_rfl) (fun _ _ _ h => h) (Or.inl ⟨by rfl, ?_⟩) ?_ ?_
  rotate_left
  ·intro w'
   go_simp
   with_reducible rfl
  rotate_left
  ·simp only [Act.put, List.setIfInBounds_toArray, List.set_cons_zero, List.set_cons_succ]
   rfl
  refine pure_ (i := 17) (N := some 34) (v := ?_) (a' := ?_) (bb 56 18) rfl rfl (by kernel_rfl) (fun _ _ _ h => h) (Or.inl ⟨by rfl, ?_⟩) ?_ ?_
  rotate_left
  ·intro w'
   go_simp
   with_reducible rfl
  rotate_left
  ·simp only [Act.put, List.setIfInBounds_toArray, List.set_cons_zero, List.set_cons_succ]
   rfl
  refine pure_ (i := 18) (N := some 35) (v := ?_) (a' := ?_) (bb 56 19) rfl rfl (by kernel_rfl) (fun _ _ _ h => h) (Or.inl ⟨by rfl, ?_⟩) ?_ ?_
  rotate_left
  ·intro w'
   go_simp
   with_reducible rfl
  rotate_left
  ·simp only [Act.put, List.setIfInBounds_toArray, List.set_cons_zero, List.set_cons_succ]
   rfl
  refine take_ (i := 19) (N := some 36) (v := ?_) (a' := ?_) (bb 56 20) rfl rfl (by kernel_rfl) (fun _ _ _ h => h) (Or.inl ⟨by rfl, ?_⟩) hHeld ?_ ?_
  rotate_left
  ·rintro w' ⟨z0, z1, z6, z7, k1, k2, k3, k4⟩
   go_simp
   with_reducible rfl
  rotate_left
  ·simp only [Act.put, List.setIfInBounds_toArray, List.set_cons_zero, List.set_cons_succ]
   rfl
  refine pure_ (i := 20) (N := some 37) (v := ?_) (a' := ?_) (bb 56 21) rfl rfl (by kernel_rfl) (fun _ _ _ h => h) (Or.inl ⟨by rfl, ?_⟩) ?_ ?_
  rotate_left
  ·intro w'
   go_simp
   with_reducible rfl
  rotate_left
  ·simp only [Act.put, List.setIfInBounds_toArray, List.set_cons_zero, List.set_cons_succ]
   rfl
  refine pure_ (i := 21) (N := some 38) (v := ?_) (a' := ?_) (bb 56 22) rfl rfl (by kernel_rfl) (fun _ _ _ h => h) (Or.inl ⟨by rfl, ?_⟩) ?_ ?_
  rotate_left
  ·intro w'
   go_simp
   with_reducible rfl
  rotate_left
  ·simp only [Act.put, List.setIfInBounds_toArray, List.set_cons_zero, List.set_cons_succ]
   rfl
  refine pure_ (i := 22) (N := some 39) (v := ?_) (a' := ?_) (bb 56 23) rfl rfl (by kernel_rfl) (fun _ _ _ h => h) (Or.inl ⟨by rfl, ?_⟩) ?_ ?_
  rotate_left
  ·intro w'
   go_simp
   with_reducible rfl
  rotate_left
  ·simp only [Act.put, List.setIfInBounds_toArray, List.set_cons_zero, List.set_cons_succ]
   rfl
  refine pure_ (i := 23) (N := some 40) (v := ?_) (a' := ?_) (bb 56 24) rfl rfl (by kernel_rfl) (fun _ _ _ h => h) (Or.inl ⟨by rfl, ?_⟩) ?_ ?_
  rotate_left
  ·intro w'
   go_simp
   with_reducible rfl
  rotate_left
  ·simp only [Act.put, List.setIfInBounds_toArray, List.set_cons_zero, List.set_cons_succ]
   rfl
  refine pure_ (i := 24) (N := some 41) (v := ?_) (a' := ?_) (bb 56 25) rfl rfl (by kernel_rfl) (fun _ _ _ h => h) (Or.inl ⟨by rfl, ?_⟩) ?_ ?_
  rotate_left
  ·intro w'
   go_simp
   with_reducible rfl
  rotate_left
  ·simp only [Act.put, List.setIfInBounds_toArray, List.set_cons_zero, List.set_cons_succ]
   rfl
  refine pure_ (i := 25) (N := some 42) (v := ?_) (a' := ?_) (bb 56 26) rfl rfl (by kernel_rfl) (fun _ _ _ h => h) (Or.inl ⟨by rfl, ?_⟩) ?_ ?_
  rotate_left
  ·intro w'
   go_simp
   with_reducible rfl
  rotate_left
  ·simp only [Act.put, List.setIfInBounds_toArray, List.set_cons_zero, List.set_cons_succ]
   rfl
  refine pure_ (i := 26) (N := some 43) (v := ?_) (a' := ?_) (bb 56 27) rfl rfl (by kernel_rfl) (fun _ _ _ h => h) (Or.inl ⟨by rfl, ?_⟩) ?_ ?_
  rotate_left
  ·intro w'
   go_simp
   with_reducible rfl
  rotate_left
  ·simp only [Act.put, List.setIfInBounds_toArray, List.set_cons_zero, List.set_cons_succ]
   rfl
  refine pure_ (i := 27) (N := some 44) (v := ?_) (a' := ?_) (bb 56 28) rfl rfl (by kernel_rfl) (fun _ _ _ h => h) (Or.inl ⟨by rfl, ?_⟩) ?_ ?_
  rotate_left
  ·intro w'
   go_simp
   with_reducible rfl
  rotate_left
  ·simp only [Act.put, List.setIfInBounds_toArray, List.set_cons_zero, List.set_cons_succ]
   rfl
  refine pure_ (i := 28) (N := some 45) (v := ?_) (a' := ?_) (bb 56 29) rfl rfl (by kernel_rfl) (fun _ _ _ h => h) (Or.inl ⟨by rfl, ?_⟩) ?_ ?_
  rotate_left
  ·intro w'
   go_simp
   with_reducible rfl
  rotate_left
  ·simp only [Act.put, List.setIfInBounds_toArray, List.set_cons_zero, List.set_cons_succ]
   rfl
  refine pure_ (i := 29) (N := some 46) (v := ?_) (a' := ?_) (bb 56 30) rfl rfl (by kernel_rfl) (fun _ _ _ h => h) (Or.inl ⟨by rfl, ?_⟩) ?_ ?_
  rotate_left
  ·intro w'
   go_simp
   with_reducible rfl
  rotate_left
  ·simp only [Act.put, List.setIfInBounds_toArray, List.set_cons_zero, List.set_cons_succ]
   rfl
  refine pure_ (i := 30) (N := some 47) (v := ?_) (a' := ?_) (bb 56 31) rfl rfl (by kernel_rfl) (fun _ _ _ h => h) (Or.inl ⟨by rfl, ?_⟩) ?_ ?_
  rotate_left
  ·intro w'
   go_simp
   with_reducible rfl
  rotate_left
  ·simp only [Act.put, List.setIfInBounds_toArray, List.set_cons_zero, List.set_cons_succ]
   rfl
  refine pure_ (i := 31) (N := some 48) (v := ?_) (a' := ?_) (bb 56 32) rfl rfl (by kernel_rfl) (fun _ _ _ h => h) (Or.inl ⟨by rfl, ?_⟩) ?_ ?_
  rotate_left
  ·intro w'
   go_simp
   with_reducible rfl
  rotate_left
  ·simp only [Act.put, List.setIfInBounds_toArray, List.set_cons_zero, List.set_cons_succ]
   rfl
  refine pure_ (i := 32) (N := some 49) (v := ?_) (a' := ?_) (bb 56 33) rfl rfl (by kernel_rfl) (fun _ _ _ h => h) (Or.inl ⟨by rfl, ?_⟩) ?_ ?_
  rotate_left
  ·intro w'
   go_simp
   with_reducible rfl
  rotate_left
  ·simp only [Act.put, List.setIfInBounds_toArray, List.set_cons_zero, List.set_cons_succ]
   rfl
  refine pure_ (i := 33) (N := some 50) (v := ?_) (a' := ?_) (bb 56 34) rfl rfl (by kernel_rfl) (fun _ _ _ h => h) (Or.inl ⟨by rfl, ?_⟩) ?_ ?_
  rotate_left
  ·intro w'
   go_simp
   with_reducible rfl
  rotate_left
  ·simp only [Act.put, List.setIfInBounds_toArray, List.set_cons_zero, List.set_cons_succ]
   rfl
  refine take_ (i := 34) (N := some 51) (v := ?_) (a' := ?_) (bb 56 35) rfl rfl (by kernel_rfl) (fun _ _ _ h => h) (Or.inl ⟨by rfl, ?_⟩) hHeld ?_ ?_
  rotate_left
  ·rintro w' ⟨z0, z1, z6, z7, k1, k2, k3, k4⟩
   go_simp
   with_reducible rfl
  rotate_left
  ·simp only [Act.put, List.setIfInBounds_toArray, List.set_cons_zero, List.set_cons_succ]
   rfl
  refine take_ (i := 35) (N := some 52) (v := ?_) (a' := ?_) (bb 56 36) rfl rfl (by kernel_rfl) (fun _ _ _ h => h) (Or.inl ⟨by rfl, ?_⟩) hHeld ?_ ?_
  rotate_left
  ·rintro w' ⟨z0, z1, z6, z7, k1, k2, k3, k4⟩
   go_simp
   with_reducible rfl
  rotate_left
  ·simp only [Act.put, List.setIfInBounds_toArray, List.set_cons_zero, List.set_cons_succ]
   rfl
  refine pure_ (i := 36) (N := some 53) (v := ?_) (a' := ?_) (bb 56 37) rfl rfl (by kernel_rfl) (fun _ _ _ h => h) (Or.inl ⟨by rfl, ?_⟩) ?_ ?_
  rotate_left
  ·intro w'
   go_simp
   with_reducible rfl
  rotate_left
  ·simp only [Act.put, List.setIfInBounds_toArray, List.set_cons_zero, List.set_cons_succ]
   rfl
  refine pure_ (i := 37) (N := some 54) (v := ?_) (a' := ?_) (bb 56 38) rfl rfl (by kernel_rfl) (fun _ _ _ h => h) (Or.inl ⟨by rfl, ?_⟩) ?_ ?_
  rotate_left
  ·intro w'
   go_simp
   with_reducible rfl
  rotate_left
  ·simp only [Act.put, List.setIfInBounds_toArray, List.set_cons_zero, List.set_cons_succ]
   rfl
  refine pure_ (i := 38) (N := some 55) (v := ?_) (a' := ?_) (bb 56 39) rfl rfl (by kernel_rfl) (fun _ _ _ h => h) (Or.inl ⟨by rfl, ?_⟩) ?_ ?_
  rotate_left
  ·intro w'
   go_simp
   with_reducible rfl
  rotate_left
  ·simp only [Act.put, List.setIfInBounds_toArray, List.set_cons_zero, List.set_cons_succ]
   rfl
  refine pure_ (i := 39) (N := some 56) (v := ?_) (a' := ?_) (bb 56 40) rfl rfl (by kernel_rfl) (fun _ _ _ h => h) (Or.inl ⟨by rfl, ?_⟩) ?_ ?_
  rotate_left
  ·intro w'
   go_simp
   with_reducible rfl
  rotate_left
  ·simp only [Act.put, List.setIfInBounds_toArray, List.set_cons_zero, List.set_cons_succ]
   rfl
  refine pure_ (i := 40) (N := some 57) (v := ?_) (a' := ?_) (bb 56 41) rfl rfl (by kernel_rfl) (fun _ _ _ h => h) (Or.inl ⟨by rfl, ?_⟩) ?_ ?_
  rotate_left
  ·intro w'
   go_simp
   with_reducible rfl
  rotate_left
  ·simp only [Act.put, List.setIfInBounds_toArray, List.set_cons_zero, List.set_cons_succ]
   rfl
  refine take_ (i := 41) (N := some 58) (v := ?_) (a' := ?_) (bb 56 42) rfl rfl (by kernel_rfl) (fun _ _ _ h => h) (Or.inl ⟨by rfl, ?_⟩) hHeld ?_ ?_
  rotate_left
  ·rintro w' ⟨z0, z1, z6, z7, k1, k2, k3, k4⟩
   go_simp
   with_reducible rfl
  rotate_left
  ·simp only [Act.put, List.setIfInBounds_toArray, List.set_cons_zero, List.set_cons_succ]
   rfl
  refine pure_ (i := 42) (N := some 59) (v := ?_) (a' := ?_) (bb 56 43) rfl rfl (by kernel_rfl) (fun _ _ _ h => h) (Or.inl ⟨by rfl, ?_⟩) ?_ ?_
  rotate_left
  ·intro w'
   go_simp
   with_reducible rfl
  rotate_left
  ·simp only [Act.put, List.setIfInBounds_toArray, List.set_cons_zero, List.set_cons_succ]
   rfl
  refine pure_ (i := 43) (N := some 60) (v := ?_) (a' := ?_) (bb 56 44) rfl rfl (by kernel_rfl) (fun _ _ _ h => h) (Or.inl ⟨by rfl, ?_⟩) ?_ ?_
  rotate_left
  ·intro w'
   go_simp
   with_reducible rfl
  rotate_left
  ·simp only [Act.put, List.setIfInBounds_toArray, List.set_cons_zero, List.set_cons_succ]
   rfl
  refine pure_ (i := 44) (N := some 61) (v := ?_) (a' := ?_) (bb 56 45) rfl rfl (by kernel_rfl) (fun _ _ _ h => h) (Or.inl ⟨by rfl, ?_⟩) ?_ ?_
  rotate_left
  ·intro w'
   go_simp
   with_reducible rfl
  rotate_left
  ·simp only [Act.put, List.setIfInBounds_toArray, List.set_cons_zero, List.set_cons_succ]
   rfl
  refine pure_ (i := 45) (N := some 62) (v := ?_) (a' := ?_) (bb 56 46) rfl rfl (by kernel_rfl) (fun _ _ _ h => h) (Or.inl ⟨by rfl, ?_⟩) ?_ ?_
  rotate_left
  ·intro w'
   go_simp
   with_reducible rfl
  rotate_left
  ·simp only [Act.put, List.setIfInBounds_toArray, List.set_cons_zero, List.set_cons_succ]
   rfl
  refine pure_ (i := 46) (N := some 63) (v := ?_) (a' := ?_) (bb 56 47) rfl rfl (by kernel_rfl) (fun _ _ _ h => h) (Or.inl ⟨by rfl, ?_⟩) ?_ ?_
  rotate_left
  ·intro w'
   go_simp
   with_reducible rfl
  rotate_left
  ·simp only [Act.put, List.setIfInBounds_toArray, List.set_cons_zero, List.set_cons_succ]
   rfl
  refine take_ (i := 47) (N := some 64) (v := ?_) (a' := ?_) (bb 56 48) rfl rfl (by kernel_rfl) (fun _ _ _ h => h) (Or.inl ⟨by rfl, ?_⟩) hHeld ?_ ?_
  rotate_left
  ·rintro w' ⟨z0, z1, z6, z7, k1, k2, k3, k4⟩
   go_simp
   with_reducible rfl
  rotate_left
  ·simp only [Act.put, List.setIfInBounds_toArray, List.set_cons_zero, List.set_cons_succ]
   rfl
  refine pure_ (i := 48) (N := some 65) (v := ?_) (a' := ?_) (bb 56 49) rfl rfl (by kernel_rfl) (fun _ _ _ h => h) (Or.inl ⟨by rfl, ?_⟩) ?_ ?_
  rotate_left
  ·intro w'
   go_simp
   with_reducible rfl
  rotate_left
  ·simp only [Act.put, List.setIfInBounds_toArray, List.set_cons_zero, List.set_cons_succ]
   rfl
  refine pure_ (i := 49) (N := some 66) (v := ?_) (a' := ?_) (bb 56 50) rfl rfl (by kernel_rfl) (fun _ _ _ h => h) (Or.inl ⟨by rfl, ?_⟩) ?_ ?_
  rotate_left
  ·intro w'
   go_simp
   with_reducible rfl
  rotate_left
  ·simp only [Act.put, List.setIfInBounds_toArray, List.set_cons_zero, List.set_cons_succ]
   rfl
  refine pure_ (i := 50) (N := some 67) (v := ?_) (a' := ?_) (bb 56 51) rfl rfl (by kernel_rfl) (fun _ _ _ h => h) (Or.inl ⟨by rfl, ?_⟩) ?_ ?_
  rotate_left
  ·intro w'
   go_simp
   with_reducible rfl
  rotate_left
  ·simp only [Act.put, List.setIfInBounds_toArray, List.set_cons_zero, List.set_cons_succ]
   rfl
  refine pure_ (i := 51) (N := some 68) (v := ?_) (a' := ?_) (bb 56 52) rfl rfl (by kernel_rfl) (fun _ _ _ h => h) (Or.inl ⟨by rfl, ?_⟩) ?_ ?_
  rotate_left
  ·intro w'
   go_simp
   with_reducible rfl
  rotate_left
  ·simp only [Act.put, List.setIfInBounds_toArray, List.set_cons_zero, List.set_cons_succ]
   rfl
  refine take_ (i := 52) (N := some 69) (v := ?_) (a' := ?_) (bb 56 53) rfl rfl (by kernel_rfl) (fun _ _ _ h => h) (Or.inl ⟨by rfl, ?_⟩) hHeld ?_ ?_
  rotate_left
  ·rintro w' ⟨z0, z1, z6, z7, k1, k2, k3, k4⟩
   go_simp
   with_reducible rfl
  rotate_left
  ·simp only [Act.put, List.setIfInBounds_toArray, List.set_cons_zero, List.set_cons_succ]
   rfl
  refine pure_ (i := 53) (N := some 70) (v := ?_) (a' := ?_) (bb 56 54) rfl rfl (by kernel_rfl) (fun _ _ _ h => h) (Or.inl ⟨by rfl, ?_⟩) ?_ ?_
  rotate_left
  ·intro w'
   go_simp
   with_reducible rfl
  rotate_left
  ·simp only [Act.put, List.setIfInBounds_toArray, List.set_cons_zero, List.set_cons_succ]
   rfl
  refine pure_ (i := 54) (N := some 71) (v := ?_) (a' := ?_) (bb 56 55) rfl rfl (by kernel_rfl) (fun _ _ _ h => h) (Or.inl ⟨by rfl, ?_⟩) ?_ ?_
  rotate_left
  ·intro w'
   go_simp
   with_reducible rfl
  rotate_left
  ·simp only [Act.put, List.setIfInBounds_toArray, List.set_cons_zero, List.set_cons_succ]
   rfl
  refine pure_ (i := 55) (N := some 2) (v := ?_) (a' := ?_) (bb 56 56) rfl rfl (by kernel_rfl) (fun _ _ _ h => h) (Or.inl ⟨by rfl, ?_⟩) ?_ ?_
  rotate_left
  ·intro w'
   go_simp
   with_reducible rfl
  rotate_left
  ·simp only [Act.put, List.setIfInBounds_toArray, List.set_cons_zero, List.set_cons_succ]
   rfl
  refine done_ (by kernel_rfl) ?_
  go_wp2_with (fail)
  go_ret
  exact ⟨by simp, HB2.out.trans (HB5.out.mono HB2.out.size)⟩
end Go.Proofs.YthdiiiopjkaifaaGreatDoor.Pl

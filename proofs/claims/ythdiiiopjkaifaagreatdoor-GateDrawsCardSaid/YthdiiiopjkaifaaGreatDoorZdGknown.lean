/-
 wicketmanlaw19.known: the chapter's example stands.
-/
import Derived.Test.YthdiiiopjkaifaaGreatDoorZdReal
import Derived.Test.YthdiiiopjkaifaaGreatDoorZdGansw
import Derived.Deep.RegionWith
import Derived.Test.YthdiiiopjkaifaaGreatDoorZdGbusy
import Derived.Test.YthdiiiopjkaifaaGreatDoorZdPall11
import Derived.Test.YthdiiiopjkaifaaGreatDoorZdPall5
namespace Go.Proofs.YthdiiiopjkaifaaGreatDoor.Pl
open Go Go.RowKit Go.Proofs.YthdiiiopjkaifaaGreatDoor.St Go.Proofs.YthdiiiopjkaifaaGreatDoor.Pall Go.Proofs.YthdiiiopjkaifaaGreatDoor.Inv Go.Proofs.YthdiiiopjkaifaaGreatDoor.MapS Go.Proofs.YthdiiiopjkaifaaGreatDoorW.PrintWords Go.Proofs.YthdiiiopjkaifaaGreatDoorW.PrintLast
set_option linter.unusedVariables false
set_option linter.unusedSimpArgs false
/-- what each operation of the call's line leaves -/
def knT (K G B : Nat) (out : List Int) : List (Nat × (Value → World → Prop)) :=
 [(0, fun v _ => v = .agg #[.int .u64 5, .int .u64 9, .int .u64 0, .int .i64 1, .slice (some ⟨K, 0, none⟩) 16 16]), (1, fun v _ => v = .pointer (some ⟨G, 4, none⟩)), (2, fun v _ => v = .slice (some ⟨K, 0, none⟩) 16 16), (4, fun v _ => v = .agg #[.int .u64 0, .slice none 0 0, .slice none 0 0]),
  (5, fun v w => ∃ b fz, v = .slice (some ⟨b, 0, none⟩) 28 28 ∧ B ≤ b ∧ w.heap[b]? = some (.cells ((knRaw.map (Value.int .u8)).toArray) 5 fz)),
  (6, fun v w => ∃ b fz, v = .slice (some ⟨b, 0, none⟩) 28 28 ∧ B ≤ b ∧ w.heap[b]? = some (.cells ((knRaw.map (Value.int .u8)).toArray) 5 fz)),
  (7, fun v w => ∃ u w1, v = .tuple #[u, .agg zOp, .bool false] ∧ Kd.R (Kd.int .u8) 5 w1 B (fun _ => True) u out ∧ Le 64 w1 w),
  (8, fun v w => ∃ u w1, v = .tuple #[u, .agg zOp, .bool false] ∧ Kd.R (Kd.int .u8) 5 w1 B (fun _ => True) u out ∧ Le 64 w1 w),
  (9, fun v w => ∃ w1, Kd.R (Kd.int .u8) 5 w1 B (fun _ => True) v out ∧ Le 64 w1 w),
  (10, fun v _ => v = .agg zOp), (11, fun v _ => v = .bool false),
  (12, fun v w => ∃ b cs, v = .pointer (some ⟨b, 0, none⟩) ∧ B ≤ b ∧ w.heap[b]? = some (.cells cs 64 (0, 0)) ∧ cs.size = 7),
  (13, fun v w => ∃ w1, Kd.R (Kd.int .u8) 5 w1 B (fun _ => True) v out ∧ Le 64 w1 w), (15, fun v _ => v = .bool false)]
theorem knT_mono (K G B : Nat) (out : List Int) (J : World → Prop) : TabMono J (Le 64) (knT K G B out) := by
 refine ⟨fun _ _ _ _ _ h => h, fun _ _ _ _ _ h => h, fun _ _ _ _ _ h => h, fun _ _ _ _ _ h => h, ?_, ?_, ?_, ?_, ?_, fun _ _ _ _ _ h => h, fun _ _ _ _ _ h => h, ?_, ?_, fun _ _ _ _ _ h => h, trivial⟩
 ·rintro u w w' _ hl ⟨b, fz, h1, hB, h2⟩
  obtain ⟨f1, h3⟩ := hl.keep b _ _ fz (by decide) h2
  exact ⟨b, f1, h1, hB, h3⟩
 ·rintro u w w' _ hl ⟨b, fz, h1, hB, h2⟩
  obtain ⟨f1, h3⟩ := hl.keep b _ _ fz (by decide) h2
  exact ⟨b, f1, h1, hB, h3⟩
 ·rintro u w w' _ hl ⟨v, w1, h1, h2, h3⟩
  exact ⟨v, w1, h1, h2, h3.trans hl⟩
 ·rintro u w w' _ hl ⟨v, w1, h1, h2, h3⟩
  exact ⟨v, w1, h1, h2, h3.trans hl⟩
 ·rintro u w w' _ hl ⟨w1, h2, h3⟩
  exact ⟨w1, h2, h3.trans hl⟩
 ·rintro u w w' _ hl ⟨b, cs, h1, hB, h2, h3⟩
  obtain ⟨c1, h4, h5⟩ := hl.box b cs h2
  exact ⟨b, c1, h1, hB, h4, h5.trans h3⟩
 ·rintro u w w' _ hl ⟨w1, h2, h3⟩
  exact ⟨w1, h2, h3.trans hl⟩
theorem set7_below {b : Nat} {w w2 : World} (hJ : Below w2.heap.size w2 w) (hB : w2.heap.size ≤ b) (v0 v1 v2 v3 v4 v5 v6 : Value) :
  Below w2.heap.size w2 (((((((w.setCell ⟨b, 0, none⟩ v0).setCell ⟨b, 1, none⟩ v1).setCell ⟨b, 2, none⟩ v2).setCell ⟨b, 3, none⟩ v3).setCell ⟨b, 4, none⟩ v4).setCell ⟨b, 5, none⟩ v5).setCell ⟨b, 6, none⟩ v6) :=
 ((((((hJ.setCell (p := ⟨b, 0, none⟩) hB _).setCell (p := ⟨b, 1, none⟩) hB _).setCell (p := ⟨b, 2, none⟩) hB _).setCell (p := ⟨b, 3, none⟩) hB _).setCell (p := ⟨b, 4, none⟩) hB _).setCell (p := ⟨b, 5, none⟩) hB _).setCell (p := ⟨b, 6, none⟩) hB _
theorem Le.set7 {T : TypeId} {b : Nat} {w : World} {cs : Array Value} (hb : w.heap[b]? = some (.cells cs T (0, 0))) (v0 v1 v2 v3 v4 v5 v6 : Value) :
  Le T w (((((((w.setCell ⟨b, 0, none⟩ v0).setCell ⟨b, 1, none⟩ v1).setCell ⟨b, 2, none⟩ v2).setCell ⟨b, 3, none⟩ v3).setCell ⟨b, 4, none⟩ v4).setCell ⟨b, 5, none⟩ v5).setCell ⟨b, 6, none⟩ v6) := by
 have b1 := blk_set hb 0 v0
 have b2 := blk_set b1 1 v1
 have b3 := blk_set b2 2 v2
 have b4 := blk_set b3 3 v3
 have b5 := blk_set b4 4 v4
 have b6 := blk_set b5 5 v5
 exact ((((((Le.set hb 0 v0).trans (Le.set b1 1 v1)).trans (Le.set b2 2 v2)).trans (Le.set b3 3 v3)).trans (Le.set b4 4 v4)).trans (Le.set b5 5 v5)).trans (Le.set b6 6 v6)
theorem C_of_blk {w : World} {b : Nat} {C : Array Value} {e : TypeId} {fz : Nat × Nat} (hb : w.heap[b]? = some (.cells C e fz)) (n : Nat) (xs : List Int) (hn : xs.length = n ∧ n ≤ 9223372036854775807) (hC : C = (xs.map (Value.int .u8)).toArray) : Kd.C (Kd.int .u8) w (some ⟨b, 0, none⟩) n xs := by
 refine Kd.C_of_reads (d := (0 : Int)) (h1 := fun _ => rfl) ⟨hn.1, hn.2, fun _ => ⟨_, rfl, fun i h' => ?_⟩⟩
 have e1 : (⟨b, 0, none⟩ : Addr).add i = ⟨b, i, none⟩ := by unfold Addr.add; split <;> simp_all
 rw [e1]
 have hcell : w.cell? ⟨b, i, none⟩ = C[i]? := by
  simp only [World.cell?, hb]
  rfl
 rw [hcell]
 subst hC
 have := hn.1
 simp [List.getD, (by omega : i < xs.length)]
theorem path_x : ∀ b1 b2 b3 b4 b5, at_ (pathsL b1 b2 b3 b4 b5) ⟨#[47, 120]⟩ = none := fun b1 b2 b3 b4 b5 => by simp [at_, pathsL]
/-- the call of the example -/
theorem kn_answer (W : World) (hS : Sh W) (hT : Tb W) (K B : Nat) (mk : Value) (hk : Kd.C (Kd.int .u8) W (some ⟨K, 0, none⟩) 16 knKey) (hr : Kd.C (Kd.int .u8) W (some ⟨B, 0, none⟩) 28 knRaw) (out : List Int) (hb : gate_bytes.f 5 9 0 1 knKey 404 ⟨#[]⟩ false ⟨#[]⟩ ⟨#[]⟩ ⟨#[]⟩ = some out) :
  Calls Tryz.prog 28 #[.agg #[.int .u64 5, .int .u64 9, .int .u64 0, .int .i64 1, .slice (some ⟨K, 0, none⟩) 16 16], mk, .agg #[.int .u64 0, .slice none 0 0, .slice none 0 0], .slice (some ⟨B, 0, none⟩) 28 28, .slice none 0 0] W (AnsNo W out) := by
 have hp := kn_parse
 obtain ⟨⟨m, p, fs, bd, e⟩, hq, hx⟩ := Option.map_eq_some_iff.1 hp
 simp only [Prod.mk.injEq] at hx
 obtain ⟨rfl, rfl, hl, rfl, rfl⟩ := hx
 exact answer_none 5 9 0 1 (some ⟨K, 0, none⟩) 16 knKey mk #[.int .u64 0, .slice none 0 0, .slice none 0 0] _ _ _ rfl (some ⟨B, 0, none⟩) 28 knRaw (.slice none 0 0) W hk (by decide) hr (by decide) hS hT _ _ fs [] hq 404 rfl
  (fun A c B d W' hb _ _ _ _ => ask_missing _ _ A fs.length c B 0 d (.slice none 0 0) W' path_x) out hb
set_option maxRecDepth 100000 in
set_option maxHeartbeats 4000000 in
theorem known_any (W : World) (hS : Sh W) (hT : Tb W) : Calls Tryz.prog 13 #[] W fun e w' => e = .returned (.bool true) ∧ Below W.heap.size W w' := by
 have hz := fun (W : World) => (show (Instr.makeSlice 23 (.int .i64 16) (.int .i64 16)).run Tryz.prog W = .ok (.slice (some ⟨W.heap.size, 0, none⟩) 16 16) (W.alloc (.cells (madeCells (Value.int .u8 0).cells (16 * 1)) 5)) from zeros_run 16 (by decide) W)
 have hpg := kn_page
 obtain ⟨out, ho, hx⟩ := Option.bind_eq_some_iff.1 hpg
 obtain ⟨⟨st, pf, pb, pe⟩, hpo, hx2⟩ := Option.map_eq_some_iff.1 hx
 simp only [Prod.mk.injEq] at hx2
 obtain ⟨rfl, rfl⟩ := hx2
 have hsome := bz_same.1
 obtain ⟨bz, hbz⟩ := Option.isSome_iff_exists.1 hsome
 have HO := hid ho
 have HPO := hid hpo
 have HB1 := hid hbz
 clear hpg hx ho hpo hsome hbz
 go_enter Tryz.func13, Tryz.ntmps13
 go_upto_region 2 with (fail)
 have HX0 := hid (blk_new (W.alloc (.cells (madeCells #[.int .u8 0] 16) 5)) (.cells #[.int .u64 5, .int .u64 9, .int .u64 0, .int .i64 1, .slice (some ⟨W.heap.size, 0, none⟩) 16 16] 40))
 rw [size_alloc] at HX0
 have HK0 := hid (show Kd.C (Kd.int .u8) ((W.alloc (.cells (madeCells #[.int .u8 0] 16) 5)).alloc (.cells #[.int .u64 5, .int .u64 9, .int .u64 0, .int .i64 1, .slice (some ⟨W.heap.size, 0, none⟩) 16 16] 40)) (some ⟨W.heap.size, 0, none⟩) 16 knKey from Kd.C_alloc (C_of_blk (blk_new W (.cells (madeCells #[.int .u8 0] 16) 5)) 16 knKey (by decide) (by kernel_rfl)) _)
 have HB0 := hid (((Below.refl W.heap.size W).alloc (Nat.le_refl _) (.cells (madeCells #[.int .u8 0] 16) 5)).alloc (by rw [size_alloc]; omega) (.cells #[.int .u64 5, .int .u64 9, .int .u64 0, .int .i64 1, .slice (some ⟨W.heap.size, 0, none⟩) 16 16] 40))
 generalize hw2 : (W.alloc (.cells (madeCells #[.int .u8 0] 16) 5)).alloc (.cells #[.int .u64 5, .int .u64 9, .int .u64 0, .int .i64 1, .slice (some ⟨W.heap.size, 0, none⟩) 16 16] 40) = w2 at HX0 HK0 HB0 ⊢
 clear hw2 hz
 have HST := hid hS
 have HTT := hid hT
 have HRL := hid (fun (w : World) (hJ : Below w2.heap.size w2 w) => (show Calls Tryz.prog 29 #[.slice (some ⟨W.heap.size, 0, none⟩) 16 16] w fun e w' => ∃ v, e = .returned (makerV v) ∧ Kd.R (Kd.int .u8) 5 w' w.heap.size (fun _ => True) v knKey ∧ Below w.heap.size w w' from real_any ⟨W.heap.size, 0, none⟩ 16 knKey w (Kd.C_below HK0.out hJ) (by decide) (by decide)))
 have HAN := hid (fun (w : World) (hJ : Below w2.heap.size w2 w) (mk : Value) (b : Nat) (fz : Nat × Nat) (hb : w.heap[b]? = some (.cells ((knRaw.map (Value.int .u8)).toArray) 5 fz)) => kn_answer w (hS.of_below (HB0.out.trans (hJ.mono HB0.out.size))) (hT.of_below (HB0.out.trans (hJ.mono HB0.out.size))) W.heap.size b mk (Kd.C_below HK0.out hJ) (C_of_blk hb 28 knRaw (by decide) rfl) out HO.out)
 have HCL := hid (fun (w : World) (hJ : Below w2.heap.size w2 w) => (And.intro (blk_cell ((hJ.block _ (lt_of_blk HX0.out)).trans HX0.out) 0) (And.intro (blk_cell ((hJ.block _ (lt_of_blk HX0.out)).trans HX0.out) 1) (And.intro (blk_cell ((hJ.block _ (lt_of_blk HX0.out)).trans HX0.out) 2) (And.intro (blk_cell ((hJ.block _ (lt_of_blk HX0.out)).trans HX0.out) 3) (blk_cell ((hJ.block _ (lt_of_blk HX0.out)).trans HX0.out) 4))))))
 have hu1 := Tryz.underlying40
 have hu2 := Tryz.underlying64
 have hu3 := Tryz.underlying54
 clear hS hT
 refine region_tab (A := ?A) (n := 16) [(10, 0), (11, 1), (12, 2), (13, 3), (14, 4), (15, 5), (16, 6), (17, 7), (9, 8), (18, 9), (19, 10), (20, 11), (3, 12), (2, 13), (4, 15)] (Below w2.heap.size w2) (Le 64) (knT W.heap.size (W.heap.size + 1) w2.heap.size out) ?hA (by decide) (by kernel_rfl) (by kernel_rfl) rfl (knT_mono _ _ _ _ _) (Mut.drew w2).all ?hs ?fin
 case hA =>
  intro f
  simp only [puts, List.setIfInBounds_toArray, List.set_cons_zero, List.set_cons_succ]
  rfl
 case hs =>
  refine From.cons [] rfl (by kernel_rfl) (fun f w hJ hd K hK => ?_) ?_
  ·obtain ⟨z0, z1, z2, z3, z4⟩ := HCL.out w hJ
   go_simp
   exact hK.out _ (.agg #[.int .u64 5, .int .u64 9, .int .u64 0, .int .i64 1, .slice (some ⟨W.heap.size, 0, none⟩) 16 16]) _ rfl (hJ) (Le.refl _) (rfl)
  refine From.cons [] rfl (by kernel_rfl) (fun f w hJ hd K hK => ?_) ?_
  ·go_simp
   exact hK.out _ (.pointer (some ⟨W.heap.size + 1, 4, none⟩)) _ rfl (hJ) (Le.refl _) (rfl)
  refine From.cons [1] rfl (by kernel_rfl) (fun f w hJ hd K hK => ?_) ?_
  ·obtain ⟨z0, z1, z2, z3, z4⟩ := HCL.out w hJ
   obtain ⟨f, rfl⟩ := openU (show f 1 = (.pointer (some ⟨W.heap.size + 1, 4, none⟩)) from hd.1)
   have q1 : (updV f 1 (.pointer (some ⟨W.heap.size + 1, 4, none⟩))) 1 = .pointer (some ⟨W.heap.size + 1, 4, none⟩) := rfl
   go_simp
   exact hK.out _ (.slice (some ⟨W.heap.size, 0, none⟩) 16 16) _ rfl (hJ) (Le.refl _) (rfl)
  refine From.cons [2] rfl (by kernel_rfl) (fun f w hJ hd K hK => ?_) ?_
  ·obtain ⟨f, rfl⟩ := openU (show f 2 = (.slice (some ⟨W.heap.size, 0, none⟩) 16 16) from hd.1)
   have q2 : (updV f 2 (.slice (some ⟨W.heap.size, 0, none⟩) 16 16)) 2 = .slice (some ⟨W.heap.size, 0, none⟩) 16 16 := rfl
   go_simp
   go_wp2_with (go_at_call 29; refine (HRL.out w hJ).mono ?_; rintro e w9 ⟨v, rfl, hv, hb⟩)
   exact hK.out _ (makerV v) _ rfl (hJ.trans (hb.mono hJ.size)) (Le.of_below hb) (trivial)
  refine From.cons [] rfl (by kernel_rfl) (fun f w hJ hd K hK => ?_) ?_
  ·go_simp
   exact hK.out _ (.agg #[.int .u64 0, .slice none 0 0, .slice none 0 0]) _ rfl (hJ) (Le.refl _) (rfl)
  refine From.cons [] rfl (by kernel_rfl) (fun f w hJ hd K hK => ?_) ?_
  ·go_simp
   exact hK.out _ (.slice (some ⟨w.heap.size, 0, none⟩) 28 28) _ rfl (hJ.trans (((Below.refl w.heap.size w).alloc (Nat.le_refl _) _).mono hJ.size)) (Le.of_below ((Below.refl w.heap.size w).alloc (Nat.le_refl _) _)) (⟨w.heap.size, (0, 0), rfl, hJ.size, blk_new _ _⟩)
  refine From.cons [5] rfl (by kernel_rfl) (fun f w hJ hd K hK => ?_) ?_
  ·obtain ⟨b, fz, g5, hB, hb⟩ := hd.1
   obtain ⟨f1, hf1⟩ := freeze_blk hb 28 1
   have kc : (convert 23 23 (.slice (some ⟨b, 0, none⟩) 28 28)).run Tryz.prog w = .ok (.slice (some ⟨b, 0, none⟩) 28 28) (w.freeze ⟨b, 28, none⟩ 1) := convert_lit w b 23 5 _ fz 28 28 hb Tryz.underlying23 Tryz.underlying5
   obtain ⟨f, rfl⟩ := openU g5
   have q5 : (updV f 5 (.slice (some ⟨b, 0, none⟩) 28 28)) 5 = .slice (some ⟨b, 0, none⟩) 28 28 := rfl
   go_simp
   exact hK.out _ (.slice (some ⟨b, 0, none⟩) 28 28) _ rfl (hJ.trans (freeze_below hJ.size hB)) (Le.freeze (by decide) hb _ _) (⟨b, f1, rfl, hB, hf1⟩)
  refine From.cons [0, 3, 4, 6, 3] rfl (by kernel_rfl) (fun f w hJ hd K hK => ?_) ?_
  ·obtain ⟨b, fz, g6, hB, hb⟩ := hd.2.2.2.1
   have g0 : f 0 = .agg #[.int .u64 5, .int .u64 9, .int .u64 0, .int .i64 1, .slice (some ⟨W.heap.size, 0, none⟩) 16 16] := hd.1
   have g4 : f 4 = (.agg #[.int .u64 0, .slice none 0 0, .slice none 0 0]) := hd.2.2.1
   clear hd
   obtain ⟨f, rfl⟩ := openU g6
   obtain ⟨f, rfl⟩ := openU (show f 4 = (.agg #[.int .u64 0, .slice none 0 0, .slice none 0 0]) from g4)
   obtain ⟨f, rfl⟩ := openU (show f 0 = (.agg #[.int .u64 5, .int .u64 9, .int .u64 0, .int .i64 1, .slice (some ⟨W.heap.size, 0, none⟩) 16 16]) from g0)
   have q0 : (updV (updV (updV f 6 (.slice (some ⟨b, 0, none⟩) 28 28)) 4 (.agg #[.int .u64 0, .slice none 0 0, .slice none 0 0])) 0 (.agg #[.int .u64 5, .int .u64 9, .int .u64 0, .int .i64 1, .slice (some ⟨W.heap.size, 0, none⟩) 16 16])) 0 = .agg #[.int .u64 5, .int .u64 9, .int .u64 0, .int .i64 1, .slice (some ⟨W.heap.size, 0, none⟩) 16 16] := rfl
   have q4 : (updV (updV (updV f 6 (.slice (some ⟨b, 0, none⟩) 28 28)) 4 (.agg #[.int .u64 0, .slice none 0 0, .slice none 0 0])) 0 (.agg #[.int .u64 5, .int .u64 9, .int .u64 0, .int .i64 1, .slice (some ⟨W.heap.size, 0, none⟩) 16 16])) 4 = (.agg #[.int .u64 0, .slice none 0 0, .slice none 0 0]) := rfl
   have q6 : (updV (updV (updV f 6 (.slice (some ⟨b, 0, none⟩) 28 28)) 4 (.agg #[.int .u64 0, .slice none 0 0, .slice none 0 0])) 0 (.agg #[.int .u64 5, .int .u64 9, .int .u64 0, .int .i64 1, .slice (some ⟨W.heap.size, 0, none⟩) 16 16])) 6 = .slice (some ⟨b, 0, none⟩) 28 28 := rfl
   have q3 : (updV (updV (updV f 6 (.slice (some ⟨b, 0, none⟩) 28 28)) 4 (.agg #[.int .u64 0, .slice none 0 0, .slice none 0 0])) 0 (.agg #[.int .u64 5, .int .u64 9, .int .u64 0, .int .i64 1, .slice (some ⟨W.heap.size, 0, none⟩) 16 16])) 3 = f 3 := rfl
   go_simp
   go_wp2_with (go_at_call 28; refine (HAN.out w hJ _ b fz hb).mono ?_; rintro e w9 ⟨u, rfl, hu, hb9⟩)
   exact hK.out _ (.tuple #[u, .agg zOp, .bool false]) _ rfl (hJ.trans (hb9.mono hJ.size)) (Le.of_below hb9) (⟨u, w9, rfl, Kd.R_lower hu hJ.size, Le.refl _⟩)
  refine From.cons [7] rfl (by kernel_rfl) (fun f w hJ hd K hK => ?_) ?_
  ·obtain ⟨u, w1, g, h1, h2⟩ := hd.1
   obtain ⟨f, rfl⟩ := openU g
   have q : (updV f 7 (.tuple #[u, .agg zOp, .bool false])) 7 = (.tuple #[u, .agg zOp, .bool false]) := rfl
   go_simp
   exact hK.out _ (.tuple #[u, .agg zOp, .bool false]) _ rfl (hJ) (Le.refl _) (⟨u, w1, rfl, h1, h2⟩)
  refine From.cons [8] rfl (by kernel_rfl) (fun f w hJ hd K hK => ?_) ?_
  ·obtain ⟨u, w1, g, h1, h2⟩ := hd.1
   obtain ⟨f, rfl⟩ := openU g
   have q : (updV f 8 (.tuple #[u, .agg zOp, .bool false])) 8 = (.tuple #[u, .agg zOp, .bool false]) := rfl
   go_simp
   exact hK.out _ u _ rfl (hJ) (Le.refl _) (⟨w1, h1, h2⟩)
  refine From.cons [8] rfl (by kernel_rfl) (fun f w hJ hd K hK => ?_) ?_
  ·obtain ⟨u, w1, g, h1, h2⟩ := hd.1
   obtain ⟨f, rfl⟩ := openU g
   have q : (updV f 8 (.tuple #[u, .agg zOp, .bool false])) 8 = (.tuple #[u, .agg zOp, .bool false]) := rfl
   go_simp
   exact hK.out _ (.agg zOp) _ rfl (hJ) (Le.refl _) (rfl)
  refine From.cons [8] rfl (by kernel_rfl) (fun f w hJ hd K hK => ?_) ?_
  ·obtain ⟨u, w1, g, h1, h2⟩ := hd.1
   obtain ⟨f, rfl⟩ := openU g
   have q : (updV f 8 (.tuple #[u, .agg zOp, .bool false])) 8 = (.tuple #[u, .agg zOp, .bool false]) := rfl
   go_simp
   exact hK.out _ (.bool false) _ rfl (hJ) (Le.refl _) (rfl)
  refine From.cons [] rfl (by kernel_rfl) (fun f w hJ hd K hK => ?_) ?_
  ·go_simp
   exact hK.out _ (.pointer (some ⟨w.heap.size, 0, none⟩)) _ rfl (hJ.trans (((Below.refl w.heap.size w).alloc (Nat.le_refl _) _).mono hJ.size)) (Le.of_below ((Below.refl w.heap.size w).alloc (Nat.le_refl _) _)) (⟨w.heap.size, _, rfl, hJ.size, blk_new _ _, rfl⟩)
  refine From.cons [9, 7, 0, 1, 2, 3, 4, 5, 6, 7, 8, 9, 12] rfl (by kernel_rfl) (fun f w hJ hd K hK => ?_) ?_
  ·obtain ⟨w1, h1, h2⟩ := hd.1
   have q : f 9 = f 9 := rfl
   go_simp
   exact hK.out _ (f 9) _ rfl (hJ) (Le.refl _) (⟨w1, h1, h2⟩)
  refine From.cons [12, 10, 13, 0, 1, 2, 3, 4, 5, 6, 7, 8, 9, 10, 12, 13] rfl (by kernel_rfl) (fun f w hJ hd K hK => ?_) ?_
  ·obtain ⟨b, cs, g12, hB, hbx, hsz⟩ := hd.1
   have g10 : f 10 = (.agg #[.int .i64 0, .string ⟨#[]⟩, .string ⟨#[]⟩, .string ⟨#[]⟩, .slice none 0 0, .slice none 0 0, .string ⟨#[]⟩]) := hd.2.1
   clear hd
   obtain ⟨f, rfl⟩ := openU g12
   obtain ⟨f, rfl⟩ := openU (show f 10 = (.agg #[.int .i64 0, .string ⟨#[]⟩, .string ⟨#[]⟩, .string ⟨#[]⟩, .slice none 0 0, .slice none 0 0, .string ⟨#[]⟩]) from g10)
   have q12 : (updV (updV f 10 (.agg #[.int .i64 0, .string ⟨#[]⟩, .string ⟨#[]⟩, .string ⟨#[]⟩, .slice none 0 0, .slice none 0 0, .string ⟨#[]⟩])) 12 (.pointer (some ⟨b, 0, none⟩))) 12 = .pointer (some ⟨b, 0, none⟩) := rfl
   have q10 : (updV (updV f 10 (.agg #[.int .i64 0, .string ⟨#[]⟩, .string ⟨#[]⟩, .string ⟨#[]⟩, .slice none 0 0, .slice none 0 0, .string ⟨#[]⟩])) 12 (.pointer (some ⟨b, 0, none⟩))) 10 = (.agg #[.int .i64 0, .string ⟨#[]⟩, .string ⟨#[]⟩, .string ⟨#[]⟩, .slice none 0 0, .slice none 0 0, .string ⟨#[]⟩]) := rfl
   have k0 := (blk_cell hbx 0).trans (Array.getElem?_eq_getElem (by omega : 0 < cs.size))
   have j0 := blk_frozen hbx 0
   have k1 := (blk_cell hbx 1).trans (Array.getElem?_eq_getElem (by omega : 1 < cs.size))
   have j1 := blk_frozen hbx 1
   have k2 := (blk_cell hbx 2).trans (Array.getElem?_eq_getElem (by omega : 2 < cs.size))
   have j2 := blk_frozen hbx 2
   have k3 := (blk_cell hbx 3).trans (Array.getElem?_eq_getElem (by omega : 3 < cs.size))
   have j3 := blk_frozen hbx 3
   have k4 := (blk_cell hbx 4).trans (Array.getElem?_eq_getElem (by omega : 4 < cs.size))
   have j4 := blk_frozen hbx 4
   have k5 := (blk_cell hbx 5).trans (Array.getElem?_eq_getElem (by omega : 5 < cs.size))
   have j5 := blk_frozen hbx 5
   have k6 := (blk_cell hbx 6).trans (Array.getElem?_eq_getElem (by omega : 6 < cs.size))
   have j6 := blk_frozen hbx 6
   go_simp
   exact hK.out _ undef _ rfl (set7_below hJ hB _ _ _ _ _ _ _) (Le.set7 hbx _ _ _ _ _ _ _) trivial
  refine From.cons [11, 14, 0, 1, 2, 3, 4, 5, 6, 7, 8, 9, 10, 11, 12, 13, 14] rfl (by kernel_rfl) (fun f w hJ hd K hK => ?_) ?_
  ·obtain ⟨f, rfl⟩ := openU (show f 11 = (.bool false) from hd.1)
   have q11 : (updV f 11 (.bool false)) 11 = .bool false := rfl
   go_simp
   exact hK.out _ (.bool false) _ rfl (hJ) (Le.refl _) (rfl)
  exact From.nil (by kernel_rfl)
 case fin =>
  intro f w hJ hf
  obtain ⟨w1, h1, h2⟩ := hf 13 (by decide)
  obtain ⟨A, c, g13, hc, hC⟩ := Le.C h1 (by decide) h2
  obtain ⟨f, rfl⟩ := openU g13
  obtain ⟨f, rfl⟩ := openU (show f 15 = (.bool false) from hf 15 (by decide))
  clear hf h1 h2 g13
  have q13 : (updV (updV f 15 (.bool false)) 13 (.slice A out.length c)) 13 = .slice A out.length c := rfl
  have q15 : (updV (updV f 15 (.bool false)) 13 (.slice A out.length c)) 15 = .bool false := rfl
  have hu4 := Tryz.underlying71
  have HBw := hid (HB0.out.trans (hJ.mono HB0.out.size))
  have HPR := hid (wicketmanref10_Parse.calls 1000 (fun _ => True) A c out 404 pf pb 0 w (V_of_C hC hc) (HTT.out.of_below HBw.out) HPO.out)
  have HBY := hid (fun (w' : World) (h : Below W.heap.size W w') => gate_Busy.calls bz w' (HTT.out.of_below h) HB1.out)
  have HBZ := hid (fun (w' : World) (h : Below W.heap.size W w') => refbusy_any w' (HTT.out.of_below h) bz HB1.out)
  clear HRL HAN HCL HST HX0 HK0 HB1 HPO HO hC hc hJ HTT HB0
  generalize updV (updV f 15 (.bool false)) 13 (.slice A out.length c) = f at q13 q15 ⊢
  go_upto_region 4 with (go_at_call 30; refine HPR.out.mono ?_; rintro e w3 ⟨v1, v2, rfl, h1, h2, hb3⟩; have hs1 := Kd.R_reads h1; obtain ⟨A1, c1, rfl, _, _⟩ := hs1; obtain ⟨A2, c2, rfl, _, _⟩ := h2; have HB3 := hid (HBw.out.trans (hb3.mono HBw.out.size)); clear h1 hb3)
  have HX := hid (blk_new w3 (.cells #[.int .i64 404, .slice A1 pf.length c1, .slice A2 pb.length c2] 71))
  have HB4 := hid (HB3.out.alloc HB3.out.size (.cells #[.int .i64 404, .slice A1 pf.length c1, .slice A2 pb.length c2] 71))
  generalize hg : w3.heap.size = g at HX ⊢
  generalize w3.alloc (.cells #[.int .i64 404, .slice A1 pf.length c1, .slice A2 pb.length c2] 71) = w4 at HX HB4 ⊢
  clear hg HPR HB3 HBw
  have z0 := blk_cell HX.out 0
  go_region_with (first
   | (go_at_call 37; refine (HBY.out _ (HB4.out.trans ((Mut.drew w4).all.mono HB4.out.size))).mono ?_; rintro e w5 ⟨v5, rfl, h5, hb5⟩; have hs5 := Kd.R_reads h5; obtain ⟨A5, c5, rfl, _, hC5⟩ := hs5; have HC5 := hid hC5; have k5 := Kd.C_string (c := c5) Tryz.underlying23 Tryz.underlying5 Tryz.underlying9 hC5; have HB5 := hid (HB4.out.trans (((Mut.drew w4).all.trans hb5).mono HB4.out.size)); clear h5 hb5 hC5)
   | (go_at_call 38; refine (HBZ.out _ HB5.out).mono ?_; rintro e w6 ⟨v6, rfl, h6, hb6⟩; have HB6 := hid (HB5.out.trans (hb6.mono HB5.out.size)); obtain ⟨A6, c6, rfl, _, hf6⟩ := h6; have k5' := Kd.C_string (c := c5) Tryz.underlying23 Tryz.underlying5 Tryz.underlying9 (Kd.C_below HC5.out hb6); have k6 := Kd.C_string (c := c6) Tryz.underlying23 Tryz.underlying5 Tryz.underlying9 (Kd.F_now hf6); clear hb6 hf6))
  all_goals
   go_wp2_with (fail)
   go_ret
   refine ⟨?_, HB6.out⟩
   simp [Act.put, Act.eval, results]
end Go.Proofs.YthdiiiopjkaifaaGreatDoor.Pl

import Derived.Test.YthdiiiopjkaifaaGreatDoorGePall0
import Derived.Test.YthdiiiopjkaifaaGreatDoorGePall10
import Derived.Test.YthdiiiopjkaifaaGreatDoorGePall16
namespace Go.Proofs.YthdiiiopjkaifaaGreatDoor.Pall
open Go.RowKit Go.Proofs.YthdiiiopjkaifaaGreatDoorW.PrintWords Go.Proofs.YthdiiiopjkaifaaGreatDoorW.PrintLast Go.Proofs.YthdiiiopjkaifaaGreatDoorW.PrintMore
attribute [local go_sem] max2_int min2_int max_two min_two
set_option linter.unusedVariables false
set_option linter.unusedSimpArgs false
def wicketmanref19_print.f (k : Nat) (a0_0 : Int) (a0_1 : Int) (a0_2 : Int) (a0_3 : Int) (l0_4 : List Int) (a1_0 : Int) (a1_1 : ByteArray) (a1_2 : Bool) (a1_3 : ByteArray) (a1_4 : ByteArray) (a1_5 : ByteArray) : Option (List Int) := (wicketmanref19_Page.f k a0_0 a0_1 a0_2 a0_3 l0_4 a1_0 a1_1 a1_2 a1_3 a1_4 a1_5).bind fun bt321 => ((wicketmanref10_Print.f k bt321.1 bt321.2.1 bt321.2.2).bind fun bt328 => (some bt328.1))
theorem wicketmanref19_print.mono : ∀ a0 a1 a2 a3 a4 a5 a6 a7 a8 a9 a10 k, LeO (wicketmanref19_print.f k a0 a1 a2 a3 a4 a5 a6 a7 a8 a9 a10) (wicketmanref19_print.f (k + 1) a0 a1 a2 a3 a4 a5 a6 a7 a8 a9 a10) := by
 intro a0 a1 a2 a3 a4 a5 a6 a7 a8 a9 a10 k
 unfold wicketmanref19_print.f
 repeat' first|(with_reducible first|exact wicketmanref10_Print.mono _ _ _ _|exact wicketmanref19_Page.mono _ _ _ _ _ _ _ _ _ _ _ _|exact LeO.refl _|exact LeO.none _|refine LeO.ite ?_ ?_|refine LeO.bind ?_ (fun _ => ?_))|exact LeO.none _|refine LeO.ite ?_ ?_|refine LeO.bind ?_ (fun _ => ?_)
set_option maxHeartbeats 8000000 in
set_option maxRecDepth 100000 in
theorem wicketmanref19_print.calls (k : Nat) (a0_0 : Int) (a0_1 : Int) (a0_2 : Int) (a0_3 : Int) (A0_4 : Option Addr) (c0_4 : Nat) (l0_4 : List Int) (a1_0 : Int) (a1_1 : ByteArray) (a1_2 : Bool) (a1_3 : ByteArray) (a1_4 : ByteArray) (a1_5 : ByteArray) (r : List Int) (w : World) (hr0_4 : Kd.C (Kd.int .u8) w A0_4 l0_4.length l0_4) (hc0_4 : l0_4.length ≤ c0_4) (hT : Tb w) (h : wicketmanref19_print.f k a0_0 a0_1 a0_2 a0_3 l0_4 a1_0 a1_1 a1_2 a1_3 a1_4 a1_5 = some r) :
  Calls Tryz.prog 82 #[.agg #[.int .u64 a0_0, .int .u64 a0_1, .int .u64 a0_2, .int .i64 a0_3, .slice A0_4 l0_4.length c0_4], .agg #[.int .i64 a1_0, .string a1_1, .bool a1_2, .string a1_3, .string a1_4, .string a1_5]] w fun e w' => ∃ v0_ : Value, e = .returned (v0_) ∧ Kd.V (Kd.int .u8) 5 w' w.heap.size (fun k_ => (w.heap.size ≤ k_)) v0_ r ∧ Below w.heap.size w w' := by
 have hu40 := Tryz.underlying40
 have hu42 := Tryz.underlying42
 have HR0_4 := aK hr0_4
 have HC0_4 := aK hc0_4
 clear hr0_4 hc0_4
 have HB := aK (Below.refl w.heap.size w)
 have H : ((wicketmanref19_Page.f k a0_0 a0_1 a0_2 a0_3 l0_4 a1_0 a1_1 a1_2 a1_3 a1_4 a1_5).bind fun bt321 => ((wicketmanref10_Print.f k bt321.1 bt321.2.1 bt321.2.2).bind fun bt328 => (some bt328.1))) = some r := h
 clear h
 replace H := Option.bind_eq_some_iff.mp H
 obtain ⟨⟨t321, t322, t325⟩, A30, H⟩ := H
 try dsimp only at H
 have A3 := aK A30
 clear A30
 replace H := Option.bind_eq_some_iff.mp H
 obtain ⟨⟨t328, t331⟩, A40, H⟩ := H
 try dsimp only at H
 have A4 := aK A40
 clear A40
 obtain rfl := Option.some.inj H
 go_enter Tryz.func82, Tryz.ntmps82
 go_wp2_with (first|((with_reducible refine gate_dst (N := 2) rfl ?_);refine box_event ?hg (N := 2) ?hd (cs := #[.int .u64 a0_0, .int .u64 a0_1, .int .u64 a0_2, .int .i64 a0_3, .slice A0_4 l0_4.length c0_4]) (t := 40) ?hr ?_;(case hd => rfl);(case hg => rfl);(case hr => first|(go_simp;done)|(go_simp;rfl));intro gb319 hg w5 hbox hb;have n0_ := aK (below_step (by repeat (first|(with_reducible first|apply bA|apply bN|apply bD)|exact HB.out)) hb);have n1_ := aK (hbox);have n2_ := aK ((by rw [hg];exact (below_size (by repeat (first|(with_reducible first|apply bA|apply bN|apply bD)|exact HB.out))) : w.heap.size ≤ gb319));have n3_ := aK ((by rw [hg];exact (below_size (by repeat (first|(with_reducible first|apply bA|apply bN|apply bD)|exact HB.out))) : w.heap.size ≤ gb319));clear HB;have HB := n0_;have BK319 := n1_;have GW319 := n2_;have GE319 := n3_;clear n0_ n1_ n2_ n3_;clear hb hbox hg)|((with_reducible refine gate_dst (N := 3) rfl ?_);refine box_event ?hg (N := 3) ?hd (cs := #[.int .i64 a1_0, .string a1_1, .bool a1_2, .string a1_3, .string a1_4, .string a1_5]) (t := 42) ?hr ?_;(case hd => rfl);(case hg => rfl);(case hr => first|(go_simp;done)|(go_simp;rfl));intro gb320 hg w6 hbox hb;have n0_ := aK (blk_below (g := gb319) (o := .cells #[.int .u64 a0_0, .int .u64 a0_1, .int .u64 a0_2, .int .i64 a0_3, .slice A0_4 l0_4.length c0_4] 40 (0, 0)) (by (with_reducible repeat (first|refine blk_drewN ?_ _|refine blk_drew ?_|refine blk_alloc ?_ _));exact BK319.out) hb);have n1_ := aK (below_step (by repeat (first|(with_reducible first|apply bA|apply bN|apply bD|refine below_set ?_ GE319.out)|exact HB.out)) hb);have n2_ := aK (hbox);have n3_ := aK ((by rw [hg];exact (below_size (by repeat (first|(with_reducible first|apply bA|apply bN|apply bD|refine below_set ?_ GE319.out)|exact HB.out))) : w.heap.size ≤ gb320));have n4_ := aK ((by rw [hg];exact (below_size (by repeat (first|(with_reducible first|apply bA|apply bN|apply bD|refine below_set ?_ GE319.out)|exact HB.out))) : w.heap.size ≤ gb320));have n5_ := aK ((by rw [hg];exact Nat.ne_of_lt (blk_lt (g := gb319) (o := .cells #[.int .u64 a0_0, .int .u64 a0_1, .int .u64 a0_2, .int .i64 a0_3, .slice A0_4 l0_4.length c0_4] 40 (0, 0)) (by (with_reducible repeat (first|refine blk_drewN ?_ _|refine blk_drew ?_|refine blk_alloc ?_ _));exact BK319.out)) : gb319 ≠ gb320));have n6_ := aK ((by rw [hg];exact Nat.ne_of_gt (blk_lt (g := gb319) (o := .cells #[.int .u64 a0_0, .int .u64 a0_1, .int .u64 a0_2, .int .i64 a0_3, .slice A0_4 l0_4.length c0_4] 40 (0, 0)) (by (with_reducible repeat (first|refine blk_drewN ?_ _|refine blk_drew ?_|refine blk_alloc ?_ _));exact BK319.out)) : gb320 ≠ gb319));clear BK319;clear HB;have BK319 := n0_;have HB := n1_;have BK320 := n2_;have GW320 := n3_;have GE320 := n4_;have NB319_320 := n5_;have NB320_319 := n6_;clear n0_ n1_ n2_ n3_ n4_ n5_ n6_;clear hb hbox hg;have hnb7 := NB319_320.out;have hnc7 := NB320_319.out;have hcz8_0 : w6.cell? ⟨gb319, 0, none⟩ = some (.int .u64 a0_0) := (blk_cell BK319.out 0).trans rfl;have hcz8_1 : w6.cell? ⟨gb319, 1, none⟩ = some (.int .u64 a0_1) := (blk_cell BK319.out 1).trans rfl;have hcz8_2 : w6.cell? ⟨gb319, 2, none⟩ = some (.int .u64 a0_2) := (blk_cell BK319.out 2).trans rfl;have hcz8_3 : w6.cell? ⟨gb319, 3, none⟩ = some (.int .i64 a0_3) := (blk_cell BK319.out 3).trans rfl;have hcz8_4 : w6.cell? ⟨gb319, 4, none⟩ = some (.slice A0_4 l0_4.length c0_4) := (blk_cell BK319.out 4).trans rfl;have hfz8_0 := blk_frozen BK319.out 0;have hfz8_1 := blk_frozen BK319.out 1;have hfz8_2 := blk_frozen BK319.out 2;have hfz8_3 := blk_frozen BK319.out 3;have hfz8_4 := blk_frozen BK319.out 4;have hcz9_0 : w6.cell? ⟨gb320, 0, none⟩ = some (.int .i64 a1_0) := (blk_cell BK320.out 0).trans rfl;have hcz9_1 : w6.cell? ⟨gb320, 1, none⟩ = some (.string a1_1) := (blk_cell BK320.out 1).trans rfl;have hcz9_2 : w6.cell? ⟨gb320, 2, none⟩ = some (.bool a1_2) := (blk_cell BK320.out 2).trans rfl;have hcz9_3 : w6.cell? ⟨gb320, 3, none⟩ = some (.string a1_3) := (blk_cell BK320.out 3).trans rfl;have hcz9_4 : w6.cell? ⟨gb320, 4, none⟩ = some (.string a1_4) := (blk_cell BK320.out 4).trans rfl;have hcz9_5 : w6.cell? ⟨gb320, 5, none⟩ = some (.string a1_5) := (blk_cell BK320.out 5).trans rfl;have hfz9_0 := blk_frozen BK320.out 0;have hfz9_1 := blk_frozen BK320.out 1;have hfz9_2 := blk_frozen BK320.out 2;have hfz9_3 := blk_frozen BK320.out 3;have hfz9_4 := blk_frozen BK320.out 4;have hfz9_5 := blk_frozen BK320.out 5)|((with_reducible refine gate_callee (f := 47) rfl ?_);refine goesL_ (some 10) rfl rfl Tryz.func47 (by kernel_rfl) rfl #[.agg #[.int .u64 a0_0, .int .u64 a0_1, .int .u64 a0_2, .int .i64 a0_3, .slice A0_4 l0_4.length c0_4], .agg #[.int .i64 a1_0, .string a1_1, .bool a1_2, .string a1_3, .string a1_4, .string a1_5]] rfl (by (try simp only [List.map_toArray, List.map_cons, List.map_nil]);first|done|rfl|(simp only [List.length_drop, List.length_take];rfl)) ?_;(with_reducible refine (wicketmanref19_Page.calls k a0_0 a0_1 a0_2 a0_3 _ _ l0_4 a1_0 a1_1 a1_2 a1_3 a1_4 a1_5 t321 t322 t325 _ ?side1 ?side2 (by first|exact hT|(refine Tb.of_below hT ?_;repeat (first|(with_reducible first|apply bA|apply bN|apply bD)|exact HB.out|refine Below.setCell ?_ (Aside0.out (by assumption)) _))|(refine Tb.of_below hT ?_;assumption)) A3.out).mono ?_);(case side1 => repeat (first|exact (Kd.C_below HR0_4.out HB.out)|(with_reducible refine Kd.C_alloc ?_ _)|(with_reducible refine Kd.C_drewN ?_ _)|(with_reducible refine Kd.C_drew ?_)));(case side2 => exact HC0_4.out);rintro e w10 ⟨v323, v326, rfl, ho0, ho1, hb⟩;refine ⟨_, rfl, ?_⟩;have n0_ := aK (Kd.R_lower (Kd.R_newM (M := fun k_ => (w.heap.size ≤ k_)) (Kd.R_mono (ok' := fun k_ => True) ho0 (fun _ hk_ => trivial)) (below_size (by repeat (first|(with_reducible first|apply bA|apply bN|apply bD|refine below_set ?_ GE319.out|refine below_set ?_ GE320.out)|exact HB.out))) (fun k_ h_ => h_)) (below_size (by repeat (first|(with_reducible first|apply bA|apply bN|apply bD|refine below_set ?_ GE319.out|refine below_set ?_ GE320.out)|exact HB.out))));have n1_ := aK (Kd.V_lower (Kd.V_mono (ok' := fun k_ => (w.heap.size ≤ k_) ∧ some k_ ≠ (v323 : Value).ownBlock ∧ k_ ≠ gb319 ∧ k_ ≠ gb320) ho1 (fun k_ hk_ => ⟨(Nat.le_trans (below_size (by repeat (first|(with_reducible first|apply bA|apply bN|apply bD|refine below_set ?_ GE319.out|refine below_set ?_ GE320.out)|exact HB.out))) hk_.1), hk_.2, (Kd.freshB (g := gb319) (o := .cells #[.int .u64 a0_0, .int .u64 a0_1, .int .u64 a0_2, .int .i64 a0_3, .slice A0_4 l0_4.length c0_4] 40 (0, 0)) (by (with_reducible repeat (first|refine blk_drewN ?_ _|refine blk_drew ?_|refine blk_alloc ?_ _));exact BK319.out) k_ hk_.1), (Kd.freshB (g := gb320) (o := .cells #[.int .i64 a1_0, .string a1_1, .bool a1_2, .string a1_3, .string a1_4, .string a1_5] 42 (0, 0)) (by (with_reducible repeat (first|refine blk_drewN ?_ _|refine blk_drew ?_|refine blk_alloc ?_ _));exact BK320.out) k_ hk_.1)⟩)) (below_size (by repeat (first|(with_reducible first|apply bA|apply bN|apply bD|refine below_set ?_ GE319.out|refine below_set ?_ GE320.out)|exact HB.out))));have n2_ := aK (blk_below (g := gb319) (o := .cells #[.int .u64 a0_0, .int .u64 a0_1, .int .u64 a0_2, .int .i64 a0_3, .slice A0_4 l0_4.length c0_4] 40 (0, 0)) (by (with_reducible repeat (first|refine blk_drewN ?_ _|refine blk_drew ?_|refine blk_alloc ?_ _));exact BK319.out) hb);have n3_ := aK (blk_below (g := gb320) (o := .cells #[.int .i64 a1_0, .string a1_1, .bool a1_2, .string a1_3, .string a1_4, .string a1_5] 42 (0, 0)) (by (with_reducible repeat (first|refine blk_drewN ?_ _|refine blk_drew ?_|refine blk_alloc ?_ _));exact BK320.out) hb);have n4_ := aK (below_step (by repeat (first|(with_reducible first|apply bA|apply bN|apply bD|refine below_set ?_ GE319.out|refine below_set ?_ GE320.out)|exact HB.out)) hb);clear BK319;clear BK320;clear HB;have HO324 := n0_;have HO327 := n1_;have BK319 := n2_;have BK320 := n3_;have HB := n4_;clear n0_ n1_ n2_ n3_ n4_;try clear hb;(try clear ho0);(try clear ho1);obtain ⟨Ao11, co11, eo11⟩ := Kd.R_slice HO324.out;subst eo11;obtain ⟨Ao12, co12, eo12⟩ := Kd.V_slice HO327.out;subst eo12)|((with_reducible refine gate_callee (f := 61) rfl ?_);refine goesL_ (some 11) rfl rfl Tryz.func61 (by kernel_rfl) rfl #[.agg #[.int .i64 t321, .slice Ao11 t322.length co11, .slice Ao12 t325.length co12]] rfl (by (try simp only [List.map_toArray, List.map_cons, List.map_nil]);first|done|rfl|(simp only [List.length_drop, List.length_take];rfl)) ?_;(with_reducible refine (wicketmanref10_Print.calls k t321 _ _ t322 _ _ t325 t328 t331 _ ?side1 ?side2 ?side3 ?side4 (by first|exact hT|(refine Tb.of_below hT ?_;repeat (first|(with_reducible first|apply bA|apply bN|apply bD)|exact HB.out|refine Below.setCell ?_ (Aside0.out (by assumption)) _))|(refine Tb.of_below hT ?_;assumption)) A4.out).mono ?_);(case side1 => repeat (first|exact (Kd.R_reads' HO324.out).2.2|(with_reducible refine Kd.C_alloc ?_ _)|(with_reducible refine Kd.C_drewN ?_ _)|(with_reducible refine Kd.C_drew ?_)));(case side2 => exact (Kd.R_reads' HO324.out).2.1);(case side3 => repeat (first|exact (Kd.V_reads' HO327.out).2.2|(with_reducible refine Kd.C_alloc ?_ _)|(with_reducible refine Kd.C_drewN ?_ _)|(with_reducible refine Kd.C_drew ?_)));(case side4 => exact (Kd.V_reads' HO327.out).2.1);rintro e w13 ⟨v329, rfl, ho0, hb⟩;refine ⟨_, rfl, ?_⟩;have n0_ := aK (Kd.R_below (by (with_reducible repeat (first|apply Kd.R_alloc|apply Kd.R_drewN|apply Kd.R_drew));exact HO324.out) hb);have n1_ := aK (Kd.V_below (by (with_reducible repeat (first|apply Kd.V_alloc|apply Kd.V_drewN|apply Kd.V_drew));exact HO327.out) hb);have n2_ := aK (Kd.V_lower (Kd.V_mono (ok' := fun k_ => (w.heap.size ≤ k_) ∧ some k_ ≠ (.slice Ao11 t322.length co11 : Value).ownBlock ∧ k_ ≠ gb319 ∧ k_ ≠ gb320) ho0 (fun k_ hk_ => ⟨(Nat.le_trans (below_size (by repeat (first|(with_reducible first|apply bA|apply bN|apply bD|refine below_set ?_ GE319.out|refine below_set ?_ GE320.out)|exact HB.out))) hk_), (Kd.fresh' (Kd.R_lt (by (with_reducible repeat (first|apply Kd.R_alloc|apply Kd.R_drewN|apply Kd.R_drew));exact HO324.out)) k_ hk_), (Kd.freshB (g := gb319) (o := .cells #[.int .u64 a0_0, .int .u64 a0_1, .int .u64 a0_2, .int .i64 a0_3, .slice A0_4 l0_4.length c0_4] 40 (0, 0)) (by (with_reducible repeat (first|refine blk_drewN ?_ _|refine blk_drew ?_|refine blk_alloc ?_ _));exact BK319.out) k_ hk_), (Kd.freshB (g := gb320) (o := .cells #[.int .i64 a1_0, .string a1_1, .bool a1_2, .string a1_3, .string a1_4, .string a1_5] 42 (0, 0)) (by (with_reducible repeat (first|refine blk_drewN ?_ _|refine blk_drew ?_|refine blk_alloc ?_ _));exact BK320.out) k_ hk_)⟩)) (below_size (by repeat (first|(with_reducible first|apply bA|apply bN|apply bD|refine below_set ?_ GE319.out|refine below_set ?_ GE320.out)|exact HB.out))));have n3_ := aK (blk_below (g := gb319) (o := .cells #[.int .u64 a0_0, .int .u64 a0_1, .int .u64 a0_2, .int .i64 a0_3, .slice A0_4 l0_4.length c0_4] 40 (0, 0)) (by (with_reducible repeat (first|refine blk_drewN ?_ _|refine blk_drew ?_|refine blk_alloc ?_ _));exact BK319.out) hb);have n4_ := aK (blk_below (g := gb320) (o := .cells #[.int .i64 a1_0, .string a1_1, .bool a1_2, .string a1_3, .string a1_4, .string a1_5] 42 (0, 0)) (by (with_reducible repeat (first|refine blk_drewN ?_ _|refine blk_drew ?_|refine blk_alloc ?_ _));exact BK320.out) hb);have n5_ := aK (below_step (by repeat (first|(with_reducible first|apply bA|apply bN|apply bD|refine below_set ?_ GE319.out|refine below_set ?_ GE320.out)|exact HB.out)) hb);clear HO324;clear HO327;clear BK319;clear BK320;clear HB;have HO324 := n0_;have HO327 := n1_;have HO330 := n2_;have BK319 := n3_;have BK320 := n4_;have HB := n5_;clear n0_ n1_ n2_ n3_ n4_ n5_;try clear hb;(try clear ho0)))
 go_ret
 exact ⟨_, by first|rfl|(simp [errW_none, errW_some] <;> rfl)|(simp [*, errW_none, errW_some] <;> rfl), by (with_reducible repeat (first|apply Kd.V_alloc|apply Kd.V_drewN|apply Kd.V_drew));exact Kd.V_mono HO330.out (fun _ hk => hk.1), by repeat (first|(with_reducible first|apply bA|apply bN|apply bD|refine below_set ?_ GE319.out|refine below_set ?_ GE320.out)|exact HB.out)⟩
def wicketmanref19_Busy.f (k : Nat)  : Option (List Int) := (wicketmanref19_print.f k 0 0 0 0 ([] : List Int) 503 (⟨#[]⟩ : BA) false (⟨#[]⟩ : BA) (⟨#[]⟩ : BA) (⟨#[]⟩ : BA)).bind fun t332 => (some t332)
theorem wicketmanref19_Busy.mono : ∀ k, LeO (wicketmanref19_Busy.f k ) (wicketmanref19_Busy.f (k + 1) ) := by
 intro  k
 unfold wicketmanref19_Busy.f
 repeat' first|(with_reducible first|exact wicketmanref19_print.mono _ _ _ _ _ _ _ _ _ _ _ _|exact LeO.refl _|exact LeO.none _|refine LeO.ite ?_ ?_|refine LeO.bind ?_ (fun _ => ?_))|exact LeO.none _|refine LeO.ite ?_ ?_|refine LeO.bind ?_ (fun _ => ?_)
set_option maxHeartbeats 8000000 in
set_option maxRecDepth 100000 in
theorem wicketmanref19_Busy.calls (k : Nat)  (r : List Int) (w : World) (hT : Tb w) (h : wicketmanref19_Busy.f k  = some r) :
  Calls Tryz.prog 38 #[] w fun e w' => ∃ v0_ : Value, e = .returned (v0_) ∧ Kd.V (Kd.int .u8) 5 w' w.heap.size (fun k_ => (w.heap.size ≤ k_)) v0_ r ∧ Below w.heap.size w w' := by
 have hu40 := Tryz.underlying40
 have hu42 := Tryz.underlying42
 have HB := aK (Below.refl w.heap.size w)
 have H : ((wicketmanref19_print.f k 0 0 0 0 ([] : List Int) 503 (⟨#[]⟩ : BA) false (⟨#[]⟩ : BA) (⟨#[]⟩ : BA) (⟨#[]⟩ : BA)).bind fun t332 => (some t332)) = some r := h
 clear h
 replace H := Option.bind_eq_some_iff.mp H
 obtain ⟨t332, A10, H⟩ := H
 try dsimp only at H
 have A1 := aK A10
 clear A10
 obtain rfl := Option.some.inj H
 go_enter Tryz.func38, Tryz.ntmps38
 go_wp2_with (first|((with_reducible refine gate_callee (f := 82) rfl ?_);refine goesL_ (some 3) rfl rfl Tryz.func82 (by kernel_rfl) rfl #[.agg #[.int .u64 0, .int .u64 0, .int .u64 0, .int .i64 0, .slice none 0 0], .agg #[.int .i64 503, .string (⟨#[]⟩ : BA), .bool false, .string (⟨#[]⟩ : BA), .string (⟨#[]⟩ : BA), .string (⟨#[]⟩ : BA)]] rfl (by (try simp only [List.map_toArray, List.map_cons, List.map_nil]);first|done|rfl|(simp only [List.length_drop, List.length_take];rfl)) ?_;(refine (wicketmanref19_print.calls k 0 0 0 0 _ _ ([] : List Int) 503 (⟨#[]⟩ : BA) false (⟨#[]⟩ : BA) (⟨#[]⟩ : BA) (⟨#[]⟩ : BA) t332 _ ?side1 ?side2 (by first|exact hT|(refine Tb.of_below hT ?_;repeat (first|(with_reducible first|apply bA|apply bN|apply bD)|exact HB.out|refine Below.setCell ?_ (Aside0.out (by assumption)) _))|(refine Tb.of_below hT ?_;assumption)) A1.out).mono ?_);(case side1 => exact Kd.C_nil _ _);(case side2 => exact Nat.le_refl _);rintro e w2 ⟨v333, rfl, ho0, hb⟩;refine ⟨_, rfl, ?_⟩;have n0_ := aK (Kd.V_lower (Kd.V_mono (ok' := fun k_ => (w.heap.size ≤ k_)) ho0 (fun k_ hk_ => (Nat.le_trans (below_size (by repeat (first|(with_reducible first|apply bA|apply bN|apply bD)|exact HB.out))) hk_))) (below_size (by repeat (first|(with_reducible first|apply bA|apply bN|apply bD)|exact HB.out))));have n1_ := aK (below_step (by repeat (first|(with_reducible first|apply bA|apply bN|apply bD)|exact HB.out)) hb);clear HB;have HO334 := n0_;have HB := n1_;clear n0_ n1_;try clear hb;(try clear ho0)))
 go_ret
 exact ⟨_, by first|rfl|(simp [errW_none, errW_some] <;> rfl)|(simp [*, errW_none, errW_some] <;> rfl), by (with_reducible repeat (first|apply Kd.V_alloc|apply Kd.V_drewN|apply Kd.V_drew));exact HO334.out, by repeat (first|(with_reducible first|apply bA|apply bN|apply bD)|exact HB.out)⟩
def wicketmanref05_Text.l0 : Nat → List Int → ByteArray → Int → Option (ByteArray)
 | 0, _, _, _ => none
 | k + 1, x0, x3, x4 => if x4 < (x0.length : Int) then (if 0 ≤ x4 then (if 0 ≤ ((Int.tdiv (rd x0 x4) 16) % 256) then (if ((Int.tdiv (rd x0 x4) 16) % 256) ≤ ((((Int.tdiv (rd x0 x4) 16) % 256) + 1) % 256) then (if ((((Int.tdiv (rd x0 x4) 16) % 256) + 1) % 256) ≤ 16 then (if x3.size + ((⟨#[48, 49, 50, 51, 52, 53, 54, 55, 56, 57, 97, 98, 99, 100, 101, 102]⟩ : BA).extract (((Int.tdiv (rd x0 x4) 16) % 256) : Int).toNat (((((Int.tdiv (rd x0 x4) 16) % 256) + 1) % 256) : Int).toNat).size ≤ 9223372036854775807 then (if 0 ≤ (Int.tmod (rd x0 x4) 16) then (if (Int.tmod (rd x0 x4) 16) ≤ (((Int.tmod (rd x0 x4) 16) + 1) % 256) then (if (((Int.tmod (rd x0 x4) 16) + 1) % 256) ≤ 16 then (if (x3 ++ ((⟨#[48, 49, 50, 51, 52, 53, 54, 55, 56, 57, 97, 98, 99, 100, 101, 102]⟩ : BA).extract (((Int.tdiv (rd x0 x4) 16) % 256) : Int).toNat (((((Int.tdiv (rd x0 x4) 16) % 256) + 1) % 256) : Int).toNat)).size + ((⟨#[48, 49, 50, 51, 52, 53, 54, 55, 56, 57, 97, 98, 99, 100, 101, 102]⟩ : BA).extract ((Int.tmod (rd x0 x4) 16) : Int).toNat ((((Int.tmod (rd x0 x4) 16) + 1) % 256) : Int).toNat).size ≤ 9223372036854775807 then (wicketmanref05_Text.l0 k x0 ((x3 ++ ((⟨#[48, 49, 50, 51, 52, 53, 54, 55, 56, 57, 97, 98, 99, 100, 101, 102]⟩ : BA).extract (((Int.tdiv (rd x0 x4) 16) % 256) : Int).toNat (((((Int.tdiv (rd x0 x4) 16) % 256) + 1) % 256) : Int).toNat)) ++ ((⟨#[48, 49, 50, 51, 52, 53, 54, 55, 56, 57, 97, 98, 99, 100, 101, 102]⟩ : BA).extract ((Int.tmod (rd x0 x4) 16) : Int).toNat ((((Int.tmod (rd x0 x4) 16) + 1) % 256) : Int).toNat)) (wrap64 (x4 + 1))) else (none)) else (none)) else (none)) else (none)) else (none)) else (none)) else (none)) else (none)) else (none)) else (some x3)
def wicketmanref05_Text.f (k : Nat) (l0 : List Int) : Option (ByteArray) := wicketmanref05_Text.l0 k l0 (⟨#[]⟩ : BA) 0
theorem wicketmanref05_Text.mono_l : ∀ k, (∀ y0 y1 y2, LeO (wicketmanref05_Text.l0 k y0 y1 y2) (wicketmanref05_Text.l0 (k + 1) y0 y1 y2))
 | 0 => fun _ _ _ r h => by simp [wicketmanref05_Text.l0] at h
 | k + 1 => by
  have ih0 := wicketmanref05_Text.mono_l k
  ·intro y0 y1 y2
   unfold wicketmanref05_Text.l0
   repeat' first|(with_reducible first|exact ih0 _ _ _|exact LeO.refl _|exact LeO.none _|refine LeO.ite ?_ ?_|refine LeO.bind ?_ (fun _ => ?_))|exact LeO.none _|refine LeO.ite ?_ ?_|refine LeO.bind ?_ (fun _ => ?_)
theorem wicketmanref05_Text.mono : ∀ a0 k, LeO (wicketmanref05_Text.f k a0) (wicketmanref05_Text.f (k + 1) a0) := by
 intro a0 k
 have ih0 := wicketmanref05_Text.mono_l k
 unfold wicketmanref05_Text.f
 repeat' first|(with_reducible first|exact ih0 _ _ _|exact LeO.refl _|exact LeO.none _|refine LeO.ite ?_ ?_|refine LeO.bind ?_ (fun _ => ?_))|exact LeO.none _|refine LeO.ite ?_ ?_|refine LeO.bind ?_ (fun _ => ?_)
set_option maxHeartbeats 8000000 in
set_option maxRecDepth 100000 in
theorem wicketmanref05_Text.calls (k : Nat) (A0 : Option Addr) (c0 : Nat) (l0 : List Int) (r : ByteArray) (w : World) (hr0 : Kd.C (Kd.int .u8) w A0 l0.length l0) (hc0 : l0.length ≤ c0) (h : wicketmanref05_Text.f k l0 = some r) :
  Calls Tryz.prog 35 #[.slice A0 l0.length c0] w fun e w' => e = .returned (.string r) ∧ Drawn0 w w' := by
 have HR0 := aK hr0
 have HC0 := aK hc0
 clear hr0 hc0
 have H : (wicketmanref05_Text.l0 k l0 (⟨#[]⟩ : BA) 0) = some r := h
 clear h
 have H' := aK H
 clear H
 go_enter Tryz.func35, Tryz.ntmps35
 go_wp2
 repeat (go_quiet (fail);try go_wp2)
 go_loopg [3, 4] k (fun kq v3 v4 w' => ∃ (x3_1 : ByteArray) (x4_1 : Int), v3 = .string x3_1 ∧ v4 = .int .i64 x4_1 ∧ Aside0 (wicketmanref05_Text.l0 kq l0 x3_1 x4_1 = some r) ∧ Aside0 (kq ≤ k) ∧ Drawn0 w w')
 case atStart => exact ⟨((⟨#[]⟩ : BA)), (0), (by first|rfl|(simp;done)|(simp [*];done)), (by first|rfl|(simp;done)|(simp [*];done)), H', ⟨Nat.le_refl _⟩, by repeat (first|exact Drawn0.refl _|apply Drawn0.step)⟩
 case round =>
  clear H'
  obtain ⟨x3_1, x4_1, rfl, rfl, HA, HK1, ⟨m1, rfl⟩⟩ := hrel
  cases gk with
  | zero => exact absurd HA.out (by simp [wicketmanref05_Text.l0])
  | succ k1 =>
   have H := HA.out
   clear HA
   simp only [wicketmanref05_Text.l0] at H
   by_cases c2 : x4_1 < (l0.length : Int)
   ·rw [if_pos c2] at H
    have c2b0 : decide (x4_1 < (l0.length : Int)) = true := decide_eq_true c2
    clear c2
    by_cases c3 : 0 ≤ x4_1
    ·rw [if_pos c3] at H
     have c3b0 : decide (0 ≤ x4_1) = true := decide_eq_true c3
     clear c3
     obtain ⟨ji4, hji4⟩ : ∃ j_ : Int, ((Int.tdiv (rd l0 x4_1) 16) % 256) = j_ := ⟨_, rfl⟩
     replace H : (if 0 ≤ (ji4) then (if (ji4) ≤ (((ji4) + 1) % 256) then (if (((ji4) + 1) % 256) ≤ 16 then (if x3_1.size + ((⟨#[48, 49, 50, 51, 52, 53, 54, 55, 56, 57, 97, 98, 99, 100, 101, 102]⟩ : BA).extract ((ji4) : Int).toNat ((((ji4) + 1) % 256) : Int).toNat).size ≤ 9223372036854775807 then (if 0 ≤ (Int.tmod (rd l0 x4_1) 16) then (if (Int.tmod (rd l0 x4_1) 16) ≤ (((Int.tmod (rd l0 x4_1) 16) + 1) % 256) then (if (((Int.tmod (rd l0 x4_1) 16) + 1) % 256) ≤ 16 then (if (x3_1 ++ ((⟨#[48, 49, 50, 51, 52, 53, 54, 55, 56, 57, 97, 98, 99, 100, 101, 102]⟩ : BA).extract ((ji4) : Int).toNat ((((ji4) + 1) % 256) : Int).toNat)).size + ((⟨#[48, 49, 50, 51, 52, 53, 54, 55, 56, 57, 97, 98, 99, 100, 101, 102]⟩ : BA).extract ((Int.tmod (rd l0 x4_1) 16) : Int).toNat ((((Int.tmod (rd l0 x4_1) 16) + 1) % 256) : Int).toNat).size ≤ 9223372036854775807 then (wicketmanref05_Text.l0 k1 l0 ((x3_1 ++ ((⟨#[48, 49, 50, 51, 52, 53, 54, 55, 56, 57, 97, 98, 99, 100, 101, 102]⟩ : BA).extract ((ji4) : Int).toNat ((((ji4) + 1) % 256) : Int).toNat)) ++ ((⟨#[48, 49, 50, 51, 52, 53, 54, 55, 56, 57, 97, 98, 99, 100, 101, 102]⟩ : BA).extract ((Int.tmod (rd l0 x4_1) 16) : Int).toNat ((((Int.tmod (rd l0 x4_1) 16) + 1) % 256) : Int).toNat)) (wrap64 (x4_1 + 1))) else (none)) else (none)) else (none)) else (none)) else (none)) else (none)) else (none)) else (none)) = some r := by first|(rw [hji4] at H;exact H)|(simp only [hji4] at H ⊢;exact H)
     by_cases c5 : 0 ≤ (ji4)
     ·rw [if_pos c5] at H
      have c5b0 := eq_true c5
      have c5b1 : decide (0 ≤ (ji4)) = true := decide_eq_true c5
      clear c5
      by_cases c6 : (ji4) ≤ (((ji4) + 1) % 256)
      ·rw [if_pos c6] at H
       have c6b0 := eq_true c6
       have c6b1 : decide ((ji4) ≤ (((ji4) + 1) % 256)) = true := decide_eq_true c6
       by_cases c7 : (((ji4) + 1) % 256) ≤ 16
       ·rw [if_pos c7] at H
        have c7b0 := eq_true c7
        have c7b1 : decide ((((ji4) + 1) % 256) ≤ 16) = true := decide_eq_true c7
        obtain ⟨vs0, hvs0⟩ : ∃ v_ : ByteArray, ((⟨#[48, 49, 50, 51, 52, 53, 54, 55, 56, 57, 97, 98, 99, 100, 101, 102]⟩ : BA).extract ((ji4) : Int).toNat ((((ji4) + 1) % 256) : Int).toNat) = v_ := ⟨_, rfl⟩
        simp only [hvs0] at H
        have hzvs0 : 0 ≤ (ji4) := of_decide_eq_true (by assumption)
        have hwvs0 : ((ji4) + 1) % 256 = ji4 + 1 := by omega
        rw [hwvs0] at hvs0
        have huvs0 : IntKind.u8.wrap (ji4 + 1) = ji4 + 1 := by rw [IntKind.wrap_u8];exact hwvs0
        have hvs0x0 : (ji4 ≤ ji4 + 1) = True := eq_true (by omega)
        have hvs0y0 : decide (ji4 ≤ ji4 + 1) = true := decide_eq_true (by omega)
        have hvs0x1 : (ji4 + 1 ≤ 16) = True := eq_true (by omega)
        have hvs0y1 : decide (ji4 + 1 ≤ 16) = true := decide_eq_true (by omega)
        by_cases c8 : x3_1.size + vs0.size ≤ 9223372036854775807
        ·rw [if_pos c8] at H
         have c8b0 := eq_true c8
         have c8b1 : decide (x3_1.size + vs0.size ≤ 9223372036854775807) = true := decide_eq_true c8
         try have c8b2 : (9223372036854775807 < x3_1.size + vs0.size) = False := eq_false (Nat.not_lt.2 c8)
         obtain ⟨ji9, hji9⟩ : ∃ j_ : Int, (Int.tmod (rd l0 x4_1) 16) = j_ := ⟨_, rfl⟩
         replace H : (if 0 ≤ (ji9) then (if (ji9) ≤ (((ji9) + 1) % 256) then (if (((ji9) + 1) % 256) ≤ 16 then (if (x3_1 ++ vs0).size + ((⟨#[48, 49, 50, 51, 52, 53, 54, 55, 56, 57, 97, 98, 99, 100, 101, 102]⟩ : BA).extract ((ji9) : Int).toNat ((((ji9) + 1) % 256) : Int).toNat).size ≤ 9223372036854775807 then (wicketmanref05_Text.l0 k1 l0 ((x3_1 ++ vs0) ++ ((⟨#[48, 49, 50, 51, 52, 53, 54, 55, 56, 57, 97, 98, 99, 100, 101, 102]⟩ : BA).extract ((ji9) : Int).toNat ((((ji9) + 1) % 256) : Int).toNat)) (wrap64 (x4_1 + 1))) else (none)) else (none)) else (none)) else (none)) = some r := by first|(rw [hji9] at H;exact H)|(simp only [hji9] at H ⊢;exact H)
         by_cases c10 : 0 ≤ (ji9)
         ·rw [if_pos c10] at H
          have c10b0 := eq_true c10
          have c10b1 : decide (0 ≤ (ji9)) = true := decide_eq_true c10
          clear c10
          by_cases c11 : (ji9) ≤ (((ji9) + 1) % 256)
          ·rw [if_pos c11] at H
           have c11b0 := eq_true c11
           have c11b1 : decide ((ji9) ≤ (((ji9) + 1) % 256)) = true := decide_eq_true c11
           by_cases c12 : (((ji9) + 1) % 256) ≤ 16
           ·rw [if_pos c12] at H
            have c12b0 := eq_true c12
            have c12b1 : decide ((((ji9) + 1) % 256) ≤ 16) = true := decide_eq_true c12
            obtain ⟨vs1, hvs1⟩ : ∃ v_ : ByteArray, ((⟨#[48, 49, 50, 51, 52, 53, 54, 55, 56, 57, 97, 98, 99, 100, 101, 102]⟩ : BA).extract ((ji9) : Int).toNat ((((ji9) + 1) % 256) : Int).toNat) = v_ := ⟨_, rfl⟩
            simp only [hvs1] at H
            have hzvs1 : 0 ≤ (ji9) := of_decide_eq_true (by assumption)
            have hwvs1 : ((ji9) + 1) % 256 = ji9 + 1 := by omega
            rw [hwvs1] at hvs1
            have huvs1 : IntKind.u8.wrap (ji9 + 1) = ji9 + 1 := by rw [IntKind.wrap_u8];exact hwvs1
            have hvs1x0 : (ji9 ≤ ji9 + 1) = True := eq_true (by omega)
            have hvs1y0 : decide (ji9 ≤ ji9 + 1) = true := decide_eq_true (by omega)
            have hvs1x1 : (ji9 + 1 ≤ 16) = True := eq_true (by omega)
            have hvs1y1 : decide (ji9 + 1 ≤ 16) = true := decide_eq_true (by omega)
            by_cases c13 : (x3_1 ++ vs0).size + vs1.size ≤ 9223372036854775807
            ·rw [if_pos c13] at H
             have c13b0 := eq_true c13
             have c13b1 : decide ((x3_1 ++ vs0).size + vs1.size ≤ 9223372036854775807) = true := decide_eq_true c13
             try have c13b2 : (9223372036854775807 < (x3_1 ++ vs0).size + vs1.size) = False := eq_false (Nat.not_lt.2 c13)
             have H' := aK H
             clear H
             have p353 : 0 ≤ (x4_1 : Int) := of_decide_eq_true (by first|(with_reducible assumption)|assumption)
             have q353 : x4_1 < (l0.length : Int) := of_decide_eq_true (by first|(with_reducible assumption)|assumption)
             obtain ⟨ad353, e353, hx353_0⟩ := Kd.at_int HR0.out x4_1 p353 q353
             cases e353
             replace p353 := eq_true p353
             replace q353 := eq_true q353
             have p354 : 0 ≤ (x4_1 : Int) := of_decide_eq_true (by first|(with_reducible assumption)|assumption)
             have q354 : x4_1 < (l0.length : Int) := of_decide_eq_true (by first|(with_reducible assumption)|assumption)
             obtain ⟨ad354, e354, hx354_0⟩ := Kd.at_int HR0.out x4_1 p354 q354
             obtain rfl : ad353 = ad354 := (by injection e354)
             replace p354 := eq_true p354
             replace q354 := eq_true q354
             have p355 : 0 ≤ (x4_1 : Int) := of_decide_eq_true (by first|(with_reducible assumption)|assumption)
             have q355 : x4_1 < (l0.length : Int) := of_decide_eq_true (by first|(with_reducible assumption)|assumption)
             obtain ⟨ad355, e355, hx355_0⟩ := Kd.at_int HR0.out x4_1 p355 q355
             obtain rfl : ad353 = ad355 := (by injection e355)
             replace p355 := eq_true p355
             replace q355 := eq_true q355
             have p356 : 0 ≤ (x4_1 : Int) := of_decide_eq_true (by first|(with_reducible assumption)|assumption)
             have q356 : x4_1 < (l0.length : Int) := of_decide_eq_true (by first|(with_reducible assumption)|assumption)
             obtain ⟨ad356, e356, hx356_0⟩ := Kd.at_int HR0.out x4_1 p356 q356
             obtain rfl : ad353 = ad356 := (by injection e356)
             replace p356 := eq_true p356
             replace q356 := eq_true q356
             go_wp2
             repeat (go_quiet (fail);try go_wp2)
             go_roundg k1
             case measure => have := HK1.out;omega
             case rel => exact ⟨((x3_1 ++ vs0) ++ vs1), (wrap64 (x4_1 + 1)), (by first|rfl|(simp;done)|(simp only [← hji4, ← hji9] <;> (first|rfl|simp))|(simp [*];done)), (by first|rfl|(simp;done)|(simp [*];done)), H', ⟨by have := HK1.out;omega⟩, by repeat (first|exact Drawn0.refl _|apply Drawn0.step)⟩
            ·rw [if_neg c13] at H
             exact absurd H (by simp)
           ·rw [if_neg c12] at H
            exact absurd H (by simp)
          ·rw [if_neg c11] at H
           exact absurd H (by simp)
         ·rw [if_neg c10] at H
          exact absurd H (by simp)
        ·rw [if_neg c8] at H
         exact absurd H (by simp)
       ·rw [if_neg c7] at H
        exact absurd H (by simp)
      ·rw [if_neg c6] at H
       exact absurd H (by simp)
     ·rw [if_neg c5] at H
      exact absurd H (by simp)
    ·rw [if_neg c3] at H
     exact absurd H (by simp)
   ·rw [if_neg c2] at H
    have c2b0 : decide (x4_1 < (l0.length : Int)) = false := decide_eq_false c2
    clear c2
    obtain rfl := Option.some.inj H
    go_wp2
    repeat (go_quiet (fail);try go_wp2)
    go_ret
    exact ⟨by first|rfl|(simp;done)|(simp [*];done), by repeat (first|exact Drawn0.refl _|apply Drawn0.step)⟩
end Go.Proofs.YthdiiiopjkaifaaGreatDoor.Pall

import Derived.Test.YthdiiiopjkaifaaGreatDoorZdPall0
import Derived.Test.YthdiiiopjkaifaaGreatDoorZdPall9
namespace Go.Proofs.YthdiiiopjkaifaaGreatDoor.Pall
open Go.RowKit Go.Proofs.YthdiiiopjkaifaaGreatDoorW.PrintWords Go.Proofs.YthdiiiopjkaifaaGreatDoorW.PrintLast
set_option linter.unusedVariables false
set_option linter.unusedSimpArgs false
mutual
def wicketmanref10_Print.j0 : Nat → Bool → Int → List (S76) → List Int → Option (List Int × Int)
 | 0, _, _, _, _ => none
 | k + 1, x21, x219000, x219001, x219002 => if x21 = true then (some (([] : List Int), 3)) else ((strconv_Itoa.f x219000).bind fun t220 => (if 9 + t220.size ≤ 9223372036854775807 then (if ((⟨#[72, 84, 84, 80, 47, 49, 46, 49, 32]⟩ : BA) ++ t220).size + 1 ≤ 9223372036854775807 then ((wicketmanref10_Reason.f k x219000).bind fun t221 => (if (((⟨#[72, 84, 84, 80, 47, 49, 46, 49, 32]⟩ : BA) ++ t220) ++ (⟨#[32]⟩ : BA)).size + t221.size ≤ 9223372036854775807 then (if ((((⟨#[72, 84, 84, 80, 47, 49, 46, 49, 32]⟩ : BA) ++ t220) ++ (⟨#[32]⟩ : BA)) ++ t221).size + 2 ≤ 9223372036854775807 then (wicketmanref10_Print.l0 k (((((⟨#[72, 84, 84, 80, 47, 49, 46, 49, 32]⟩ : BA) ++ t220) ++ (⟨#[32]⟩ : BA)) ++ t221) ++ (⟨#[13, 10]⟩ : BA)) 0 x219000 x219001 x219002) else (none)) else (none))) else (none)) else (none)))
def wicketmanref10_Print.l0 : Nat → ByteArray → Int → Int → List (S76) → List Int → Option (List Int × Int)
 | 0, _, _, _, _, _ => none
 | k + 1, x4, x5, x219000, x219001, x219002 => if x5 < (x219001.length : Int) then (if 0 ≤ x5 then ((wicketmanref08_Print.f k ((rd_T76 x219001 x5).f0) ((rd_T76 x219001 x5).f1)).bind fun bt223 => (if bt223.2 = 0 then (if x4.size + bt223.1.size ≤ 9223372036854775807 then (if (x4 ++ bt223.1).size + 2 ≤ 9223372036854775807 then (wicketmanref10_Print.l0 k ((x4 ++ bt223.1) ++ (⟨#[13, 10]⟩ : BA)) (wrap64 (x5 + 1)) x219000 x219001 x219002) else (none)) else (none)) else (some (([] : List Int), bt223.2)))) else (none)) else (if x4.size + 16 ≤ 9223372036854775807 then ((strconv_Itoa.f (x219002.length : Int)).bind fun t225 => (if (x4 ++ (⟨#[67, 111, 110, 116, 101, 110, 116, 45, 76, 101, 110, 103, 116, 104, 58, 32]⟩ : BA)).size + t225.size ≤ 9223372036854775807 then (if ((x4 ++ (⟨#[67, 111, 110, 116, 101, 110, 116, 45, 76, 101, 110, 103, 116, 104, 58, 32]⟩ : BA)) ++ t225).size + 4 ≤ 9223372036854775807 then (if (((x4 ++ (⟨#[67, 111, 110, 116, 101, 110, 116, 45, 76, 101, 110, 103, 116, 104, 58, 32]⟩ : BA)) ++ t225) ++ (⟨#[13, 10, 13, 10]⟩ : BA)).size + (strOfNums x219002).size ≤ 9223372036854775807 then (if ((((x4 ++ (⟨#[67, 111, 110, 116, 101, 110, 116, 45, 76, 101, 110, 103, 116, 104, 58, 32]⟩ : BA)) ++ t225) ++ (⟨#[13, 10, 13, 10]⟩ : BA)) ++ (strOfNums x219002)).size ≤ 140737488351232 then (some ((btsOf ((((x4 ++ (⟨#[67, 111, 110, 116, 101, 110, 116, 45, 76, 101, 110, 103, 116, 104, 58, 32]⟩ : BA)) ++ t225) ++ (⟨#[13, 10, 13, 10]⟩ : BA)) ++ (strOfNums x219002))), 0)) else (none)) else (none)) else (none)) else (none))) else (none))
end
def wicketmanref10_Print.f (k : Nat) (a0_0 : Int) (l0_1 : List (S76)) (l0_2 : List Int) : Option (List Int × Int) := (wicketmanref10_Reason.f k a0_0).bind fun t219 => (if t219.toList = ([] : List UInt8) then (some (([] : List Int), 1)) else (if (l0_2.length : Int) > 4000 then (wicketmanref10_Print.j0 k true a0_0 l0_1 l0_2) else (wicketmanref10_Print.j0 k (decide ((l0_1.length : Int) > 40)) a0_0 l0_1 l0_2)))
theorem wicketmanref10_Print.mono_l : ∀ k, (∀ y0 y1 y2 y3, LeO (wicketmanref10_Print.j0 k y0 y1 y2 y3) (wicketmanref10_Print.j0 (k + 1) y0 y1 y2 y3)) ∧ (∀ y0 y1 y2 y3 y4, LeO (wicketmanref10_Print.l0 k y0 y1 y2 y3 y4) (wicketmanref10_Print.l0 (k + 1) y0 y1 y2 y3 y4))
 | 0 => ⟨fun _ _ _ _ r h => by simp [wicketmanref10_Print.j0] at h, fun _ _ _ _ _ r h => by simp [wicketmanref10_Print.l0] at h⟩
 | k + 1 => by
  obtain ⟨ih0, ih1⟩ := wicketmanref10_Print.mono_l k
  refine ⟨?_, ?_⟩
  ·intro y0 y1 y2 y3
   unfold wicketmanref10_Print.j0
   repeat' first|(with_reducible first|exact ih0 _ _ _ _|exact ih1 _ _ _ _ _|exact wicketmanref08_Print.mono _ _ _|exact wicketmanref10_Reason.mono _ _|exact LeO.refl _|exact LeO.none _|refine LeO.ite ?_ ?_|refine LeO.bind ?_ (fun _ => ?_))|exact LeO.none _|refine LeO.ite ?_ ?_|refine LeO.bind ?_ (fun _ => ?_)
  ·intro y0 y1 y2 y3 y4
   unfold wicketmanref10_Print.l0
   repeat' first|(with_reducible first|exact ih0 _ _ _ _|exact ih1 _ _ _ _ _|exact wicketmanref08_Print.mono _ _ _|exact wicketmanref10_Reason.mono _ _|exact LeO.refl _|exact LeO.none _|refine LeO.ite ?_ ?_|refine LeO.bind ?_ (fun _ => ?_))|exact LeO.none _|refine LeO.ite ?_ ?_|refine LeO.bind ?_ (fun _ => ?_)
theorem wicketmanref10_Print.mono : ∀ a0 a1 a2 k, LeO (wicketmanref10_Print.f k a0 a1 a2) (wicketmanref10_Print.f (k + 1) a0 a1 a2) := by
 intro a0 a1 a2 k
 obtain ⟨ih0, ih1⟩ := wicketmanref10_Print.mono_l k
 unfold wicketmanref10_Print.f
 repeat' first|(with_reducible first|exact ih0 _ _ _ _|exact ih1 _ _ _ _ _|exact wicketmanref08_Print.mono _ _ _|exact wicketmanref10_Reason.mono _ _|exact LeO.refl _|exact LeO.none _|refine LeO.ite ?_ ?_|refine LeO.bind ?_ (fun _ => ?_))|exact LeO.none _|refine LeO.ite ?_ ?_|refine LeO.bind ?_ (fun _ => ?_)
def wicketmanref10_Print.T5 : Bool × List (List Nat × List Nat) := (true, [([], []), ([0], [0]), ([1], [1]), ([2], [2]), ([3], [3]), ([], []), ([5], [5]), ([6, 2], [6]), ([4, 7], [4, 7]), ([8], [8]), ([9, 7, 0, 1, 2, 3, 4, 5, 6, 7, 8, 9], [9])])
def wicketmanref10_Print.B5 : List Nat := [0, 1, 3, 7, 15, 0, 32, 103, 255, 511, 1023]
theorem wicketmanref10_Print.tab5 : rtab .any (opsOf Tryz.f61 5) = wicketmanref10_Print.T5 := by kernel_rfl
theorem wicketmanref10_Print.bits5 : waitsOk wicketmanref10_Print.T5.2 wicketmanref10_Print.B5 = true := by kernel_rfl
def wicketmanref10_Print.T13 : Bool × List (List Nat × List Nat) := (true, [([], []), ([0], [0]), ([], []), ([2], [2]), ([3], [3]), ([4], [4]), ([1, 5], [1, 5]), ([6], [6]), ([], []), ([8], [8]), ([9], [9]), ([7, 10], [7, 10]), ([11, 5, 0, 1, 2, 3, 4, 5, 6, 7, 8, 9, 10, 11], [0, 11])])
def wicketmanref10_Print.B13 : List Nat := [0, 1, 0, 4, 12, 28, 63, 127, 0, 256, 768, 2047, 4095]
theorem wicketmanref10_Print.tab13 : rtab .any (opsOf Tryz.f61 13) = wicketmanref10_Print.T13 := by kernel_rfl
theorem wicketmanref10_Print.bits13 : waitsOk wicketmanref10_Print.T13.2 wicketmanref10_Print.B13 = true := by kernel_rfl
set_option maxHeartbeats 8000000 in
set_option maxRecDepth 100000 in
theorem wicketmanref10_Print.calls (k : Nat) (a0_0 : Int) (A0_1 : Option Addr) (c0_1 : Nat) (l0_1 : List (S76)) (A0_2 : Option Addr) (c0_2 : Nat) (l0_2 : List Int) (r1 : List Int) (r2 : Int) (w : World) (hr0_1 : Kd.C k76 w A0_1 l0_1.length l0_1) (hc0_1 : l0_1.length ≤ c0_1) (hr0_2 : Kd.C (Kd.int .u8) w A0_2 l0_2.length l0_2) (hc0_2 : l0_2.length ≤ c0_2) (hT : Tb w) (h : wicketmanref10_Print.f k a0_0 l0_1 l0_2 = some (r1, r2)) :
  Calls Tryz.prog 61 #[.agg #[.int .i64 a0_0, .slice A0_1 l0_1.length c0_1, .slice A0_2 l0_2.length c0_2]] w fun e w' => ∃ v0_ : Value, e = .returned (.tuple #[v0_, .int .i64 r2]) ∧ Kd.V (Kd.int .u8) 5 w' w.heap.size (fun k_ => (w.heap.size ≤ k_)) v0_ r1 ∧ Below w.heap.size w w' := by
 have hu71 := Tryz.underlying71
 have hu76 := Tryz.underlying76
 have HR0_1 := aK hr0_1
 have HC0_1 := aK hc0_1
 clear hr0_1 hc0_1
 have HR0_2 := aK hr0_2
 have HC0_2 := aK hc0_2
 clear hr0_2 hc0_2
 have HB := aK (Below.refl w.heap.size w)
 have H : ((wicketmanref10_Reason.f k a0_0).bind fun t219 => (if t219.toList = ([] : List UInt8) then (some (([] : List Int), 1)) else (if (l0_2.length : Int) > 4000 then (wicketmanref10_Print.j0 k true a0_0 l0_1 l0_2) else (wicketmanref10_Print.j0 k (decide ((l0_1.length : Int) > 40)) a0_0 l0_1 l0_2)))) = some (r1, r2) := h
 clear h
 replace H := Option.bind_eq_some_iff.mp H
 obtain ⟨t219, A20, H⟩ := H
 try dsimp only at H
 have A2 := aK A20
 clear A20
 by_cases c3 : t219.toList = ([] : List UInt8)
 ·rw [if_pos c3] at H
  have c3b0 : (t219.toList == ([] : List UInt8)) = true := beq_iff_eq.mpr c3
  have c3b1 : (t219.toList != ([] : List UInt8)) = false := bne_eq_false_iff_eq.mpr c3
  clear c3
  simp only [Option.some.injEq, Prod.mk.injEq] at H
  obtain ⟨rfl, rfl⟩ := H
  go_enter Tryz.func61, Tryz.ntmps61
  go_wp2_with (first|((with_reducible refine gate_dst (N := 1) rfl ?_);(try (refine gate_guard (by rfl) ?_;dsimp only));refine box_event ?hg (N := 1) ?hd (cs := #[.int .i64 a0_0, .slice A0_1 l0_1.length c0_1, .slice A0_2 l0_2.length c0_2]) (t := 71) ?hr ?_;(case hd => rfl);(case hg => rfl);(case hr => first|(go_simp;done)|(go_simp;rfl));intro gb218 hg w4 hbox hb;have n0_ := aK (below_step (by repeat (first|(with_reducible first|apply bA|apply bN|apply bD)|exact HB.out)) hb);have n1_ := aK (hbox);have n2_ := aK ((by rw [hg];exact (below_size (by repeat (first|(with_reducible first|apply bA|apply bN|apply bD)|exact HB.out))) : w.heap.size ≤ gb218));have n3_ := aK ((by rw [hg];exact (below_size (by repeat (first|(with_reducible first|apply bA|apply bN|apply bD)|exact HB.out))) : w.heap.size ≤ gb218));clear HB;have HB := n0_;have BK218 := n1_;have GW218 := n2_;have GE218 := n3_;clear n0_ n1_ n2_ n3_;clear hb hbox hg;have hcz5_0 : w4.cell? ⟨gb218, 0, none⟩ = some (.int .i64 a0_0) := (blk_cell BK218.out 0).trans rfl;have hcz5_1 : w4.cell? ⟨gb218, 1, none⟩ = some (.slice A0_1 l0_1.length c0_1) := (blk_cell BK218.out 1).trans rfl;have hcz5_2 : w4.cell? ⟨gb218, 2, none⟩ = some (.slice A0_2 l0_2.length c0_2) := (blk_cell BK218.out 2).trans rfl;have hfz5_0 := blk_frozen BK218.out 0;have hfz5_1 := blk_frozen BK218.out 1;have hfz5_2 := blk_frozen BK218.out 2)|((with_reducible refine gate_callee (f := 91) rfl ?_);refine goesL_ (some 10) rfl rfl Tryz.func91 (by kernel_rfl) rfl #[.int .i64 a0_0] rfl (by (try simp only [List.map_toArray, List.map_cons, List.map_nil]);first|done|rfl|(simp only [List.length_drop, List.length_take];rfl)) ?_;(with_reducible refine (wicketmanref10_Reason.calls k a0_0 t219 _ A2.out).mono ?_);rintro e w6 ⟨rfl, hb⟩;refine ⟨_, rfl, ?_⟩;have n0_ := aK (blk_below (g := gb218) (o := .cells #[.int .i64 a0_0, .slice A0_1 l0_1.length c0_1, .slice A0_2 l0_2.length c0_2] 71 (0, 0)) (by (with_reducible repeat (first|refine blk_drewN ?_ _|refine blk_drew ?_|refine blk_alloc ?_ _));exact BK218.out) hb);have n1_ := aK (below_step (by repeat (first|(with_reducible first|apply bA|apply bN|apply bD|refine below_set ?_ GE218.out)|exact HB.out)) hb);clear BK218;clear HB;have BK218 := n0_;have HB := n1_;clear n0_ n1_;try clear hb))
  go_ret2
  exact ⟨_, by first|rfl|(simp [errW_none, errW_some] <;> rfl)|(simp [*, errW_none, errW_some] <;> rfl), Kd.V_nil _ _ _ _ _, by repeat (first|(with_reducible first|apply bA|apply bN|apply bD|refine below_set ?_ GE218.out)|exact HB.out)⟩
 ·rw [if_neg c3] at H
  have c3b0 : (t219.toList == ([] : List UInt8)) = false := beq_eq_false_iff_ne.mpr c3
  have c3b1 : (t219.toList != ([] : List UInt8)) = true := bne_iff_ne.mpr c3
  have HC7 := aK H
  clear H
  go_enter Tryz.func61, Tryz.ntmps61
  go_upto_region 3 with (first|((with_reducible refine gate_dst (N := 1) rfl ?_);(try (refine gate_guard (by rfl) ?_;dsimp only));refine box_event ?hg (N := 1) ?hd (cs := #[.int .i64 a0_0, .slice A0_1 l0_1.length c0_1, .slice A0_2 l0_2.length c0_2]) (t := 71) ?hr ?_;(case hd => rfl);(case hg => rfl);(case hr => first|(go_simp;done)|(go_simp;rfl));intro gb218 hg w8 hbox hb;have n0_ := aK (below_step (by repeat (first|(with_reducible first|apply bA|apply bN|apply bD)|exact HB.out)) hb);have n1_ := aK (hbox);have n2_ := aK ((by rw [hg];exact (below_size (by repeat (first|(with_reducible first|apply bA|apply bN|apply bD)|exact HB.out))) : w.heap.size ≤ gb218));have n3_ := aK ((by rw [hg];exact (below_size (by repeat (first|(with_reducible first|apply bA|apply bN|apply bD)|exact HB.out))) : w.heap.size ≤ gb218));clear HB;have HB := n0_;have BK218 := n1_;have GW218 := n2_;have GE218 := n3_;clear n0_ n1_ n2_ n3_;clear hb hbox hg;have hcz9_0 : w8.cell? ⟨gb218, 0, none⟩ = some (.int .i64 a0_0) := (blk_cell BK218.out 0).trans rfl;have hcz9_1 : w8.cell? ⟨gb218, 1, none⟩ = some (.slice A0_1 l0_1.length c0_1) := (blk_cell BK218.out 1).trans rfl;have hcz9_2 : w8.cell? ⟨gb218, 2, none⟩ = some (.slice A0_2 l0_2.length c0_2) := (blk_cell BK218.out 2).trans rfl;have hfz9_0 := blk_frozen BK218.out 0;have hfz9_1 := blk_frozen BK218.out 1;have hfz9_2 := blk_frozen BK218.out 2)|((with_reducible refine gate_callee (f := 91) rfl ?_);refine goesL_ (some 10) rfl rfl Tryz.func91 (by kernel_rfl) rfl #[.int .i64 a0_0] rfl (by (try simp only [List.map_toArray, List.map_cons, List.map_nil]);first|done|rfl|(simp only [List.length_drop, List.length_take];rfl)) ?_;(with_reducible refine (wicketmanref10_Reason.calls k a0_0 t219 _ A2.out).mono ?_);rintro e w10 ⟨rfl, hb⟩;refine ⟨_, rfl, ?_⟩;have n0_ := aK (blk_below (g := gb218) (o := .cells #[.int .i64 a0_0, .slice A0_1 l0_1.length c0_1, .slice A0_2 l0_2.length c0_2] 71 (0, 0)) (by (with_reducible repeat (first|refine blk_drewN ?_ _|refine blk_drew ?_|refine blk_alloc ?_ _));exact BK218.out) hb);have n1_ := aK (below_step (by repeat (first|(with_reducible first|apply bA|apply bN|apply bD|refine below_set ?_ GE218.out)|exact HB.out)) hb);clear BK218;clear HB;have BK218 := n0_;have HB := n1_;clear n0_ n1_;try clear hb))
  (try simp only [Act.put, List.setIfInBounds_toArray, List.set_cons_zero, List.set_cons_succ])
  go_cut [21] (fun v21 wc => ∃ (kq : Nat) (x21_6 : Bool), v21 = .bool x21_6 ∧ Aside0 (wicketmanref10_Print.j0 kq x21_6 a0_0 l0_1 l0_2 = some (r1, r2)) ∧ Aside0 (kq ≤ k) ∧ Aside0 (wc.heap[gb218]? = some (.cells #[.int .i64 a0_0, (.slice A0_1 l0_1.length c0_1), (.slice A0_2 l0_2.length c0_2)] 71 (0, 0))) ∧ Aside0 (Below w.heap.size w wc))
  case first =>
   have H := HC7.out
   clear HC7
   by_cases c11 : (l0_2.length : Int) > 4000
   ·rw [if_pos c11] at H
    have c11b0 : decide (4000 < (l0_2.length : Int)) = true := decide_eq_true c11
    have c11b1 : decide (4000 < l0_2.length) = true := decide_eq_true (by omega)
    clear c11
    (first|rw [c11b0]|(simp only [i64_w, i32_w];rw [c11b0])|skip)
    have H' := aK H
    clear H
    have hcz12_0 : w10.cell? ⟨gb218, 0, none⟩ = some (.int .i64 a0_0) := (blk_cell BK218.out 0).trans rfl
    have hcz12_1 : w10.cell? ⟨gb218, 1, none⟩ = some (.slice A0_1 l0_1.length c0_1) := (blk_cell BK218.out 1).trans rfl
    have hcz12_2 : w10.cell? ⟨gb218, 2, none⟩ = some (.slice A0_2 l0_2.length c0_2) := (blk_cell BK218.out 2).trans rfl
    have hfz12_0 := blk_frozen BK218.out 0
    have hfz12_1 := blk_frozen BK218.out 1
    have hfz12_2 := blk_frozen BK218.out 2
    go_wp2
    go_meet
    case rel => exact ⟨_, (true), (by first|rfl|(simp;done)|(simp [*];done)), H', ⟨by first|omega|exact Nat.le_refl _⟩, ⟨by (with_reducible repeat (first|refine blk_drewN ?_ _|refine blk_drew ?_|refine blk_alloc ?_ _));exact BK218.out⟩, ⟨by repeat (first|(with_reducible first|apply bA|apply bN|apply bD|refine below_set ?_ GE218.out)|exact HB.out)⟩⟩
   ·rw [if_neg c11] at H
    have c11b0 : decide (4000 < (l0_2.length : Int)) = false := decide_eq_false c11
    have c11b1 : decide (4000 < l0_2.length) = false := decide_eq_false (by omega)
    clear c11
    (first|rw [c11b0]|(simp only [i64_w, i32_w];rw [c11b0])|skip)
    have H' := aK H
    clear H
    have hcz13_0 : w10.cell? ⟨gb218, 0, none⟩ = some (.int .i64 a0_0) := (blk_cell BK218.out 0).trans rfl
    have hcz13_1 : w10.cell? ⟨gb218, 1, none⟩ = some (.slice A0_1 l0_1.length c0_1) := (blk_cell BK218.out 1).trans rfl
    have hcz13_2 : w10.cell? ⟨gb218, 2, none⟩ = some (.slice A0_2 l0_2.length c0_2) := (blk_cell BK218.out 2).trans rfl
    have hfz13_0 := blk_frozen BK218.out 0
    have hfz13_1 := blk_frozen BK218.out 1
    have hfz13_2 := blk_frozen BK218.out 2
    go_wp2
    go_meet
    case rel => exact ⟨_, (decide ((l0_1.length : Int) > 40)), (by first|rfl|(simp;done)|(simp [*];done)), H', ⟨by first|omega|exact Nat.le_refl _⟩, ⟨by (with_reducible repeat (first|refine blk_drewN ?_ _|refine blk_drew ?_|refine blk_alloc ?_ _));exact BK218.out⟩, ⟨by repeat (first|(with_reducible first|apply bA|apply bN|apply bD|refine below_set ?_ GE218.out)|exact HB.out)⟩⟩
  case rest =>
   clear HC7
   try clear c1
   try clear p2
   try clear c3
   try clear c3b0
   try clear c3b1
   try clear c6
   try clear c9
   try clear c11
   try clear c11b0
   try clear c11b1
   try clear hcz12_0
   try clear hcz12_1
   try clear hcz12_2
   try clear hcz13_0
   try clear hcz13_1
   try clear hcz13_2
   try clear hcz5_0
   try clear hcz5_1
   try clear hcz5_2
   try clear hcz9_0
   try clear hcz9_1
   try clear hcz9_2
   try clear hfz12_0
   try clear hfz12_1
   try clear hfz12_2
   try clear hfz13_0
   try clear hfz13_1
   try clear hfz13_2
   try clear hfz5_0
   try clear hfz5_1
   try clear hfz5_2
   try clear hfz9_0
   try clear hfz9_1
   try clear hfz9_2
   obtain ⟨kq, x21_6, rfl, HA, HJ6, BK218, HB⟩ := hcut
   cases kq with
   | zero => exact absurd HA.out (by simp [wicketmanref10_Print.j0])
   | succ kj6 =>
    have H := HA.out
    clear HA
    simp only [wicketmanref10_Print.j0] at H
    by_cases c14 : x21_6 = true
    ·subst c14
     rw [if_pos rfl] at H
     simp only [Option.some.injEq, Prod.mk.injEq] at H
     obtain ⟨rfl, rfl⟩ := H
     go_wp2
     go_ret2
     exact ⟨_, by first|rfl|(simp [errW_none, errW_some] <;> rfl)|(simp [*, errW_none, errW_some] <;> rfl), Kd.V_nil _ _ _ _ _, by repeat (first|(with_reducible first|apply bA|apply bN|apply bD|refine below_set ?_ GE218.out)|exact HB.out)⟩
    ·replace c14 := Bool.eq_false_iff.mpr c14
     subst c14
     rw [if_neg (show ¬ (false = true) by decide)] at H
     replace H := Option.bind_eq_some_iff.mp H
     obtain ⟨t220, A150, H⟩ := H
     try dsimp only at H
     have A15 := aK A150
     clear A150
     by_cases c16 : 9 + t220.size ≤ 9223372036854775807
     ·rw [if_pos c16] at H
      have c16b0 := eq_true c16
      have c16b1 : decide (9 + t220.size ≤ 9223372036854775807) = true := decide_eq_true c16
      try have c16b2 : (9223372036854775807 < 9 + t220.size) = False := eq_false (Nat.not_lt.2 c16)
      by_cases c17 : ((⟨#[72, 84, 84, 80, 47, 49, 46, 49, 32]⟩ : BA) ++ t220).size + 1 ≤ 9223372036854775807
      ·rw [if_pos c17] at H
       have c17b0 := eq_true c17
       have c17b1 : decide (((⟨#[72, 84, 84, 80, 47, 49, 46, 49, 32]⟩ : BA) ++ t220).size + 1 ≤ 9223372036854775807) = true := decide_eq_true c17
       try have c17b2 : (9223372036854775807 < ((⟨#[72, 84, 84, 80, 47, 49, 46, 49, 32]⟩ : BA) ++ t220).size + 1) = False := eq_false (Nat.not_lt.2 c17)
       try (have c17b8 := c17b2;simp only [ByteArray.size_append, show ((⟨#[72, 84, 84, 80, 47, 49, 46, 49, 32]⟩ : BA) : ByteArray).size = 9 from rfl] at c17b8)
       replace H := Option.bind_eq_some_iff.mp H
       obtain ⟨t221, A180, H⟩ := H
       try dsimp only at H
       have A18 := aK A180
       clear A180
       by_cases c19 : (((⟨#[72, 84, 84, 80, 47, 49, 46, 49, 32]⟩ : BA) ++ t220) ++ (⟨#[32]⟩ : BA)).size + t221.size ≤ 9223372036854775807
       ·rw [if_pos c19] at H
        have c19b0 := eq_true c19
        have c19b1 : decide ((((⟨#[72, 84, 84, 80, 47, 49, 46, 49, 32]⟩ : BA) ++ t220) ++ (⟨#[32]⟩ : BA)).size + t221.size ≤ 9223372036854775807) = true := decide_eq_true c19
        try have c19b2 : (9223372036854775807 < (((⟨#[72, 84, 84, 80, 47, 49, 46, 49, 32]⟩ : BA) ++ t220) ++ (⟨#[32]⟩ : BA)).size + t221.size) = False := eq_false (Nat.not_lt.2 c19)
        try (have c19b8 := c19b2;simp only [ByteArray.size_append, show ((⟨#[32]⟩ : BA) : ByteArray).size = 1 from rfl, show ((⟨#[72, 84, 84, 80, 47, 49, 46, 49, 32]⟩ : BA) : ByteArray).size = 9 from rfl] at c19b8)
        by_cases c20 : ((((⟨#[72, 84, 84, 80, 47, 49, 46, 49, 32]⟩ : BA) ++ t220) ++ (⟨#[32]⟩ : BA)) ++ t221).size + 2 ≤ 9223372036854775807
        ·rw [if_pos c20] at H
         have c20b0 := eq_true c20
         have c20b1 : decide (((((⟨#[72, 84, 84, 80, 47, 49, 46, 49, 32]⟩ : BA) ++ t220) ++ (⟨#[32]⟩ : BA)) ++ t221).size + 2 ≤ 9223372036854775807) = true := decide_eq_true c20
         try have c20b2 : (9223372036854775807 < ((((⟨#[72, 84, 84, 80, 47, 49, 46, 49, 32]⟩ : BA) ++ t220) ++ (⟨#[32]⟩ : BA)) ++ t221).size + 2) = False := eq_false (Nat.not_lt.2 c20)
         try (have c20b8 := c20b2;simp only [ByteArray.size_append, show ((⟨#[32]⟩ : BA) : ByteArray).size = 1 from rfl, show ((⟨#[72, 84, 84, 80, 47, 49, 46, 49, 32]⟩ : BA) : ByteArray).size = 9 from rfl] at c20b8)
         have H' := aK H
         clear H
         try go_wp2
         have n0_ := aK (blk_drew BK218.out)
         have n1_ := aK (below_drew1 HB.out)
         clear BK218
         clear HB
         have BK218 := n0_
         have HB := n1_
         clear n0_ n1_
         refine start_ (n := 11) (S := fun w' => w'.cell? ⟨gb218, 0, none⟩ = some (.int .i64 a0_0) ∧ w'.cell? ⟨gb218, 1, none⟩ = some (.slice A0_1 l0_1.length c0_1) ∧ w'.cell? ⟨gb218, 2, none⟩ = some (.slice A0_2 l0_2.length c0_2)) (ds := []) #[false, false, false, false, false, false, false, false, false, false, false] (by kernel_rfl) rfl rfl ⟨(blk_cell BK218.out 0).trans rfl, (blk_cell BK218.out 1).trans rfl, (blk_cell BK218.out 2).trans rfl⟩ (fun hHeld => ?_);refine with_tabW wicketmanref10_Print.tab5 wicketmanref10_Print.bits5 (fun HT_ HW_ => ?_)
         generalize wc.drew = w21 at BK218 HB hHeld ⊢
         refine pure_ (i := 0) (N := some 22) (v := ?_) (a' := ?_) #[true, false, false, false, false, false, false, false, false, false, false] rfl rfl (any_of HT_.out (by kernel_rfl)) (fun _ _ _ h => h) (Or.inl ⟨by rfl, ?_⟩) ?_ ?_
         rotate_left
         ·intro w'
          go_simp
          with_reducible rfl
         rotate_left
         ·simp only [Act.put, List.setIfInBounds_toArray, List.set_cons_zero, List.set_cons_succ, i64_w, i32_w]
          rfl
         refine pure_ (i := 5) (N := some 27) (v := ?_) (a' := ?_) #[true, false, false, false, false, true, false, false, false, false, false] rfl rfl (any_of HT_.out (by kernel_rfl)) (fun _ _ _ h => h) (Or.inl ⟨by rfl, ?_⟩) ?_ ?_
         rotate_left
         ·intro w'
          go_simp
          with_reducible rfl
         rotate_left
         ·simp only [Act.put, List.setIfInBounds_toArray, List.set_cons_zero, List.set_cons_succ, i64_w, i32_w]
          rfl
         refine take_ (i := 1) (N := some 23) (v := ?_) (a' := ?_) #[true, true, false, false, false, true, false, false, false, false, false] rfl rfl (take_ofW HT_.out HW_.out (by kernel_rfl)) (fun _ _ _ h => h) (Or.inl ⟨by rfl, ?_⟩) hHeld ?_ ?_
         rotate_left
         ·rintro w' ⟨s0, s1, s2⟩
          go_simp
          with_reducible rfl
         rotate_left
         ·simp only [Act.put, List.setIfInBounds_toArray, List.set_cons_zero, List.set_cons_succ, i64_w, i32_w]
          rfl
         refine take_ (i := 6) (N := some 28) (v := ?_) (a' := ?_) #[true, true, false, false, false, true, true, false, false, false, false] rfl rfl (take_ofW HT_.out HW_.out (by kernel_rfl)) (fun _ _ _ h => h) (Or.inl ⟨by rfl, ?_⟩) hHeld ?_ ?_
         rotate_left
         ·rintro w' ⟨s0, s1, s2⟩
          go_simp
          with_reducible rfl
         rotate_left
         ·simp only [Act.put, List.setIfInBounds_toArray, List.set_cons_zero, List.set_cons_succ, i64_w, i32_w]
          rfl
         refine one_ (i := 2) (N := some 24) #[true, true, true, false, false, true, true, false, false, false, false] rfl rfl (one_of HT_.out (by kernel_rfl)) (by decide) (fun K hK => ?_)
         refine goes_ Tryz.func112 (by kernel_rfl) rfl #[.int .i64 a0_0] (by rfl) rfl rfl (by (try simp only [List.map_toArray, List.map_cons, List.map_nil]);first|done|rfl|(simp only [List.length_drop, List.length_take];rfl)) ?_
         with_reducible refine (strconv_Itoa.calls a0_0 t220 _ (by first|exact hT|(refine Tb.of_below hT ?_;repeat (first|(with_reducible first|apply bA|apply bN|apply bD)|exact HB.out|refine Below.setCell ?_ (Aside0.out (by assumption)) _))|(refine Tb.of_below hT ?_;assumption)) A15.out).mono ?_
         rintro e w22 ⟨rfl, hb⟩
         refine ⟨_, rfl, ?_⟩
         have n0_ := aK (blk_below (g := gb218) (o := .cells #[.int .i64 a0_0, .slice A0_1 l0_1.length c0_1, .slice A0_2 l0_2.length c0_2] 71 (0, 0)) (by (with_reducible repeat (first|refine blk_drewN ?_ _|refine blk_drew ?_|refine blk_alloc ?_ _));exact BK218.out) hb)
         have n1_ := aK (below_step (by repeat (first|(with_reducible first|apply bA|apply bN|apply bD|refine below_set ?_ GE218.out)|exact HB.out)) hb)
         clear BK218
         clear HB
         have BK218 := n0_
         have HB := n1_
         clear n0_ n1_
         (try clear hb)
         (try clear hb2)
         (try clear hk)
         (try clear hi)
         refine hK.out _ _ ⟨(blk_cell BK218.out 0).trans rfl, (blk_cell BK218.out 1).trans rfl, (blk_cell BK218.out 2).trans rfl⟩ (fun hHeld => ?_)
         clear hK K
         refine norm_ (a' := ?_) ?_ ?_
         rotate_left
         ·show Act.put _ (some 24) _ = _
          simp only [Act.put, List.setIfInBounds_toArray, List.set_cons_zero, List.set_cons_succ, i64_w, i32_w]
          rfl
         refine pure_ (i := 3) (N := some 25) (v := ?_) (a' := ?_) #[true, true, true, true, false, true, true, false, false, false, false] rfl rfl (any_of HT_.out (by kernel_rfl)) (fun _ _ _ h => h) (Or.inl ⟨by rfl, ?_⟩) ?_ ?_
         rotate_left
         ·intro w'
          go_simp
          with_reducible rfl
         rotate_left
         ·simp only [Act.put, List.setIfInBounds_toArray, List.set_cons_zero, List.set_cons_succ, i64_w, i32_w]
          rfl
         refine pure_ (i := 4) (N := some 26) (v := ?_) (a' := ?_) #[true, true, true, true, true, true, true, false, false, false, false] rfl rfl (any_of HT_.out (by kernel_rfl)) (fun _ _ _ h => h) (Or.inl ⟨by rfl, ?_⟩) ?_ ?_
         rotate_left
         ·intro w'
          go_simp
          with_reducible rfl
         rotate_left
         ·simp only [Act.put, List.setIfInBounds_toArray, List.set_cons_zero, List.set_cons_succ, i64_w, i32_w]
          rfl
         refine one_ (i := 7) (N := some 29) #[true, true, true, true, true, true, true, true, false, false, false] rfl rfl (one_of HT_.out (by kernel_rfl)) (by decide) (fun K hK => ?_)
         refine goes_ Tryz.func91 (by kernel_rfl) rfl #[.int .i64 a0_0] (by rfl) rfl rfl (by (try simp only [List.map_toArray, List.map_cons, List.map_nil]);first|done|rfl|(simp only [List.length_drop, List.length_take];rfl)) ?_
         with_reducible refine (wicketmanref10_Reason.calls kj6 a0_0 t221 _ A18.out).mono ?_
         rintro e w23 ⟨rfl, hb⟩
         refine ⟨_, rfl, ?_⟩
         have n0_ := aK (blk_below (g := gb218) (o := .cells #[.int .i64 a0_0, .slice A0_1 l0_1.length c0_1, .slice A0_2 l0_2.length c0_2] 71 (0, 0)) (by (with_reducible repeat (first|refine blk_drewN ?_ _|refine blk_drew ?_|refine blk_alloc ?_ _));exact BK218.out) hb)
         have n1_ := aK (below_step (by repeat (first|(with_reducible first|apply bA|apply bN|apply bD|refine below_set ?_ GE218.out)|exact HB.out)) hb)
         clear BK218
         clear HB
         have BK218 := n0_
         have HB := n1_
         clear n0_ n1_
         (try clear hb)
         (try clear hb2)
         (try clear hk)
         (try clear hi)
         refine hK.out _ _ ⟨(blk_cell BK218.out 0).trans rfl, (blk_cell BK218.out 1).trans rfl, (blk_cell BK218.out 2).trans rfl⟩ (fun hHeld => ?_)
         clear hK K
         refine norm_ (a' := ?_) ?_ ?_
         rotate_left
         ·show Act.put _ (some 29) _ = _
          simp only [Act.put, List.setIfInBounds_toArray, List.set_cons_zero, List.set_cons_succ, i64_w, i32_w]
          rfl
         refine pure_ (i := 8) (N := some 30) (v := ?_) (a' := ?_) #[true, true, true, true, true, true, true, true, true, false, false] rfl rfl (any_of HT_.out (by kernel_rfl)) (fun _ _ _ h => h) (Or.inl ⟨by rfl, ?_⟩) ?_ ?_
         rotate_left
         ·intro w'
          go_simp
          with_reducible rfl
         rotate_left
         ·simp only [Act.put, List.setIfInBounds_toArray, List.set_cons_zero, List.set_cons_succ, i64_w, i32_w]
          rfl
         refine pure_ (i := 9) (N := some 31) (v := ?_) (a' := ?_) #[true, true, true, true, true, true, true, true, true, true, false] rfl rfl (any_of HT_.out (by kernel_rfl)) (fun _ _ _ h => h) (Or.inl ⟨by rfl, ?_⟩) ?_ ?_
         rotate_left
         ·intro w'
          go_simp
          with_reducible rfl
         rotate_left
         ·simp only [Act.put, List.setIfInBounds_toArray, List.set_cons_zero, List.set_cons_succ, i64_w, i32_w]
          rfl
         refine pure_ (i := 10) (N := some 4) (v := ?_) (a' := ?_) #[true, true, true, true, true, true, true, true, true, true, true] rfl rfl (any_of HT_.out (by kernel_rfl)) (fun _ _ _ h => h) (Or.inl ⟨by rfl, ?_⟩) ?_ ?_
         rotate_left
         ·intro w'
          go_simp
          with_reducible rfl
         rotate_left
         ·simp only [Act.put, List.setIfInBounds_toArray, List.set_cons_zero, List.set_cons_succ, i64_w, i32_w]
          rfl
         refine done_ (done_of HT_.out (by kernel_rfl)) ?_
         try go_wp2
         go_loopg [4, 5] kj6 (fun kq v4 v5 w' => ∃ (x4_2 : ByteArray) (x5_2 : Int), v4 = .string x4_2 ∧ v5 = .int .i64 x5_2 ∧ Aside0 (wicketmanref10_Print.l0 kq x4_2 x5_2 a0_0 l0_1 l0_2 = some (r1, r2)) ∧ Aside0 (kq ≤ kj6) ∧ Aside0 (w'.heap[gb218]? = some (.cells #[.int .i64 a0_0, (.slice A0_1 l0_1.length c0_1), (.slice A0_2 l0_2.length c0_2)] 71 (0, 0))) ∧ Aside0 (Below w.heap.size w w'))
         case atStart => exact ⟨(((((⟨#[72, 84, 84, 80, 47, 49, 46, 49, 32]⟩ : BA) ++ t220) ++ (⟨#[32]⟩ : BA)) ++ t221) ++ (⟨#[13, 10]⟩ : BA)), (0), (by first|rfl|(simp;done)|(simp [*];done)), (by first|rfl|(simp;done)|(simp [*];done)), H', ⟨Nat.le_refl _⟩, ⟨by (with_reducible repeat (first|refine blk_drewN ?_ _|refine blk_drew ?_|refine blk_alloc ?_ _));exact BK218.out⟩, ⟨by repeat (first|(with_reducible first|apply bA|apply bN|apply bD|refine below_set ?_ GE218.out)|exact HB.out)⟩⟩
         case round =>
          clear H'
          try clear c1
          try clear c2
          try clear p2
          try clear c3
          try clear c3b0
          try clear c3b1
          try clear c6
          try clear c9
          try clear c11
          try clear c11b0
          try clear c11b1
          try clear c14
          try clear c16
          try clear c16b0
          try clear c16b1
          try clear c16b2
          try clear c17
          try clear c17b0
          try clear c17b1
          try clear c17b2
          try clear c19
          try clear c19b0
          try clear c19b1
          try clear c19b2
          try clear c20
          try clear c20b0
          try clear c20b1
          try clear c20b2
          try clear hcz12_0
          try clear hcz12_1
          try clear hcz12_2
          try clear hcz13_0
          try clear hcz13_1
          try clear hcz13_2
          try clear hcz5_0
          try clear hcz5_1
          try clear hcz5_2
          try clear hcz9_0
          try clear hcz9_1
          try clear hcz9_2
          try clear hfz12_0
          try clear hfz12_1
          try clear hfz12_2
          try clear hfz13_0
          try clear hfz13_1
          try clear hfz13_2
          try clear hfz5_0
          try clear hfz5_1
          try clear hfz5_2
          try clear hfz9_0
          try clear hfz9_1
          try clear hfz9_2
          try clear p2
          obtain ⟨x4_2, x5_2, rfl, rfl, HA, HK2, BK218, HB⟩ := hrel
          cases gk with
          | zero => exact absurd HA.out (by simp [wicketmanref10_Print.l0])
          | succ k2 =>
           have H := HA.out
           clear HA
           simp only [wicketmanref10_Print.l0] at H
           by_cases c24 : x5_2 < (l0_1.length : Int)
           ·rw [if_pos c24] at H
            have c24b0 : decide (x5_2 < (l0_1.length : Int)) = true := decide_eq_true c24
            clear c24
            by_cases c25 : 0 ≤ x5_2
            ·rw [if_pos c25] at H
             have c25b0 : decide (0 ≤ x5_2) = true := decide_eq_true c25
             clear c25
             replace H := Option.bind_eq_some_iff.mp H
             obtain ⟨⟨t223, t224⟩, A260, H⟩ := H
             try dsimp only at H
             have A26 := aK A260
             clear A260
             by_cases c27 : t224 = 0
             ·rw [if_pos c27] at H
              have c27b0 : (t224 == 0) = true := beq_iff_eq.mpr c27
              have c27b1 : (t224 != 0) = false := bne_eq_false_iff_eq.mpr c27
              clear c27
              by_cases c28 : x4_2.size + t223.size ≤ 9223372036854775807
              ·rw [if_pos c28] at H
               have c28b0 := eq_true c28
               have c28b1 : decide (x4_2.size + t223.size ≤ 9223372036854775807) = true := decide_eq_true c28
               try have c28b2 : (9223372036854775807 < x4_2.size + t223.size) = False := eq_false (Nat.not_lt.2 c28)
               by_cases c29 : (x4_2 ++ t223).size + 2 ≤ 9223372036854775807
               ·rw [if_pos c29] at H
                have c29b0 := eq_true c29
                have c29b1 : decide ((x4_2 ++ t223).size + 2 ≤ 9223372036854775807) = true := decide_eq_true c29
                try have c29b2 : (9223372036854775807 < (x4_2 ++ t223).size + 2) = False := eq_false (Nat.not_lt.2 c29)
                try (have c29b8 := c29b2;simp only [ByteArray.size_append] at c29b8)
                have H' := aK H
                clear H
                have hcz30_0 : wr.cell? ⟨gb218, 0, none⟩ = some (.int .i64 a0_0) := (blk_cell BK218.out 0).trans rfl
                have hcz30_1 : wr.cell? ⟨gb218, 1, none⟩ = some (.slice A0_1 l0_1.length c0_1) := (blk_cell BK218.out 1).trans rfl
                have hcz30_2 : wr.cell? ⟨gb218, 2, none⟩ = some (.slice A0_2 l0_2.length c0_2) := (blk_cell BK218.out 2).trans rfl
                have hfz30_0 := blk_frozen BK218.out 0
                have hfz30_1 := blk_frozen BK218.out 1
                have hfz30_2 := blk_frozen BK218.out 2
                have p222 : 0 ≤ (x5_2 : Int) := of_decide_eq_true (by first|(with_reducible assumption)|assumption)
                have q222 : x5_2 < (l0_1.length : Int) := of_decide_eq_true (by first|(with_reducible assumption)|assumption)
                obtain ⟨ad222, e222, hx222_0, hx222_1⟩ := at_T76 HR0_1.out x5_2 p222 q222
                cases e222
                replace hx222_0 := (HB.out.cell (World.block_lt_of_cell? w _ hx222_0)).trans hx222_0
                replace hx222_1 := (HB.out.cell (World.block_lt_of_cell? w _ hx222_1)).trans hx222_1
                replace p222 := eq_true p222
                replace q222 := eq_true q222
                go_wp2_with (first|((with_reducible refine gate_callee (f := 65) rfl ?_);refine goesL_ (some 45) rfl rfl Tryz.func65 (by kernel_rfl) rfl #[.agg #[.string ((rd_T76 l0_1 x5_2).f0), .string ((rd_T76 l0_1 x5_2).f1)]] rfl (by (try simp only [List.map_toArray, List.map_cons, List.map_nil]);first|done|rfl|(simp only [List.length_drop, List.length_take];rfl)) ?_;(with_reducible refine (wicketmanref08_Print.calls k2 ((rd_T76 l0_1 x5_2).f0) ((rd_T76 l0_1 x5_2).f1) t223 t224 _ A26.out).mono ?_);rintro e w31 ⟨rfl, hb⟩;refine ⟨_, rfl, ?_⟩;have n0_ := aK (blk_below (g := gb218) (o := .cells #[.int .i64 a0_0, .slice (some ad222) l0_1.length c0_1, .slice A0_2 l0_2.length c0_2] 71 (0, 0)) (by (with_reducible repeat (first|refine blk_drewN ?_ _|refine blk_drew ?_|refine blk_alloc ?_ _));exact BK218.out) hb);have n1_ := aK (below_step (by repeat (first|(with_reducible first|apply bA|apply bN|apply bD|refine below_set ?_ GE218.out)|exact HB.out)) hb);clear BK218;clear HB;have BK218 := n0_;have HB := n1_;clear n0_ n1_;try clear hb))
                go_roundg k2
                case measure => have := HJ6.out;have := HK2.out;omega
                case rel => exact ⟨((x4_2 ++ t223) ++ (⟨#[13, 10]⟩ : BA)), (wrap64 (x5_2 + 1)), (by first|rfl|(simp;done)|(simp [*];done)), (by first|rfl|(simp;done)|(simp [*];done)), H', ⟨by have := HJ6.out;have := HK2.out;omega⟩, ⟨by (with_reducible repeat (first|refine blk_drewN ?_ _|refine blk_drew ?_|refine blk_alloc ?_ _));exact BK218.out⟩, ⟨by repeat (first|(with_reducible first|apply bA|apply bN|apply bD|refine below_set ?_ GE218.out)|exact HB.out)⟩⟩
               ·rw [if_neg c29] at H
                exact absurd H (by simp)
              ·rw [if_neg c28] at H
               exact absurd H (by simp)
             ·rw [if_neg c27] at H
              have c27b0 : (t224 == 0) = false := beq_eq_false_iff_ne.mpr c27
              have c27b1 : (t224 != 0) = true := bne_iff_ne.mpr c27
              simp only [Option.some.injEq, Prod.mk.injEq] at H
              obtain ⟨rfl, rfl⟩ := H
              have hcz32_0 : wr.cell? ⟨gb218, 0, none⟩ = some (.int .i64 a0_0) := (blk_cell BK218.out 0).trans rfl
              have hcz32_1 : wr.cell? ⟨gb218, 1, none⟩ = some (.slice A0_1 l0_1.length c0_1) := (blk_cell BK218.out 1).trans rfl
              have hcz32_2 : wr.cell? ⟨gb218, 2, none⟩ = some (.slice A0_2 l0_2.length c0_2) := (blk_cell BK218.out 2).trans rfl
              have hfz32_0 := blk_frozen BK218.out 0
              have hfz32_1 := blk_frozen BK218.out 1
              have hfz32_2 := blk_frozen BK218.out 2
              have p222 : 0 ≤ (x5_2 : Int) := of_decide_eq_true (by first|(with_reducible assumption)|assumption)
              have q222 : x5_2 < (l0_1.length : Int) := of_decide_eq_true (by first|(with_reducible assumption)|assumption)
              obtain ⟨ad222, e222, hx222_0, hx222_1⟩ := at_T76 HR0_1.out x5_2 p222 q222
              cases e222
              replace hx222_0 := (HB.out.cell (World.block_lt_of_cell? w _ hx222_0)).trans hx222_0
              replace hx222_1 := (HB.out.cell (World.block_lt_of_cell? w _ hx222_1)).trans hx222_1
              replace p222 := eq_true p222
              replace q222 := eq_true q222
              go_wp2_with (first|((with_reducible refine gate_callee (f := 65) rfl ?_);refine goesL_ (some 45) rfl rfl Tryz.func65 (by kernel_rfl) rfl #[.agg #[.string ((rd_T76 l0_1 x5_2).f0), .string ((rd_T76 l0_1 x5_2).f1)]] rfl (by (try simp only [List.map_toArray, List.map_cons, List.map_nil]);first|done|rfl|(simp only [List.length_drop, List.length_take];rfl)) ?_;(with_reducible refine (wicketmanref08_Print.calls k2 ((rd_T76 l0_1 x5_2).f0) ((rd_T76 l0_1 x5_2).f1) t223 t224 _ A26.out).mono ?_);rintro e w33 ⟨rfl, hb⟩;refine ⟨_, rfl, ?_⟩;have n0_ := aK (blk_below (g := gb218) (o := .cells #[.int .i64 a0_0, .slice (some ad222) l0_1.length c0_1, .slice A0_2 l0_2.length c0_2] 71 (0, 0)) (by (with_reducible repeat (first|refine blk_drewN ?_ _|refine blk_drew ?_|refine blk_alloc ?_ _));exact BK218.out) hb);have n1_ := aK (below_step (by repeat (first|(with_reducible first|apply bA|apply bN|apply bD|refine below_set ?_ GE218.out)|exact HB.out)) hb);clear BK218;clear HB;have BK218 := n0_;have HB := n1_;clear n0_ n1_;try clear hb))
              go_ret2
              exact ⟨_, by first|rfl|(simp [errW_none, errW_some] <;> rfl)|(simp [*, errW_none, errW_some] <;> rfl), Kd.V_nil _ _ _ _ _, by repeat (first|(with_reducible first|apply bA|apply bN|apply bD|refine below_set ?_ GE218.out)|exact HB.out)⟩
            ·rw [if_neg c25] at H
             exact absurd H (by simp)
           ·rw [if_neg c24] at H
            have c24b0 : decide (x5_2 < (l0_1.length : Int)) = false := decide_eq_false c24
            clear c24
            by_cases c34 : x4_2.size + 16 ≤ 9223372036854775807
            ·rw [if_pos c34] at H
             have c34b0 := eq_true c34
             have c34b1 : decide (x4_2.size + 16 ≤ 9223372036854775807) = true := decide_eq_true c34
             try have c34b2 : (9223372036854775807 < x4_2.size + 16) = False := eq_false (Nat.not_lt.2 c34)
             replace H := Option.bind_eq_some_iff.mp H
             obtain ⟨t225, A350, H⟩ := H
             try dsimp only at H
             have A35 := aK A350
             clear A350
             by_cases c36 : (x4_2 ++ (⟨#[67, 111, 110, 116, 101, 110, 116, 45, 76, 101, 110, 103, 116, 104, 58, 32]⟩ : BA)).size + t225.size ≤ 9223372036854775807
             ·rw [if_pos c36] at H
              have c36b0 := eq_true c36
              have c36b1 : decide ((x4_2 ++ (⟨#[67, 111, 110, 116, 101, 110, 116, 45, 76, 101, 110, 103, 116, 104, 58, 32]⟩ : BA)).size + t225.size ≤ 9223372036854775807) = true := decide_eq_true c36
              try have c36b2 : (9223372036854775807 < (x4_2 ++ (⟨#[67, 111, 110, 116, 101, 110, 116, 45, 76, 101, 110, 103, 116, 104, 58, 32]⟩ : BA)).size + t225.size) = False := eq_false (Nat.not_lt.2 c36)
              try (have c36b8 := c36b2;simp only [ByteArray.size_append, show ((⟨#[67, 111, 110, 116, 101, 110, 116, 45, 76, 101, 110, 103, 116, 104, 58, 32]⟩ : BA) : ByteArray).size = 16 from rfl] at c36b8)
              by_cases c37 : ((x4_2 ++ (⟨#[67, 111, 110, 116, 101, 110, 116, 45, 76, 101, 110, 103, 116, 104, 58, 32]⟩ : BA)) ++ t225).size + 4 ≤ 9223372036854775807
              ·rw [if_pos c37] at H
               have c37b0 := eq_true c37
               have c37b1 : decide (((x4_2 ++ (⟨#[67, 111, 110, 116, 101, 110, 116, 45, 76, 101, 110, 103, 116, 104, 58, 32]⟩ : BA)) ++ t225).size + 4 ≤ 9223372036854775807) = true := decide_eq_true c37
               try have c37b2 : (9223372036854775807 < ((x4_2 ++ (⟨#[67, 111, 110, 116, 101, 110, 116, 45, 76, 101, 110, 103, 116, 104, 58, 32]⟩ : BA)) ++ t225).size + 4) = False := eq_false (Nat.not_lt.2 c37)
               try (have c37b8 := c37b2;simp only [ByteArray.size_append, show ((⟨#[67, 111, 110, 116, 101, 110, 116, 45, 76, 101, 110, 103, 116, 104, 58, 32]⟩ : BA) : ByteArray).size = 16 from rfl] at c37b8)
               by_cases c38 : (((x4_2 ++ (⟨#[67, 111, 110, 116, 101, 110, 116, 45, 76, 101, 110, 103, 116, 104, 58, 32]⟩ : BA)) ++ t225) ++ (⟨#[13, 10, 13, 10]⟩ : BA)).size + (strOfNums l0_2).size ≤ 9223372036854775807
               ·rw [if_pos c38] at H
                have c38b0 := eq_true c38
                have c38b1 : decide ((((x4_2 ++ (⟨#[67, 111, 110, 116, 101, 110, 116, 45, 76, 101, 110, 103, 116, 104, 58, 32]⟩ : BA)) ++ t225) ++ (⟨#[13, 10, 13, 10]⟩ : BA)).size + (strOfNums l0_2).size ≤ 9223372036854775807) = true := decide_eq_true c38
                try have c38b2 : (9223372036854775807 < (((x4_2 ++ (⟨#[67, 111, 110, 116, 101, 110, 116, 45, 76, 101, 110, 103, 116, 104, 58, 32]⟩ : BA)) ++ t225) ++ (⟨#[13, 10, 13, 10]⟩ : BA)).size + (strOfNums l0_2).size) = False := eq_false (Nat.not_lt.2 c38)
                try (have c38b8 := c38b2;simp only [ByteArray.size_append, show ((⟨#[13, 10, 13, 10]⟩ : BA) : ByteArray).size = 4 from rfl, show ((⟨#[67, 111, 110, 116, 101, 110, 116, 45, 76, 101, 110, 103, 116, 104, 58, 32]⟩ : BA) : ByteArray).size = 16 from rfl] at c38b8)
                by_cases c39 : ((((x4_2 ++ (⟨#[67, 111, 110, 116, 101, 110, 116, 45, 76, 101, 110, 103, 116, 104, 58, 32]⟩ : BA)) ++ t225) ++ (⟨#[13, 10, 13, 10]⟩ : BA)) ++ (strOfNums l0_2)).size ≤ 140737488351232
                ·rw [if_pos c39] at H
                 have c39b0 := eq_true c39
                 have c39b1 : decide (((((x4_2 ++ (⟨#[67, 111, 110, 116, 101, 110, 116, 45, 76, 101, 110, 103, 116, 104, 58, 32]⟩ : BA)) ++ t225) ++ (⟨#[13, 10, 13, 10]⟩ : BA)) ++ (strOfNums l0_2)).size ≤ 140737488351232) = true := decide_eq_true c39
                 obtain ⟨y226, hy226⟩ : ∃ y_ : List Int, y_ = (btsOf ((((x4_2 ++ (⟨#[67, 111, 110, 116, 101, 110, 116, 45, 76, 101, 110, 103, 116, 104, 58, 32]⟩ : BA)) ++ t225) ++ (⟨#[13, 10, 13, 10]⟩ : BA)) ++ (strOfNums l0_2))) := ⟨_, rfl⟩
                 replace H : (some (y226, 0)) = some (r1, r2) := by first|(rw [hy226];with_reducible exact H)|(have H2_ := (Option.bind_some _ _).symm.trans H;rw [hy226];with_reducible exact H2_)|(have H2_ := (Option.bind_some _ _).symm.trans H;with_reducible exact H2_)|with_reducible exact H|(rw [hy226];exact H)|exact H
                 have Ny226 := aK hy226
                 clear hy226
                 simp only [Option.some.injEq, Prod.mk.injEq] at H
                 obtain ⟨rfl, rfl⟩ := H
                 have hcz40_0 : wr.cell? ⟨gb218, 0, none⟩ = some (.int .i64 a0_0) := (blk_cell BK218.out 0).trans rfl
                 have hcz40_1 : wr.cell? ⟨gb218, 1, none⟩ = some (.slice A0_1 l0_1.length c0_1) := (blk_cell BK218.out 1).trans rfl
                 have hcz40_2 : wr.cell? ⟨gb218, 2, none⟩ = some (.slice A0_2 l0_2.length c0_2) := (blk_cell BK218.out 2).trans rfl
                 have hfz40_0 := blk_frozen BK218.out 0
                 have hfz40_1 := blk_frozen BK218.out 1
                 have hfz40_2 := blk_frozen BK218.out 2
                 try go_wp2
                 have n0_ := aK (blk_drew BK218.out)
                 have n1_ := aK (below_drew1 HB.out)
                 clear BK218
                 clear HB
                 have BK218 := n0_
                 have HB := n1_
                 clear n0_ n1_
                 refine start_ (n := 13) (S := fun w' => w'.cell? ⟨gb218, 0, none⟩ = some (.int .i64 a0_0) ∧ w'.cell? ⟨gb218, 1, none⟩ = some (.slice A0_1 l0_1.length c0_1) ∧ w'.cell? ⟨gb218, 2, none⟩ = some (.slice A0_2 l0_2.length c0_2) ∧ (convert 23 9 (.slice A0_2 l0_2.length c0_2)).run Tryz.prog w' = .ok (.string (strOfNums l0_2)) w') (ds := []) #[false, false, false, false, false, false, false, false, false, false, false, false, false] (by kernel_rfl) rfl rfl ⟨(blk_cell BK218.out 0).trans rfl, (blk_cell BK218.out 1).trans rfl, (blk_cell BK218.out 2).trans rfl, Kd.C_string (P := Tryz.prog) (A := A0_2) (c := c0_2) Tryz.underlying23 Tryz.underlying5 Tryz.underlying9 (Kd.C_below HR0_2.out HB.out)⟩ (fun hHeld => ?_);refine with_tabW wicketmanref10_Print.tab13 wicketmanref10_Print.bits13 (fun HT_ HW_ => ?_)
                 generalize wr.drew = w41 at BK218 HB hHeld ⊢
                 refine pure_ (i := 0) (N := some 55) (v := ?_) (a' := ?_) #[true, false, false, false, false, false, false, false, false, false, false, false, false] rfl rfl (any_of HT_.out (by kernel_rfl)) (fun _ _ _ h => h) (Or.inl ⟨by rfl, ?_⟩) ?_ ?_
                 rotate_left
                 ·intro w'
                  go_simp
                  with_reducible rfl
                 rotate_left
                 ·simp only [Act.put, List.setIfInBounds_toArray, List.set_cons_zero, List.set_cons_succ, i64_w, i32_w]
                  rfl
                 refine pure_ (i := 1) (N := some 56) (v := ?_) (a' := ?_) #[true, true, false, false, false, false, false, false, false, false, false, false, false] rfl rfl (any_of HT_.out (by kernel_rfl)) (fun _ _ _ h => h) (Or.inl ⟨by rfl, ?_⟩) ?_ ?_
                 rotate_left
                 ·intro w'
                  go_simp
                  with_reducible rfl
                 rotate_left
                 ·simp only [Act.put, List.setIfInBounds_toArray, List.set_cons_zero, List.set_cons_succ, i64_w, i32_w]
                  rfl
                 refine pure_ (i := 2) (N := some 57) (v := ?_) (a' := ?_) #[true, true, true, false, false, false, false, false, false, false, false, false, false] rfl rfl (any_of HT_.out (by kernel_rfl)) (fun _ _ _ h => h) (Or.inl ⟨by rfl, ?_⟩) ?_ ?_
                 rotate_left
                 ·intro w'
                  go_simp
                  with_reducible rfl
                 rotate_left
                 ·simp only [Act.put, List.setIfInBounds_toArray, List.set_cons_zero, List.set_cons_succ, i64_w, i32_w]
                  rfl
                 refine pure_ (i := 8) (N := some 63) (v := ?_) (a' := ?_) #[true, true, true, false, false, false, false, false, true, false, false, false, false] rfl rfl (any_of HT_.out (by kernel_rfl)) (fun _ _ _ h => h) (Or.inl ⟨by rfl, ?_⟩) ?_ ?_
                 rotate_left
                 ·intro w'
                  go_simp
                  with_reducible rfl
                 rotate_left
                 ·simp only [Act.put, List.setIfInBounds_toArray, List.set_cons_zero, List.set_cons_succ, i64_w, i32_w]
                  rfl
                 refine take_ (i := 3) (N := some 58) (v := ?_) (a' := ?_) #[true, true, true, true, false, false, false, false, true, false, false, false, false] rfl rfl (take_ofW HT_.out HW_.out (by kernel_rfl)) (fun _ _ _ h => h) (Or.inl ⟨by rfl, ?_⟩) hHeld ?_ ?_
                 rotate_left
                 ·rintro w' ⟨s0, s1, s2, s3⟩
                  go_simp
                  with_reducible rfl
                 rotate_left
                 ·simp only [Act.put, List.setIfInBounds_toArray, List.set_cons_zero, List.set_cons_succ, i64_w, i32_w]
                  rfl
                 refine pure_ (i := 4) (N := some 59) (v := ?_) (a' := ?_) #[true, true, true, true, true, false, false, false, true, false, false, false, false] rfl rfl (any_of HT_.out (by kernel_rfl)) (fun _ _ _ h => h) (Or.inl ⟨by rfl, ?_⟩) ?_ ?_
                 rotate_left
                 ·intro w'
                  go_simp
                  with_reducible rfl
                 rotate_left
                 ·simp only [Act.put, List.setIfInBounds_toArray, List.set_cons_zero, List.set_cons_succ, i64_w, i32_w]
                  rfl
                 refine take_ (i := 9) (N := some 64) (v := ?_) (a' := ?_) #[true, true, true, true, true, false, false, false, true, true, false, false, false] rfl rfl (take_ofW HT_.out HW_.out (by kernel_rfl)) (fun _ _ _ h => h) (Or.inl ⟨by rfl, ?_⟩) hHeld ?_ ?_
                 rotate_left
                 ·rintro w' ⟨s0, s1, s2, s3⟩
                  go_simp
                  with_reducible rfl
                 rotate_left
                 ·simp only [Act.put, List.setIfInBounds_toArray, List.set_cons_zero, List.set_cons_succ, i64_w, i32_w]
                  rfl
                 refine take_ (i := 10) (N := some 65) (v := ?_) (a' := ?_) #[true, true, true, true, true, false, false, false, true, true, true, false, false] rfl rfl (take_ofW HT_.out HW_.out (by kernel_rfl)) (fun _ _ _ h => h) (Or.inl ⟨by rfl, ?_⟩) hHeld ?_ ?_
                 rotate_left
                 ·rintro w' ⟨s0, s1, s2, s3⟩
                  go_simp
                  first|(rw [s3];rfl)|(simp only [s3];rfl)|with_reducible rfl
                 rotate_left
                 ·simp only [Act.put, List.setIfInBounds_toArray, List.set_cons_zero, List.set_cons_succ, i64_w, i32_w]
                  rfl
                 refine one_ (i := 5) (N := some 60) #[true, true, true, true, true, true, false, false, true, true, true, false, false] rfl rfl (one_of HT_.out (by kernel_rfl)) (by decide) (fun K hK => ?_)
                 refine goes_ Tryz.func112 (by kernel_rfl) rfl #[.int .i64 (l0_2.length : Int)] (by rfl) rfl rfl (by (try simp only [List.map_toArray, List.map_cons, List.map_nil]);first|done|rfl|(simp only [List.length_drop, List.length_take];rfl)) ?_
                 with_reducible refine (strconv_Itoa.calls (l0_2.length : Int) t225 _ (by first|exact hT|(refine Tb.of_below hT ?_;repeat (first|(with_reducible first|apply bA|apply bN|apply bD)|exact HB.out|refine Below.setCell ?_ (Aside0.out (by assumption)) _))|(refine Tb.of_below hT ?_;assumption)) A35.out).mono ?_
                 rintro e w42 ⟨rfl, hb⟩
                 refine ⟨_, rfl, ?_⟩
                 have n0_ := aK (blk_below (g := gb218) (o := .cells #[.int .i64 a0_0, .slice A0_1 l0_1.length c0_1, .slice A0_2 l0_2.length c0_2] 71 (0, 0)) (by (with_reducible repeat (first|refine blk_drewN ?_ _|refine blk_drew ?_|refine blk_alloc ?_ _));exact BK218.out) hb)
                 have n1_ := aK (below_step (by repeat (first|(with_reducible first|apply bA|apply bN|apply bD|refine below_set ?_ GE218.out)|exact HB.out)) hb)
                 clear BK218
                 clear HB
                 have BK218 := n0_
                 have HB := n1_
                 clear n0_ n1_
                 (try clear hb)
                 (try clear hb2)
                 (try clear hk)
                 (try clear hi)
                 have hcv43 := Kd.C_string (P := Tryz.prog) (A := A0_2) (c := c0_2) Tryz.underlying23 Tryz.underlying5 Tryz.underlying9 (Kd.C_below HR0_2.out HB.out)
                 have hcv43n := fun n_ : Nat => Kd.C_string (P := Tryz.prog) (A := A0_2) (c := c0_2) Tryz.underlying23 Tryz.underlying5 Tryz.underlying9 (Kd.C_drewN (Kd.C_below HR0_2.out HB.out) n_)
                 refine hK.out _ _ ⟨(blk_cell BK218.out 0).trans rfl, (blk_cell BK218.out 1).trans rfl, (blk_cell BK218.out 2).trans rfl, Kd.C_string (P := Tryz.prog) (A := A0_2) (c := c0_2) Tryz.underlying23 Tryz.underlying5 Tryz.underlying9 (Kd.C_below HR0_2.out HB.out)⟩ (fun hHeld => ?_)
                 clear hK K
                 refine norm_ (a' := ?_) ?_ ?_
                 rotate_left
                 ·show Act.put _ (some 60) _ = _
                  simp only [Act.put, List.setIfInBounds_toArray, List.set_cons_zero, List.set_cons_succ, i64_w, i32_w]
                  rfl
                 refine pure_ (i := 6) (N := some 61) (v := ?_) (a' := ?_) #[true, true, true, true, true, true, true, false, true, true, true, false, false] rfl rfl (any_of HT_.out (by kernel_rfl)) (fun _ _ _ h => h) (Or.inl ⟨by rfl, ?_⟩) ?_ ?_
                 rotate_left
                 ·intro w'
                  go_simp
                  with_reducible rfl
                 rotate_left
                 ·simp only [Act.put, List.setIfInBounds_toArray, List.set_cons_zero, List.set_cons_succ, i64_w, i32_w]
                  rfl
                 refine pure_ (i := 7) (N := some 62) (v := ?_) (a' := ?_) #[true, true, true, true, true, true, true, true, true, true, true, false, false] rfl rfl (any_of HT_.out (by kernel_rfl)) (fun _ _ _ h => h) (Or.inl ⟨by rfl, ?_⟩) ?_ ?_
                 rotate_left
                 ·intro w'
                  go_simp
                  with_reducible rfl
                 rotate_left
                 ·simp only [Act.put, List.setIfInBounds_toArray, List.set_cons_zero, List.set_cons_succ, i64_w, i32_w]
                  rfl
                 refine pure_ (i := 11) (N := some 66) (v := ?_) (a' := ?_) #[true, true, true, true, true, true, true, true, true, true, true, true, false] rfl rfl (any_of HT_.out (by kernel_rfl)) (fun _ _ _ h => h) (Or.inl ⟨by rfl, ?_⟩) ?_ ?_
                 rotate_left
                 ·intro w'
                  go_simp
                  with_reducible rfl
                 rotate_left
                 ·simp only [Act.put, List.setIfInBounds_toArray, List.set_cons_zero, List.set_cons_succ, i64_w, i32_w]
                  rfl
                 refine pure_ (i := 12) (N := some 4) (v := ?_) (a' := ?_) #[true, true, true, true, true, true, true, true, true, true, true, true, true] rfl rfl (any_of HT_.out (by kernel_rfl)) (fun _ _ _ h => h) (Or.inl ⟨by rfl, ?_⟩) ?_ ?_
                 rotate_left
                 ·intro w'
                  go_simp
                  with_reducible rfl
                 rotate_left
                 ·simp only [Act.put, List.setIfInBounds_toArray, List.set_cons_zero, List.set_cons_succ, i64_w, i32_w]
                  rfl
                 refine done_ (done_of HT_.out (by kernel_rfl)) ?_
                 try go_wp2_with (first|((with_reducible refine gate_dst (N := 68) rfl ?_);(try (refine gate_guard (by rfl) ?_;dsimp only));refine conv_own rfl (N := 68) rfl (ts := 9) (td := 23) ((((x4_2 ++ (⟨#[67, 111, 110, 116, 101, 110, 116, 45, 76, 101, 110, 103, 116, 104, 58, 32]⟩ : BA)) ++ t225) ++ (⟨#[13, 10, 13, 10]⟩ : BA)) ++ (strOfNums l0_2)) rfl ?hx Tryz.underlying9 Tryz.underlying23 Tryz.underlying5 ?hs ?_;(case hx => first|rfl|(go_simp;done)|(go_simp;rfl));(case hs => first|(with_reducible assumption)|exact of_decide_eq_true (by first|(with_reducible assumption)|assumption)|decide|(simp only [ByteArray.size_append] at *;omega));intro v227 w45 ho46 hb;(first|rw [← Ny226.out] at ho46|simp only [← Ny226.out] at ho46);have n0_ := aK (Kd.V_lower (Kd.V_mono (ok' := fun k_ => (w.heap.size ≤ k_) ∧ k_ ≠ gb218) ho46 (fun k_ hk_ => ⟨(Nat.le_trans (below_size (by repeat (first|(with_reducible first|apply bA|apply bN|apply bD|refine below_set ?_ GE218.out)|exact HB.out))) hk_), (Kd.freshB (g := gb218) (o := .cells #[.int .i64 a0_0, .slice A0_1 l0_1.length c0_1, .slice A0_2 l0_2.length c0_2] 71 (0, 0)) (by (with_reducible repeat (first|refine blk_drewN ?_ _|refine blk_drew ?_|refine blk_alloc ?_ _));exact BK218.out) k_ hk_)⟩)) (below_size (by repeat (first|(with_reducible first|apply bA|apply bN|apply bD|refine below_set ?_ GE218.out)|exact HB.out))));have n1_ := aK (blk_below (g := gb218) (o := .cells #[.int .i64 a0_0, .slice A0_1 l0_1.length c0_1, .slice A0_2 l0_2.length c0_2] 71 (0, 0)) (by (with_reducible repeat (first|refine blk_drewN ?_ _|refine blk_drew ?_|refine blk_alloc ?_ _));exact BK218.out) hb);have n2_ := aK (below_step (by repeat (first|(with_reducible first|apply bA|apply bN|apply bD|refine below_set ?_ GE218.out)|exact HB.out)) hb);clear BK218;clear HB;have HO228 := n0_;have BK218 := n1_;have HB := n2_;clear n0_ n1_ n2_;clear hb ho46))
                 go_ret2
                 exact ⟨_, by first|rfl|(simp [errW_none, errW_some] <;> rfl)|(simp [*, errW_none, errW_some] <;> rfl), by (with_reducible repeat (first|apply Kd.V_alloc|apply Kd.V_drewN|apply Kd.V_drew));exact Kd.V_mono HO228.out (fun _ hk => hk.1), by repeat (first|(with_reducible first|apply bA|apply bN|apply bD|refine below_set ?_ GE218.out)|exact HB.out)⟩
                ·rw [if_neg c39] at H
                 exact absurd H (by simp)
               ·rw [if_neg c38] at H
                exact absurd H (by simp)
              ·rw [if_neg c37] at H
               exact absurd H (by simp)
             ·rw [if_neg c36] at H
              exact absurd H (by simp)
            ·rw [if_neg c34] at H
             exact absurd H (by simp)
        ·rw [if_neg c20] at H
         exact absurd H (by simp)
       ·rw [if_neg c19] at H
        exact absurd H (by simp)
      ·rw [if_neg c17] at H
       exact absurd H (by simp)
     ·rw [if_neg c16] at H
      exact absurd H (by simp)
end Go.Proofs.YthdiiiopjkaifaaGreatDoor.Pall

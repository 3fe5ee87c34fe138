import Derived.Test.YthdiiiopjkaifaaGreatDoorGePall0
import Derived.Test.YthdiiiopjkaifaaGreatDoorGePall9
import Derived.Test.YthdiiiopjkaifaaGreatDoorGePall13
import Derived.Test.YthdiiiopjkaifaaGreatDoorGePall14
import Derived.Test.YthdiiiopjkaifaaGreatDoorGePall15
namespace Go.Proofs.YthdiiiopjkaifaaGreatDoor.Pall
open Go.RowKit Go.Proofs.YthdiiiopjkaifaaGreatDoorW.PrintWords Go.Proofs.YthdiiiopjkaifaaGreatDoorW.PrintLast Go.Proofs.YthdiiiopjkaifaaGreatDoorW.PrintMore
attribute [local go_sem] max2_int min2_int max_two min_two
set_option linter.unusedVariables false
set_option linter.unusedSimpArgs false
mutual
def wicketmanref19_Page.j0 : Nat → ByteArray → Int → Int → Int → Int → List Int → Int → ByteArray → Bool → ByteArray → ByteArray → ByteArray → Option (Int × (List (S76)) × List Int)
 | 0, _, _, _, _, _, _, _, _, _, _, _, _ => none
 | k + 1, x5, x284000, x284001, x284002, x284003, x284004, x285000, x285001, x285002, x285003, x285004, x285005 => if x285005.toList = ([] : List UInt8) then (wicketmanref19_Page.j1 k x5 x284000 x284001 x284002 x284003 x284004 x285000 x285001 x285002 x285003 x285004 x285005) else (if x5.size + 5 ≤ 9223372036854775807 then ((wicketmanref06_Escape.f k x285005).bind fun t286 => (if (x5 ++ (⟨#[110, 111, 116, 101, 32]⟩ : BA)).size + t286.size ≤ 9223372036854775807 then (if ((x5 ++ (⟨#[110, 111, 116, 101, 32]⟩ : BA)) ++ t286).size + 1 ≤ 9223372036854775807 then (wicketmanref19_Page.j1 k (((x5 ++ (⟨#[110, 111, 116, 101, 32]⟩ : BA)) ++ t286) ++ (⟨#[10]⟩ : BA)) x284000 x284001 x284002 x284003 x284004 x285000 x285001 x285002 x285003 x285004 x285005) else (none)) else (none))) else (none))
def wicketmanref19_Page.j1 : Nat → ByteArray → Int → Int → Int → Int → List Int → Int → ByteArray → Bool → ByteArray → ByteArray → ByteArray → Option (Int × (List (S76)) × List Int)
 | 0, _, _, _, _, _, _, _, _, _, _, _, _ => none
 | k + 1, x5, x284000, x284001, x284002, x284003, x284004, x285000, x285001, x285002, x285003, x285004, x285005 => if x285003.toList = ([] : List UInt8) then (wicketmanref19_Page.j2 k x5 x284000 x284001 x284002 x284003 x284004 x285000 x285001 x285002 x285003 x285004 x285005) else (if x5.size + 6 ≤ 9223372036854775807 then (if (x5 ++ (⟨#[116, 111, 107, 101, 110, 32]⟩ : BA)).size + x285003.size ≤ 9223372036854775807 then (if ((x5 ++ (⟨#[116, 111, 107, 101, 110, 32]⟩ : BA)) ++ x285003).size + 1 ≤ 9223372036854775807 then (wicketmanref19_Page.j2 k (((x5 ++ (⟨#[116, 111, 107, 101, 110, 32]⟩ : BA)) ++ x285003) ++ (⟨#[10]⟩ : BA)) x284000 x284001 x284002 x284003 x284004 x285000 x285001 x285002 x285003 x285004 x285005) else (none)) else (none)) else (none))
def wicketmanref19_Page.j2 : Nat → ByteArray → Int → Int → Int → Int → List Int → Int → ByteArray → Bool → ByteArray → ByteArray → ByteArray → Option (Int × (List (S76)) × List Int)
 | 0, _, _, _, _, _, _, _, _, _, _, _, _ => none
 | k + 1, x5, x284000, x284001, x284002, x284003, x284004, x285000, x285001, x285002, x285003, x285004, x285005 => if x5.toList = ([] : List UInt8) then ((wicketmanref10_Reason.f k x285000).bind fun t287 => (if t287.size + 1 ≤ 9223372036854775807 then (wicketmanref19_Page.j3 k (t287 ++ (⟨#[10]⟩ : BA)) x284000 x284001 x284002 x284003 x284004 x285000 x285001 x285002 x285003 x285004 x285005) else (none))) else (wicketmanref19_Page.j3 k x5 x284000 x284001 x284002 x284003 x284004 x285000 x285001 x285002 x285003 x285004 x285005)
def wicketmanref19_Page.j3 : Nat → ByteArray → Int → Int → Int → Int → List Int → Int → ByteArray → Bool → ByteArray → ByteArray → ByteArray → Option (Int × (List (S76)) × List Int)
 | 0, _, _, _, _, _, _, _, _, _, _, _, _ => none
 | k + 1, x5, x284000, x284001, x284002, x284003, x284004, x285000, x285001, x285002, x285003, x285004, x285005 => if x285001.toList = ([] : List UInt8) then (if x285002 = true then ((wicketmanref11_Set.f k (⟨#[95, 95, 72, 111, 115, 116, 45, 105, 100]⟩ : BA) (⟨#[]⟩ : BA) 0).bind fun bt288 => (if ([] : List (S76)).length < 4398046511104 then ((wicketmanref10_Page.f x285000 x5 (([] : List (S76)) ++ [(⟨(⟨#[83, 101, 116, 45, 67, 111, 111, 107, 105, 101]⟩ : BA), bt288.1⟩ : S76)])).bind fun bt293 => (some (bt293.1, bt293.2.1, bt293.2.2))) else (none))) else ((wicketmanref10_Page.f x285000 x5 ([] : List (S76))).bind fun bt300 => (some (bt300.1, bt300.2.1, bt300.2.2)))) else ((wicketmanref11_Set.f k (⟨#[95, 95, 72, 111, 115, 116, 45, 105, 100]⟩ : BA) x285001 (wrap64 (x284001))).bind fun bt307 => (if ([] : List (S76)).length < 4398046511104 then ((wicketmanref10_Page.f x285000 x5 (([] : List (S76)) ++ [(⟨(⟨#[83, 101, 116, 45, 67, 111, 111, 107, 105, 101]⟩ : BA), bt307.1⟩ : S76)])).bind fun bt312 => (some (bt312.1, bt312.2.1, bt312.2.2))) else (none)))
end
def wicketmanref19_Page.f (k : Nat) (a0_0 : Int) (a0_1 : Int) (a0_2 : Int) (a0_3 : Int) (l0_4 : List Int) (a1_0 : Int) (a1_1 : ByteArray) (a1_2 : Bool) (a1_3 : ByteArray) (a1_4 : ByteArray) (a1_5 : ByteArray) : Option (Int × (List (S76)) × List Int) := if a1_4.toList = ([] : List UInt8) then (wicketmanref19_Page.j0 k (⟨#[]⟩ : BA) a0_0 a0_1 a0_2 a0_3 l0_4 a1_0 a1_1 a1_2 a1_3 a1_4 a1_5) else (if 0 + 5 ≤ 9223372036854775807 then (if 5 + a1_4.size ≤ 9223372036854775807 then (if (((⟨#[]⟩ : BA) ++ (⟨#[117, 115, 101, 114, 32]⟩ : BA)) ++ a1_4).size + 1 ≤ 9223372036854775807 then (wicketmanref19_Page.j0 k ((((⟨#[]⟩ : BA) ++ (⟨#[117, 115, 101, 114, 32]⟩ : BA)) ++ a1_4) ++ (⟨#[10]⟩ : BA)) a0_0 a0_1 a0_2 a0_3 l0_4 a1_0 a1_1 a1_2 a1_3 a1_4 a1_5) else (none)) else (none)) else (none))
theorem wicketmanref19_Page.mono_l : ∀ k, (∀ y0 y1 y2 y3 y4 y5 y6 y7 y8 y9 y10 y11, LeO (wicketmanref19_Page.j0 k y0 y1 y2 y3 y4 y5 y6 y7 y8 y9 y10 y11) (wicketmanref19_Page.j0 (k + 1) y0 y1 y2 y3 y4 y5 y6 y7 y8 y9 y10 y11)) ∧ (∀ y0 y1 y2 y3 y4 y5 y6 y7 y8 y9 y10 y11, LeO (wicketmanref19_Page.j1 k y0 y1 y2 y3 y4 y5 y6 y7 y8 y9 y10 y11) (wicketmanref19_Page.j1 (k + 1) y0 y1 y2 y3 y4 y5 y6 y7 y8 y9 y10 y11)) ∧ (∀ y0 y1 y2 y3 y4 y5 y6 y7 y8 y9 y10 y11, LeO (wicketmanref19_Page.j2 k y0 y1 y2 y3 y4 y5 y6 y7 y8 y9 y10 y11) (wicketmanref19_Page.j2 (k + 1) y0 y1 y2 y3 y4 y5 y6 y7 y8 y9 y10 y11)) ∧ (∀ y0 y1 y2 y3 y4 y5 y6 y7 y8 y9 y10 y11, LeO (wicketmanref19_Page.j3 k y0 y1 y2 y3 y4 y5 y6 y7 y8 y9 y10 y11) (wicketmanref19_Page.j3 (k + 1) y0 y1 y2 y3 y4 y5 y6 y7 y8 y9 y10 y11))
 | 0 => ⟨fun _ _ _ _ _ _ _ _ _ _ _ _ r h => by simp [wicketmanref19_Page.j0] at h, fun _ _ _ _ _ _ _ _ _ _ _ _ r h => by simp [wicketmanref19_Page.j1] at h, fun _ _ _ _ _ _ _ _ _ _ _ _ r h => by simp [wicketmanref19_Page.j2] at h, fun _ _ _ _ _ _ _ _ _ _ _ _ r h => by simp [wicketmanref19_Page.j3] at h⟩
 | k + 1 => by
  obtain ⟨ih0, ih1, ih2, ih3⟩ := wicketmanref19_Page.mono_l k
  refine ⟨?_, ?_, ?_, ?_⟩
  ·intro y0 y1 y2 y3 y4 y5 y6 y7 y8 y9 y10 y11
   unfold wicketmanref19_Page.j0
   repeat' first|(with_reducible first|exact ih0 _ _ _ _ _ _ _ _ _ _ _ _|exact ih1 _ _ _ _ _ _ _ _ _ _ _ _|exact ih2 _ _ _ _ _ _ _ _ _ _ _ _|exact ih3 _ _ _ _ _ _ _ _ _ _ _ _|exact wicketmanref06_Escape.mono _ _|exact wicketmanref10_Reason.mono _ _|exact wicketmanref11_Set.mono _ _ _ _|exact LeO.refl _|exact LeO.none _|refine LeO.ite ?_ ?_|refine LeO.bind ?_ (fun _ => ?_))|exact LeO.none _|refine LeO.ite ?_ ?_|refine LeO.bind ?_ (fun _ => ?_)
  ·intro y0 y1 y2 y3 y4 y5 y6 y7 y8 y9 y10 y11
   unfold wicketmanref19_Page.j1
   repeat' first|(with_reducible first|exact ih0 _ _ _ _ _ _ _ _ _ _ _ _|exact ih1 _ _ _ _ _ _ _ _ _ _ _ _|exact ih2 _ _ _ _ _ _ _ _ _ _ _ _|exact ih3 _ _ _ _ _ _ _ _ _ _ _ _|exact wicketmanref06_Escape.mono _ _|exact wicketmanref10_Reason.mono _ _|exact wicketmanref11_Set.mono _ _ _ _|exact LeO.refl _|exact LeO.none _|refine LeO.ite ?_ ?_|refine LeO.bind ?_ (fun _ => ?_))|exact LeO.none _|refine LeO.ite ?_ ?_|refine LeO.bind ?_ (fun _ => ?_)
  ·intro y0 y1 y2 y3 y4 y5 y6 y7 y8 y9 y10 y11
   unfold wicketmanref19_Page.j2
   repeat' first|(with_reducible first|exact ih0 _ _ _ _ _ _ _ _ _ _ _ _|exact ih1 _ _ _ _ _ _ _ _ _ _ _ _|exact ih2 _ _ _ _ _ _ _ _ _ _ _ _|exact ih3 _ _ _ _ _ _ _ _ _ _ _ _|exact wicketmanref06_Escape.mono _ _|exact wicketmanref10_Reason.mono _ _|exact wicketmanref11_Set.mono _ _ _ _|exact LeO.refl _|exact LeO.none _|refine LeO.ite ?_ ?_|refine LeO.bind ?_ (fun _ => ?_))|exact LeO.none _|refine LeO.ite ?_ ?_|refine LeO.bind ?_ (fun _ => ?_)
  ·intro y0 y1 y2 y3 y4 y5 y6 y7 y8 y9 y10 y11
   unfold wicketmanref19_Page.j3
   repeat' first|(with_reducible first|exact ih0 _ _ _ _ _ _ _ _ _ _ _ _|exact ih1 _ _ _ _ _ _ _ _ _ _ _ _|exact ih2 _ _ _ _ _ _ _ _ _ _ _ _|exact ih3 _ _ _ _ _ _ _ _ _ _ _ _|exact wicketmanref06_Escape.mono _ _|exact wicketmanref10_Reason.mono _ _|exact wicketmanref11_Set.mono _ _ _ _|exact LeO.refl _|exact LeO.none _|refine LeO.ite ?_ ?_|refine LeO.bind ?_ (fun _ => ?_))|exact LeO.none _|refine LeO.ite ?_ ?_|refine LeO.bind ?_ (fun _ => ?_)
theorem wicketmanref19_Page.mono : ∀ a0 a1 a2 a3 a4 a5 a6 a7 a8 a9 a10 k, LeO (wicketmanref19_Page.f k a0 a1 a2 a3 a4 a5 a6 a7 a8 a9 a10) (wicketmanref19_Page.f (k + 1) a0 a1 a2 a3 a4 a5 a6 a7 a8 a9 a10) := by
 intro a0 a1 a2 a3 a4 a5 a6 a7 a8 a9 a10 k
 obtain ⟨ih0, ih1, ih2, ih3⟩ := wicketmanref19_Page.mono_l k
 unfold wicketmanref19_Page.f
 repeat' first|(with_reducible first|exact ih0 _ _ _ _ _ _ _ _ _ _ _ _|exact ih1 _ _ _ _ _ _ _ _ _ _ _ _|exact ih2 _ _ _ _ _ _ _ _ _ _ _ _|exact ih3 _ _ _ _ _ _ _ _ _ _ _ _|exact wicketmanref06_Escape.mono _ _|exact wicketmanref10_Reason.mono _ _|exact wicketmanref11_Set.mono _ _ _ _|exact LeO.refl _|exact LeO.none _|refine LeO.ite ?_ ?_|refine LeO.bind ?_ (fun _ => ?_))|exact LeO.none _|refine LeO.ite ?_ ?_|refine LeO.bind ?_ (fun _ => ?_)
set_option maxHeartbeats 8000000 in
set_option maxRecDepth 100000 in
theorem wicketmanref19_Page.calls (k : Nat) (a0_0 : Int) (a0_1 : Int) (a0_2 : Int) (a0_3 : Int) (A0_4 : Option Addr) (c0_4 : Nat) (l0_4 : List Int) (a1_0 : Int) (a1_1 : ByteArray) (a1_2 : Bool) (a1_3 : ByteArray) (a1_4 : ByteArray) (a1_5 : ByteArray) (r1 : Int) (r2 : List (S76)) (r3 : List Int) (w : World) (hr0_4 : Kd.C (Kd.int .u8) w A0_4 l0_4.length l0_4) (hc0_4 : l0_4.length ≤ c0_4) (hT : Tb w) (h : wicketmanref19_Page.f k a0_0 a0_1 a0_2 a0_3 l0_4 a1_0 a1_1 a1_2 a1_3 a1_4 a1_5 = some (r1, r2, r3)) :
  Calls Tryz.prog 47 #[.agg #[.int .u64 a0_0, .int .u64 a0_1, .int .u64 a0_2, .int .i64 a0_3, .slice A0_4 l0_4.length c0_4], .agg #[.int .i64 a1_0, .string a1_1, .bool a1_2, .string a1_3, .string a1_4, .string a1_5]] w fun e w' => ∃ v1_ v2_ : Value, e = .returned (.agg #[.int .i64 r1, v1_, v2_]) ∧ Kd.R k76 76 w' w.heap.size (fun k_ => (w.heap.size ≤ k_)) v1_ r2 ∧ Kd.V (Kd.int .u8) 5 w' w.heap.size (fun k_ => (w.heap.size ≤ k_) ∧ some k_ ≠ (v1_ : Value).ownBlock) v2_ r3 ∧ Below w.heap.size w w' := by
 have hu40 := Tryz.underlying40
 have hu42 := Tryz.underlying42
 have hu71 := Tryz.underlying71
 have hu76 := Tryz.underlying76
 have HR0_4 := aK hr0_4
 have HC0_4 := aK hc0_4
 clear hr0_4 hc0_4
 have HB := aK (Below.refl w.heap.size w)
 have H : (if a1_4.toList = ([] : List UInt8) then (wicketmanref19_Page.j0 k (⟨#[]⟩ : BA) a0_0 a0_1 a0_2 a0_3 l0_4 a1_0 a1_1 a1_2 a1_3 a1_4 a1_5) else (if 0 + 5 ≤ 9223372036854775807 then (if 5 + a1_4.size ≤ 9223372036854775807 then (if (((⟨#[]⟩ : BA) ++ (⟨#[117, 115, 101, 114, 32]⟩ : BA)) ++ a1_4).size + 1 ≤ 9223372036854775807 then (wicketmanref19_Page.j0 k ((((⟨#[]⟩ : BA) ++ (⟨#[117, 115, 101, 114, 32]⟩ : BA)) ++ a1_4) ++ (⟨#[10]⟩ : BA)) a0_0 a0_1 a0_2 a0_3 l0_4 a1_0 a1_1 a1_2 a1_3 a1_4 a1_5) else (none)) else (none)) else (none))) = some (r1, r2, r3) := h
 clear h
 have HC3 := aK H
 clear H
 go_enter Tryz.func47, Tryz.ntmps47
 go_upto_if 13 with (first|((with_reducible refine gate_dst (N := 2) rfl ?_);refine box_event ?hg (N := 2) ?hd (cs := #[.int .u64 a0_0, .int .u64 a0_1, .int .u64 a0_2, .int .i64 a0_3, .slice A0_4 l0_4.length c0_4]) (t := 40) ?hr ?_;(case hd => rfl);(case hg => rfl);(case hr => first|(go_simp;done)|(go_simp;rfl));intro gb283 hg w4 hbox hb;have n0_ := aK (below_step (by repeat (first|(with_reducible first|apply bA|apply bN|apply bD)|exact HB.out)) hb);have n1_ := aK (hbox);have n2_ := aK ((by rw [hg];exact (below_size (by repeat (first|(with_reducible first|apply bA|apply bN|apply bD)|exact HB.out))) : w.heap.size ≤ gb283));have n3_ := aK ((by rw [hg];exact (below_size (by repeat (first|(with_reducible first|apply bA|apply bN|apply bD)|exact HB.out))) : w.heap.size ≤ gb283));clear HB;have HB := n0_;have BK283 := n1_;have GW283 := n2_;have GE283 := n3_;clear n0_ n1_ n2_ n3_;clear hb hbox hg)|((with_reducible refine gate_dst (N := 3) rfl ?_);refine box_event ?hg (N := 3) ?hd (cs := #[.int .i64 a1_0, .string a1_1, .bool a1_2, .string a1_3, .string a1_4, .string a1_5]) (t := 42) ?hr ?_;(case hd => rfl);(case hg => rfl);(case hr => first|(go_simp;done)|(go_simp;rfl));intro gb284 hg w5 hbox hb;have n0_ := aK (blk_below (g := gb283) (o := .cells #[.int .u64 a0_0, .int .u64 a0_1, .int .u64 a0_2, .int .i64 a0_3, .slice A0_4 l0_4.length c0_4] 40 (0, 0)) (by (with_reducible repeat (first|refine blk_drewN ?_ _|refine blk_drew ?_|refine blk_alloc ?_ _));exact BK283.out) hb);have n1_ := aK (below_step (by repeat (first|(with_reducible first|apply bA|apply bN|apply bD|refine below_set ?_ GE283.out)|exact HB.out)) hb);have n2_ := aK (hbox);have n3_ := aK ((by rw [hg];exact (below_size (by repeat (first|(with_reducible first|apply bA|apply bN|apply bD|refine below_set ?_ GE283.out)|exact HB.out))) : w.heap.size ≤ gb284));have n4_ := aK ((by rw [hg];exact (below_size (by repeat (first|(with_reducible first|apply bA|apply bN|apply bD|refine below_set ?_ GE283.out)|exact HB.out))) : w.heap.size ≤ gb284));have n5_ := aK ((by rw [hg];exact Nat.ne_of_lt (blk_lt (g := gb283) (o := .cells #[.int .u64 a0_0, .int .u64 a0_1, .int .u64 a0_2, .int .i64 a0_3, .slice A0_4 l0_4.length c0_4] 40 (0, 0)) (by (with_reducible repeat (first|refine blk_drewN ?_ _|refine blk_drew ?_|refine blk_alloc ?_ _));exact BK283.out)) : gb283 ≠ gb284));have n6_ := aK ((by rw [hg];exact Nat.ne_of_gt (blk_lt (g := gb283) (o := .cells #[.int .u64 a0_0, .int .u64 a0_1, .int .u64 a0_2, .int .i64 a0_3, .slice A0_4 l0_4.length c0_4] 40 (0, 0)) (by (with_reducible repeat (first|refine blk_drewN ?_ _|refine blk_drew ?_|refine blk_alloc ?_ _));exact BK283.out)) : gb284 ≠ gb283));clear BK283;clear HB;have BK283 := n0_;have HB := n1_;have BK284 := n2_;have GW284 := n3_;have GE284 := n4_;have NB283_284 := n5_;have NB284_283 := n6_;clear n0_ n1_ n2_ n3_ n4_ n5_ n6_;clear hb hbox hg)|((with_reducible refine gate_dst (N := 4) rfl ?_);refine box_event ?hg (N := 4) ?hd (cs := #[.int .i64 0, .slice none 0 0, .slice none 0 0]) (t := 71) ?hr ?_;(case hd => rfl);(case hg => rfl);(case hr => first|(go_simp;done)|(go_simp;rfl));intro gb285 hg w6 hbox hb;have n0_ := aK (blk_below (g := gb283) (o := .cells #[.int .u64 a0_0, .int .u64 a0_1, .int .u64 a0_2, .int .i64 a0_3, .slice A0_4 l0_4.length c0_4] 40 (0, 0)) (by (with_reducible repeat (first|refine blk_drewN ?_ _|refine blk_drew ?_|refine blk_alloc ?_ _));exact BK283.out) hb);have n1_ := aK (blk_below (g := gb284) (o := .cells #[.int .i64 a1_0, .string a1_1, .bool a1_2, .string a1_3, .string a1_4, .string a1_5] 42 (0, 0)) (by (with_reducible repeat (first|refine blk_drewN ?_ _|refine blk_drew ?_|refine blk_alloc ?_ _));exact BK284.out) hb);have n2_ := aK (below_step (by repeat (first|(with_reducible first|apply bA|apply bN|apply bD|refine below_set ?_ GE283.out|refine below_set ?_ GE284.out)|exact HB.out)) hb);have n3_ := aK (hbox);have n4_ := aK ((by rw [hg];exact (below_size (by repeat (first|(with_reducible first|apply bA|apply bN|apply bD|refine below_set ?_ GE283.out|refine below_set ?_ GE284.out)|exact HB.out))) : w.heap.size ≤ gb285));have n5_ := aK ((by rw [hg];exact (below_size (by repeat (first|(with_reducible first|apply bA|apply bN|apply bD|refine below_set ?_ GE283.out|refine below_set ?_ GE284.out)|exact HB.out))) : w.heap.size ≤ gb285));have n6_ := aK ((by rw [hg];exact Nat.ne_of_lt (blk_lt (g := gb283) (o := .cells #[.int .u64 a0_0, .int .u64 a0_1, .int .u64 a0_2, .int .i64 a0_3, .slice A0_4 l0_4.length c0_4] 40 (0, 0)) (by (with_reducible repeat (first|refine blk_drewN ?_ _|refine blk_drew ?_|refine blk_alloc ?_ _));exact BK283.out)) : gb283 ≠ gb285));have n7_ := aK ((by rw [hg];exact Nat.ne_of_gt (blk_lt (g := gb283) (o := .cells #[.int .u64 a0_0, .int .u64 a0_1, .int .u64 a0_2, .int .i64 a0_3, .slice A0_4 l0_4.length c0_4] 40 (0, 0)) (by (with_reducible repeat (first|refine blk_drewN ?_ _|refine blk_drew ?_|refine blk_alloc ?_ _));exact BK283.out)) : gb285 ≠ gb283));have n8_ := aK ((by rw [hg];exact Nat.ne_of_lt (blk_lt (g := gb284) (o := .cells #[.int .i64 a1_0, .string a1_1, .bool a1_2, .string a1_3, .string a1_4, .string a1_5] 42 (0, 0)) (by (with_reducible repeat (first|refine blk_drewN ?_ _|refine blk_drew ?_|refine blk_alloc ?_ _));exact BK284.out)) : gb284 ≠ gb285));have n9_ := aK ((by rw [hg];exact Nat.ne_of_gt (blk_lt (g := gb284) (o := .cells #[.int .i64 a1_0, .string a1_1, .bool a1_2, .string a1_3, .string a1_4, .string a1_5] 42 (0, 0)) (by (with_reducible repeat (first|refine blk_drewN ?_ _|refine blk_drew ?_|refine blk_alloc ?_ _));exact BK284.out)) : gb285 ≠ gb284));clear BK283;clear BK284;clear HB;have BK283 := n0_;have BK284 := n1_;have HB := n2_;have BK285 := n3_;have GW285 := n4_;have GE285 := n5_;have NB283_285 := n6_;have NB285_283 := n7_;have NB284_285 := n8_;have NB285_284 := n9_;clear n0_ n1_ n2_ n3_ n4_ n5_ n6_ n7_ n8_ n9_;clear hb hbox hg;have hnb7 := NB284_283.out;have hnc7 := NB283_284.out;have hnb8 := NB284_285.out;have hnc8 := NB285_284.out;have hcz9_0 : w6.cell? ⟨gb284, 0, none⟩ = some (.int .i64 a1_0) := (blk_cell BK284.out 0).trans rfl;have hcz9_1 : w6.cell? ⟨gb284, 1, none⟩ = some (.string a1_1) := (blk_cell BK284.out 1).trans rfl;have hcz9_2 : w6.cell? ⟨gb284, 2, none⟩ = some (.bool a1_2) := (blk_cell BK284.out 2).trans rfl;have hcz9_3 : w6.cell? ⟨gb284, 3, none⟩ = some (.string a1_3) := (blk_cell BK284.out 3).trans rfl;have hcz9_4 : w6.cell? ⟨gb284, 4, none⟩ = some (.string a1_4) := (blk_cell BK284.out 4).trans rfl;have hcz9_5 : w6.cell? ⟨gb284, 5, none⟩ = some (.string a1_5) := (blk_cell BK284.out 5).trans rfl;have hfz9_0 := blk_frozen BK284.out 0;have hfz9_1 := blk_frozen BK284.out 1;have hfz9_2 := blk_frozen BK284.out 2;have hfz9_3 := blk_frozen BK284.out 3;have hfz9_4 := blk_frozen BK284.out 4;have hfz9_5 := blk_frozen BK284.out 5))
 (try simp only [Act.put, List.setIfInBounds_toArray, List.set_cons_zero, List.set_cons_succ])
 go_cut [5] (fun v5 wc => ∃ (kq : Nat) (x5_2 : ByteArray), v5 = .string x5_2 ∧ Aside0 (wicketmanref19_Page.j0 kq x5_2 a0_0 a0_1 a0_2 a0_3 l0_4 a1_0 a1_1 a1_2 a1_3 a1_4 a1_5 = some (r1, r2, r3)) ∧ Aside0 (kq ≤ k) ∧ Aside0 (wc.heap[gb283]? = some (.cells #[.int .u64 a0_0, .int .u64 a0_1, .int .u64 a0_2, .int .i64 a0_3, (.slice A0_4 l0_4.length c0_4)] 40 (0, 0))) ∧ Aside0 (wc.heap[gb284]? = some (.cells #[.int .i64 a1_0, .string a1_1, .bool a1_2, .string a1_3, .string a1_4, .string a1_5] 42 (0, 0))) ∧ Aside0 (wc.heap[gb285]? = some (.cells #[.int .i64 0, (.slice none 0 0), (.slice none 0 0)] 71 (0, 0))) ∧ Aside0 (Below w.heap.size w wc))
 case first =>
  have H := HC3.out
  clear HC3
  by_cases c10 : a1_4.toList = ([] : List UInt8)
  ·rw [if_pos c10] at H
   have c10b0 : (a1_4.toList == ([] : List UInt8)) = true := beq_iff_eq.mpr c10
   have c10b1 : (a1_4.toList != ([] : List UInt8)) = false := bne_eq_false_iff_eq.mpr c10
   have c10b5 : a1_4.toList.isEmpty = true := List.isEmpty_iff.2 (beq_iff_eq.1 c10b0)
   have c10b6 : (!a1_4.toList.isEmpty) = false := by rw [c10b5];rfl
   clear c10
   (first|rw [c10b6]|rw [c10b5]|rw [c10b0]|(simp only [i64_w, i32_w];rw [c10b0])|skip)
   have H' := aK H
   clear H
   go_wp2
   go_meet
   case rel => exact ⟨_, ((⟨#[]⟩ : BA)), (by first|rfl|(simp;done)|(simp [*];done)), H', ⟨by first|omega|exact Nat.le_refl _⟩, ⟨by (with_reducible repeat (first|refine blk_drewN ?_ _|refine blk_drew ?_|refine blk_alloc ?_ _));exact BK283.out⟩, ⟨by (with_reducible repeat (first|refine blk_drewN ?_ _|refine blk_drew ?_|refine blk_alloc ?_ _));exact BK284.out⟩, ⟨by (with_reducible repeat (first|refine blk_drewN ?_ _|refine blk_drew ?_|refine blk_alloc ?_ _));exact BK285.out⟩, ⟨by repeat (first|(with_reducible first|apply bA|apply bN|apply bD|refine below_set ?_ GE283.out|refine below_set ?_ GE284.out|refine below_set ?_ GE285.out)|exact HB.out)⟩⟩
  ·rw [if_neg c10] at H
   have c10b0 : (a1_4.toList == ([] : List UInt8)) = false := beq_eq_false_iff_ne.mpr c10
   have c10b1 : (a1_4.toList != ([] : List UInt8)) = true := bne_iff_ne.mpr c10
   have c10b5 : a1_4.toList.isEmpty = false := Bool.eq_false_iff.2 (fun h_ => bne_iff_ne.1 c10b1 (List.isEmpty_iff.1 h_))
   have c10b6 : (!a1_4.toList.isEmpty) = true := by rw [c10b5];rfl
   (first|rw [c10b6]|rw [c10b5]|rw [c10b0]|(simp only [i64_w, i32_w];rw [c10b0])|skip)
   by_cases c11 : 0 + 5 ≤ 9223372036854775807
   ·rw [if_pos c11] at H
    have c11b0 := eq_true c11
    have c11b1 : decide (0 + 5 ≤ 9223372036854775807) = true := decide_eq_true c11
    try have c11b2 : (9223372036854775807 < 0 + 5) = False := eq_false (Nat.not_lt.2 c11)
    by_cases c12 : 5 + a1_4.size ≤ 9223372036854775807
    ·rw [if_pos c12] at H
     have c12b0 := eq_true c12
     have c12b1 : decide (5 + a1_4.size ≤ 9223372036854775807) = true := decide_eq_true c12
     try have c12b2 : (9223372036854775807 < 5 + a1_4.size) = False := eq_false (Nat.not_lt.2 c12)
     by_cases c13 : (((⟨#[]⟩ : BA) ++ (⟨#[117, 115, 101, 114, 32]⟩ : BA)) ++ a1_4).size + 1 ≤ 9223372036854775807
     ·rw [if_pos c13] at H
      have c13b0 := eq_true c13
      have c13b1 : decide ((((⟨#[]⟩ : BA) ++ (⟨#[117, 115, 101, 114, 32]⟩ : BA)) ++ a1_4).size + 1 ≤ 9223372036854775807) = true := decide_eq_true c13
      try have c13b2 : (9223372036854775807 < (((⟨#[]⟩ : BA) ++ (⟨#[117, 115, 101, 114, 32]⟩ : BA)) ++ a1_4).size + 1) = False := eq_false (Nat.not_lt.2 c13)
      try (have c13b8 := c13b2;simp only [ByteArray.size_append, show ((⟨#[]⟩ : BA)).size = 0 from rfl, Nat.zero_add, show ((⟨#[117, 115, 101, 114, 32]⟩ : BA) : ByteArray).size = 5 from rfl] at c13b8)
      have H' := aK H
      clear H
      have hnb14 := NB284_283.out
      have hnc14 := NB283_284.out
      have hnb15 := NB284_285.out
      have hnc15 := NB285_284.out
      have hcz16_0 : w6.cell? ⟨gb284, 0, none⟩ = some (.int .i64 a1_0) := (blk_cell BK284.out 0).trans rfl
      have hcz16_1 : w6.cell? ⟨gb284, 1, none⟩ = some (.string a1_1) := (blk_cell BK284.out 1).trans rfl
      have hcz16_2 : w6.cell? ⟨gb284, 2, none⟩ = some (.bool a1_2) := (blk_cell BK284.out 2).trans rfl
      have hcz16_3 : w6.cell? ⟨gb284, 3, none⟩ = some (.string a1_3) := (blk_cell BK284.out 3).trans rfl
      have hcz16_4 : w6.cell? ⟨gb284, 4, none⟩ = some (.string a1_4) := (blk_cell BK284.out 4).trans rfl
      have hcz16_5 : w6.cell? ⟨gb284, 5, none⟩ = some (.string a1_5) := (blk_cell BK284.out 5).trans rfl
      have hfz16_0 := blk_frozen BK284.out 0
      have hfz16_1 := blk_frozen BK284.out 1
      have hfz16_2 := blk_frozen BK284.out 2
      have hfz16_3 := blk_frozen BK284.out 3
      have hfz16_4 := blk_frozen BK284.out 4
      have hfz16_5 := blk_frozen BK284.out 5
      go_wp2
      go_meet
      case rel => exact ⟨_, ((((⟨#[]⟩ : BA) ++ (⟨#[117, 115, 101, 114, 32]⟩ : BA)) ++ a1_4) ++ (⟨#[10]⟩ : BA)), (by first|rfl|(simp;done)|(simp [*];done)), H', ⟨by first|omega|exact Nat.le_refl _⟩, ⟨by (with_reducible repeat (first|refine blk_drewN ?_ _|refine blk_drew ?_|refine blk_alloc ?_ _));exact BK283.out⟩, ⟨by (with_reducible repeat (first|refine blk_drewN ?_ _|refine blk_drew ?_|refine blk_alloc ?_ _));exact BK284.out⟩, ⟨by (with_reducible repeat (first|refine blk_drewN ?_ _|refine blk_drew ?_|refine blk_alloc ?_ _));exact BK285.out⟩, ⟨by repeat (first|(with_reducible first|apply bA|apply bN|apply bD|refine below_set ?_ GE283.out|refine below_set ?_ GE284.out|refine below_set ?_ GE285.out)|exact HB.out)⟩⟩
     ·rw [if_neg c13] at H
      exact absurd H (by simp)
    ·rw [if_neg c12] at H
     exact absurd H (by simp)
   ·rw [if_neg c11] at H
    exact absurd H (by simp)
 case rest =>
  clear HC3
  try clear c1
  try clear p2
  try clear c4
  try clear c7
  try clear c8
  try clear c10
  try clear c10b0
  try clear c10b1
  try clear c11
  try clear c11b0
  try clear c11b1
  try clear c11b2
  try clear c12
  try clear c12b0
  try clear c12b1
  try clear c12b2
  try clear c13
  try clear c13b0
  try clear c13b1
  try clear c13b2
  try clear c14
  try clear c15
  try clear hcz16_0
  try clear hcz16_1
  try clear hcz16_2
  try clear hcz16_3
  try clear hcz16_4
  try clear hcz16_5
  try clear hcz9_0
  try clear hcz9_1
  try clear hcz9_2
  try clear hcz9_3
  try clear hcz9_4
  try clear hcz9_5
  try clear hfz16_0
  try clear hfz16_1
  try clear hfz16_2
  try clear hfz16_3
  try clear hfz16_4
  try clear hfz16_5
  try clear hfz9_0
  try clear hfz9_1
  try clear hfz9_2
  try clear hfz9_3
  try clear hfz9_4
  try clear hfz9_5
  obtain ⟨kq, x5_2, rfl, HA, HJ2, BK283, BK284, BK285, HB⟩ := hcut
  cases kq with
  | zero => exact absurd HA.out (by simp [wicketmanref19_Page.j0])
  | succ kj2 =>
   have H := HA.out
   clear HA
   simp only [wicketmanref19_Page.j0] at H
   have HC17 := aK H
   clear H
   have hnb18 := NB284_283.out
   have hnc18 := NB283_284.out
   have hnb19 := NB284_285.out
   have hnc19 := NB285_284.out
   have hcz20_0 : wc.cell? ⟨gb284, 0, none⟩ = some (.int .i64 a1_0) := (blk_cell BK284.out 0).trans rfl
   have hcz20_1 : wc.cell? ⟨gb284, 1, none⟩ = some (.string a1_1) := (blk_cell BK284.out 1).trans rfl
   have hcz20_2 : wc.cell? ⟨gb284, 2, none⟩ = some (.bool a1_2) := (blk_cell BK284.out 2).trans rfl
   have hcz20_3 : wc.cell? ⟨gb284, 3, none⟩ = some (.string a1_3) := (blk_cell BK284.out 3).trans rfl
   have hcz20_4 : wc.cell? ⟨gb284, 4, none⟩ = some (.string a1_4) := (blk_cell BK284.out 4).trans rfl
   have hcz20_5 : wc.cell? ⟨gb284, 5, none⟩ = some (.string a1_5) := (blk_cell BK284.out 5).trans rfl
   have hfz20_0 := blk_frozen BK284.out 0
   have hfz20_1 := blk_frozen BK284.out 1
   have hfz20_2 := blk_frozen BK284.out 2
   have hfz20_3 := blk_frozen BK284.out 3
   have hfz20_4 := blk_frozen BK284.out 4
   have hfz20_5 := blk_frozen BK284.out 5
   go_upto_if 22 with (fail)
   go_cut [5] (fun v5 wc => ∃ (kq : Nat) (x5_16 : ByteArray), v5 = .string x5_16 ∧ Aside0 (wicketmanref19_Page.j1 kq x5_16 a0_0 a0_1 a0_2 a0_3 l0_4 a1_0 a1_1 a1_2 a1_3 a1_4 a1_5 = some (r1, r2, r3)) ∧ Aside0 (kq ≤ kj2) ∧ Aside0 (wc.heap[gb283]? = some (.cells #[.int .u64 a0_0, .int .u64 a0_1, .int .u64 a0_2, .int .i64 a0_3, (.slice A0_4 l0_4.length c0_4)] 40 (0, 0))) ∧ Aside0 (wc.heap[gb284]? = some (.cells #[.int .i64 a1_0, .string a1_1, .bool a1_2, .string a1_3, .string a1_4, .string a1_5] 42 (0, 0))) ∧ Aside0 (wc.heap[gb285]? = some (.cells #[.int .i64 0, (.slice none 0 0), (.slice none 0 0)] 71 (0, 0))) ∧ Aside0 (Below w.heap.size w wc))
   case first =>
    have H := HC17.out
    clear HC17
    by_cases c21 : a1_5.toList = ([] : List UInt8)
    ·rw [if_pos c21] at H
     have c21b0 : (a1_5.toList == ([] : List UInt8)) = true := beq_iff_eq.mpr c21
     have c21b1 : (a1_5.toList != ([] : List UInt8)) = false := bne_eq_false_iff_eq.mpr c21
     have c21b5 : a1_5.toList.isEmpty = true := List.isEmpty_iff.2 (beq_iff_eq.1 c21b0)
     have c21b6 : (!a1_5.toList.isEmpty) = false := by rw [c21b5];rfl
     clear c21
     (first|rw [c21b6]|rw [c21b5]|rw [c21b0]|(simp only [i64_w, i32_w];rw [c21b0])|skip)
     have H' := aK H
     clear H
     go_wp2
     go_meet
     case rel => exact ⟨_, (x5_2), (by first|rfl|(simp;done)|(simp [*];done)), H', ⟨by have := HJ2.out;first|omega|exact Nat.le_refl _⟩, ⟨by (with_reducible repeat (first|refine blk_drewN ?_ _|refine blk_drew ?_|refine blk_alloc ?_ _));exact BK283.out⟩, ⟨by (with_reducible repeat (first|refine blk_drewN ?_ _|refine blk_drew ?_|refine blk_alloc ?_ _));exact BK284.out⟩, ⟨by (with_reducible repeat (first|refine blk_drewN ?_ _|refine blk_drew ?_|refine blk_alloc ?_ _));exact BK285.out⟩, ⟨by repeat (first|(with_reducible first|apply bA|apply bN|apply bD|refine below_set ?_ GE283.out|refine below_set ?_ GE284.out|refine below_set ?_ GE285.out)|exact HB.out)⟩⟩
    ·rw [if_neg c21] at H
     have c21b0 : (a1_5.toList == ([] : List UInt8)) = false := beq_eq_false_iff_ne.mpr c21
     have c21b1 : (a1_5.toList != ([] : List UInt8)) = true := bne_iff_ne.mpr c21
     have c21b5 : a1_5.toList.isEmpty = false := Bool.eq_false_iff.2 (fun h_ => bne_iff_ne.1 c21b1 (List.isEmpty_iff.1 h_))
     have c21b6 : (!a1_5.toList.isEmpty) = true := by rw [c21b5];rfl
     (first|rw [c21b6]|rw [c21b5]|rw [c21b0]|(simp only [i64_w, i32_w];rw [c21b0])|skip)
     by_cases c22 : x5_2.size + 5 ≤ 9223372036854775807
     ·rw [if_pos c22] at H
      have c22b0 := eq_true c22
      have c22b1 : decide (x5_2.size + 5 ≤ 9223372036854775807) = true := decide_eq_true c22
      try have c22b2 : (9223372036854775807 < x5_2.size + 5) = False := eq_false (Nat.not_lt.2 c22)
      replace H := Option.bind_eq_some_iff.mp H
      obtain ⟨t286, A230, H⟩ := H
      try dsimp only at H
      have A23 := aK A230
      clear A230
      by_cases c24 : (x5_2 ++ (⟨#[110, 111, 116, 101, 32]⟩ : BA)).size + t286.size ≤ 9223372036854775807
      ·rw [if_pos c24] at H
       have c24b0 := eq_true c24
       have c24b1 : decide ((x5_2 ++ (⟨#[110, 111, 116, 101, 32]⟩ : BA)).size + t286.size ≤ 9223372036854775807) = true := decide_eq_true c24
       try have c24b2 : (9223372036854775807 < (x5_2 ++ (⟨#[110, 111, 116, 101, 32]⟩ : BA)).size + t286.size) = False := eq_false (Nat.not_lt.2 c24)
       try (have c24b8 := c24b2;simp only [ByteArray.size_append, show ((⟨#[]⟩ : BA)).size = 0 from rfl, Nat.zero_add, show ((⟨#[110, 111, 116, 101, 32]⟩ : BA) : ByteArray).size = 5 from rfl] at c24b8)
       by_cases c25 : ((x5_2 ++ (⟨#[110, 111, 116, 101, 32]⟩ : BA)) ++ t286).size + 1 ≤ 9223372036854775807
       ·rw [if_pos c25] at H
        have c25b0 := eq_true c25
        have c25b1 : decide (((x5_2 ++ (⟨#[110, 111, 116, 101, 32]⟩ : BA)) ++ t286).size + 1 ≤ 9223372036854775807) = true := decide_eq_true c25
        try have c25b2 : (9223372036854775807 < ((x5_2 ++ (⟨#[110, 111, 116, 101, 32]⟩ : BA)) ++ t286).size + 1) = False := eq_false (Nat.not_lt.2 c25)
        try (have c25b8 := c25b2;simp only [ByteArray.size_append, show ((⟨#[]⟩ : BA)).size = 0 from rfl, Nat.zero_add, show ((⟨#[110, 111, 116, 101, 32]⟩ : BA) : ByteArray).size = 5 from rfl] at c25b8)
        have H' := aK H
        clear H
        have hnb26 := NB284_283.out
        have hnc26 := NB283_284.out
        have hnb27 := NB284_285.out
        have hnc27 := NB285_284.out
        have hcz28_0 : wc.cell? ⟨gb284, 0, none⟩ = some (.int .i64 a1_0) := (blk_cell BK284.out 0).trans rfl
        have hcz28_1 : wc.cell? ⟨gb284, 1, none⟩ = some (.string a1_1) := (blk_cell BK284.out 1).trans rfl
        have hcz28_2 : wc.cell? ⟨gb284, 2, none⟩ = some (.bool a1_2) := (blk_cell BK284.out 2).trans rfl
        have hcz28_3 : wc.cell? ⟨gb284, 3, none⟩ = some (.string a1_3) := (blk_cell BK284.out 3).trans rfl
        have hcz28_4 : wc.cell? ⟨gb284, 4, none⟩ = some (.string a1_4) := (blk_cell BK284.out 4).trans rfl
        have hcz28_5 : wc.cell? ⟨gb284, 5, none⟩ = some (.string a1_5) := (blk_cell BK284.out 5).trans rfl
        have hfz28_0 := blk_frozen BK284.out 0
        have hfz28_1 := blk_frozen BK284.out 1
        have hfz28_2 := blk_frozen BK284.out 2
        have hfz28_3 := blk_frozen BK284.out 3
        have hfz28_4 := blk_frozen BK284.out 4
        have hfz28_5 := blk_frozen BK284.out 5
        go_wp2_with (first|((with_reducible refine gate_callee (f := 90) rfl ?_);refine goesL_ (some 27) rfl rfl Tryz.func90 (by kernel_rfl) rfl #[.string a1_5] rfl (by (try simp only [List.map_toArray, List.map_cons, List.map_nil]);first|done|rfl|(simp only [List.length_drop, List.length_take];rfl)) ?_;(with_reducible refine (wicketmanref06_Escape.calls kj2 a1_5 t286 _ A23.out).mono ?_);rintro e w29 ⟨rfl, hb⟩;refine ⟨_, rfl, ?_⟩;have n0_ := aK (blk_below (g := gb283) (o := .cells #[.int .u64 a0_0, .int .u64 a0_1, .int .u64 a0_2, .int .i64 a0_3, .slice A0_4 l0_4.length c0_4] 40 (0, 0)) (by (with_reducible repeat (first|refine blk_drewN ?_ _|refine blk_drew ?_|refine blk_alloc ?_ _));exact BK283.out) hb);have n1_ := aK (blk_below (g := gb284) (o := .cells #[.int .i64 a1_0, .string a1_1, .bool a1_2, .string a1_3, .string a1_4, .string a1_5] 42 (0, 0)) (by (with_reducible repeat (first|refine blk_drewN ?_ _|refine blk_drew ?_|refine blk_alloc ?_ _));exact BK284.out) hb);have n2_ := aK (blk_below (g := gb285) (o := .cells #[.int .i64 0, .slice none 0 0, .slice none 0 0] 71 (0, 0)) (by (with_reducible repeat (first|refine blk_drewN ?_ _|refine blk_drew ?_|refine blk_alloc ?_ _));exact BK285.out) hb);have n3_ := aK (below_step (by repeat (first|(with_reducible first|apply bA|apply bN|apply bD|refine below_set ?_ GE283.out|refine below_set ?_ GE284.out|refine below_set ?_ GE285.out)|exact HB.out)) hb);clear BK283;clear BK284;clear BK285;clear HB;have BK283 := n0_;have BK284 := n1_;have BK285 := n2_;have HB := n3_;clear n0_ n1_ n2_ n3_;try clear hb))
        go_meet
        case rel => exact ⟨_, (((x5_2 ++ (⟨#[110, 111, 116, 101, 32]⟩ : BA)) ++ t286) ++ (⟨#[10]⟩ : BA)), (by first|rfl|(simp;done)|(simp [*];done)), H', ⟨by have := HJ2.out;first|omega|exact Nat.le_refl _⟩, ⟨by (with_reducible repeat (first|refine blk_drewN ?_ _|refine blk_drew ?_|refine blk_alloc ?_ _));exact BK283.out⟩, ⟨by (with_reducible repeat (first|refine blk_drewN ?_ _|refine blk_drew ?_|refine blk_alloc ?_ _));exact BK284.out⟩, ⟨by (with_reducible repeat (first|refine blk_drewN ?_ _|refine blk_drew ?_|refine blk_alloc ?_ _));exact BK285.out⟩, ⟨by repeat (first|(with_reducible first|apply bA|apply bN|apply bD|refine below_set ?_ GE283.out|refine below_set ?_ GE284.out|refine below_set ?_ GE285.out)|exact HB.out)⟩⟩
       ·rw [if_neg c25] at H
        exact absurd H (by simp)
      ·rw [if_neg c24] at H
       exact absurd H (by simp)
     ·rw [if_neg c22] at H
      exact absurd H (by simp)
   case rest =>
    clear HC17
    try clear c1
    try clear c2
    try clear p2
    try clear c4
    try clear c7
    try clear c8
    try clear c9
    try clear c10
    try clear c10b0
    try clear c10b1
    try clear c11
    try clear c11b0
    try clear c11b1
    try clear c11b2
    try clear c12
    try clear c12b0
    try clear c12b1
    try clear c12b2
    try clear c13
    try clear c13b0
    try clear c13b1
    try clear c13b2
    try clear c14
    try clear c15
    try clear c18
    try clear c19
    try clear c21
    try clear c21b0
    try clear c21b1
    try clear c22
    try clear c22b0
    try clear c22b1
    try clear c22b2
    try clear c24
    try clear c24b0
    try clear c24b1
    try clear c24b2
    try clear c25
    try clear c25b0
    try clear c25b1
    try clear c25b2
    try clear c26
    try clear c27
    try clear hcz16_0
    try clear hcz16_1
    try clear hcz16_2
    try clear hcz16_3
    try clear hcz16_4
    try clear hcz16_5
    try clear hcz20_0
    try clear hcz20_1
    try clear hcz20_2
    try clear hcz20_3
    try clear hcz20_4
    try clear hcz20_5
    try clear hcz28_0
    try clear hcz28_1
    try clear hcz28_2
    try clear hcz28_3
    try clear hcz28_4
    try clear hcz28_5
    try clear hcz9_0
    try clear hcz9_1
    try clear hcz9_2
    try clear hcz9_3
    try clear hcz9_4
    try clear hcz9_5
    try clear hfz16_0
    try clear hfz16_1
    try clear hfz16_2
    try clear hfz16_3
    try clear hfz16_4
    try clear hfz16_5
    try clear hfz20_0
    try clear hfz20_1
    try clear hfz20_2
    try clear hfz20_3
    try clear hfz20_4
    try clear hfz20_5
    try clear hfz28_0
    try clear hfz28_1
    try clear hfz28_2
    try clear hfz28_3
    try clear hfz28_4
    try clear hfz28_5
    try clear hfz9_0
    try clear hfz9_1
    try clear hfz9_2
    try clear hfz9_3
    try clear hfz9_4
    try clear hfz9_5
    try clear p2
    obtain ⟨kq, x5_16, rfl, HA, HJ16, BK283, BK284, BK285, HB⟩ := hcut
    cases kq with
    | zero => exact absurd HA.out (by simp [wicketmanref19_Page.j1])
    | succ kj16 =>
     have H := HA.out
     clear HA
     simp only [wicketmanref19_Page.j1] at H
     have HC30 := aK H
     clear H
     have hnb31 := NB284_283.out
     have hnc31 := NB283_284.out
     have hnb32 := NB284_285.out
     have hnc32 := NB285_284.out
     have hcz33_0 : wc.cell? ⟨gb284, 0, none⟩ = some (.int .i64 a1_0) := (blk_cell BK284.out 0).trans rfl
     have hcz33_1 : wc.cell? ⟨gb284, 1, none⟩ = some (.string a1_1) := (blk_cell BK284.out 1).trans rfl
     have hcz33_2 : wc.cell? ⟨gb284, 2, none⟩ = some (.bool a1_2) := (blk_cell BK284.out 2).trans rfl
     have hcz33_3 : wc.cell? ⟨gb284, 3, none⟩ = some (.string a1_3) := (blk_cell BK284.out 3).trans rfl
     have hcz33_4 : wc.cell? ⟨gb284, 4, none⟩ = some (.string a1_4) := (blk_cell BK284.out 4).trans rfl
     have hcz33_5 : wc.cell? ⟨gb284, 5, none⟩ = some (.string a1_5) := (blk_cell BK284.out 5).trans rfl
     have hfz33_0 := blk_frozen BK284.out 0
     have hfz33_1 := blk_frozen BK284.out 1
     have hfz33_2 := blk_frozen BK284.out 2
     have hfz33_3 := blk_frozen BK284.out 3
     have hfz33_4 := blk_frozen BK284.out 4
     have hfz33_5 := blk_frozen BK284.out 5
     go_upto_if 32 with (fail)
     go_cut [5] (fun v5 wc => ∃ (kq : Nat) (x5_29 : ByteArray), v5 = .string x5_29 ∧ Aside0 (wicketmanref19_Page.j2 kq x5_29 a0_0 a0_1 a0_2 a0_3 l0_4 a1_0 a1_1 a1_2 a1_3 a1_4 a1_5 = some (r1, r2, r3)) ∧ Aside0 (kq ≤ kj16) ∧ Aside0 (wc.heap[gb283]? = some (.cells #[.int .u64 a0_0, .int .u64 a0_1, .int .u64 a0_2, .int .i64 a0_3, (.slice A0_4 l0_4.length c0_4)] 40 (0, 0))) ∧ Aside0 (wc.heap[gb284]? = some (.cells #[.int .i64 a1_0, .string a1_1, .bool a1_2, .string a1_3, .string a1_4, .string a1_5] 42 (0, 0))) ∧ Aside0 (wc.heap[gb285]? = some (.cells #[.int .i64 0, (.slice none 0 0), (.slice none 0 0)] 71 (0, 0))) ∧ Aside0 (Below w.heap.size w wc))
     case first =>
      have H := HC30.out
      clear HC30
      by_cases c34 : a1_3.toList = ([] : List UInt8)
      ·rw [if_pos c34] at H
       have c34b0 : (a1_3.toList == ([] : List UInt8)) = true := beq_iff_eq.mpr c34
       have c34b1 : (a1_3.toList != ([] : List UInt8)) = false := bne_eq_false_iff_eq.mpr c34
       have c34b5 : a1_3.toList.isEmpty = true := List.isEmpty_iff.2 (beq_iff_eq.1 c34b0)
       have c34b6 : (!a1_3.toList.isEmpty) = false := by rw [c34b5];rfl
       clear c34
       (first|rw [c34b6]|rw [c34b5]|rw [c34b0]|(simp only [i64_w, i32_w];rw [c34b0])|skip)
       have H' := aK H
       clear H
       go_wp2
       go_meet
       case rel => exact ⟨_, (x5_16), (by first|rfl|(simp;done)|(simp [*];done)), H', ⟨by have := HJ2.out;have := HJ16.out;first|omega|exact Nat.le_refl _⟩, ⟨by (with_reducible repeat (first|refine blk_drewN ?_ _|refine blk_drew ?_|refine blk_alloc ?_ _));exact BK283.out⟩, ⟨by (with_reducible repeat (first|refine blk_drewN ?_ _|refine blk_drew ?_|refine blk_alloc ?_ _));exact BK284.out⟩, ⟨by (with_reducible repeat (first|refine blk_drewN ?_ _|refine blk_drew ?_|refine blk_alloc ?_ _));exact BK285.out⟩, ⟨by repeat (first|(with_reducible first|apply bA|apply bN|apply bD|refine below_set ?_ GE283.out|refine below_set ?_ GE284.out|refine below_set ?_ GE285.out)|exact HB.out)⟩⟩
      ·rw [if_neg c34] at H
       have c34b0 : (a1_3.toList == ([] : List UInt8)) = false := beq_eq_false_iff_ne.mpr c34
       have c34b1 : (a1_3.toList != ([] : List UInt8)) = true := bne_iff_ne.mpr c34
       have c34b5 : a1_3.toList.isEmpty = false := Bool.eq_false_iff.2 (fun h_ => bne_iff_ne.1 c34b1 (List.isEmpty_iff.1 h_))
       have c34b6 : (!a1_3.toList.isEmpty) = true := by rw [c34b5];rfl
       (first|rw [c34b6]|rw [c34b5]|rw [c34b0]|(simp only [i64_w, i32_w];rw [c34b0])|skip)
       by_cases c35 : x5_16.size + 6 ≤ 9223372036854775807
       ·rw [if_pos c35] at H
        have c35b0 := eq_true c35
        have c35b1 : decide (x5_16.size + 6 ≤ 9223372036854775807) = true := decide_eq_true c35
        try have c35b2 : (9223372036854775807 < x5_16.size + 6) = False := eq_false (Nat.not_lt.2 c35)
        by_cases c36 : (x5_16 ++ (⟨#[116, 111, 107, 101, 110, 32]⟩ : BA)).size + a1_3.size ≤ 9223372036854775807
        ·rw [if_pos c36] at H
         have c36b0 := eq_true c36
         have c36b1 : decide ((x5_16 ++ (⟨#[116, 111, 107, 101, 110, 32]⟩ : BA)).size + a1_3.size ≤ 9223372036854775807) = true := decide_eq_true c36
         try have c36b2 : (9223372036854775807 < (x5_16 ++ (⟨#[116, 111, 107, 101, 110, 32]⟩ : BA)).size + a1_3.size) = False := eq_false (Nat.not_lt.2 c36)
         try (have c36b8 := c36b2;simp only [ByteArray.size_append, show ((⟨#[]⟩ : BA)).size = 0 from rfl, Nat.zero_add, show ((⟨#[116, 111, 107, 101, 110, 32]⟩ : BA) : ByteArray).size = 6 from rfl] at c36b8)
         by_cases c37 : ((x5_16 ++ (⟨#[116, 111, 107, 101, 110, 32]⟩ : BA)) ++ a1_3).size + 1 ≤ 9223372036854775807
         ·rw [if_pos c37] at H
          have c37b0 := eq_true c37
          have c37b1 : decide (((x5_16 ++ (⟨#[116, 111, 107, 101, 110, 32]⟩ : BA)) ++ a1_3).size + 1 ≤ 9223372036854775807) = true := decide_eq_true c37
          try have c37b2 : (9223372036854775807 < ((x5_16 ++ (⟨#[116, 111, 107, 101, 110, 32]⟩ : BA)) ++ a1_3).size + 1) = False := eq_false (Nat.not_lt.2 c37)
          try (have c37b8 := c37b2;simp only [ByteArray.size_append, show ((⟨#[]⟩ : BA)).size = 0 from rfl, Nat.zero_add, show ((⟨#[116, 111, 107, 101, 110, 32]⟩ : BA) : ByteArray).size = 6 from rfl] at c37b8)
          have H' := aK H
          clear H
          have hnb38 := NB284_283.out
          have hnc38 := NB283_284.out
          have hnb39 := NB284_285.out
          have hnc39 := NB285_284.out
          have hcz40_0 : wc.cell? ⟨gb284, 0, none⟩ = some (.int .i64 a1_0) := (blk_cell BK284.out 0).trans rfl
          have hcz40_1 : wc.cell? ⟨gb284, 1, none⟩ = some (.string a1_1) := (blk_cell BK284.out 1).trans rfl
          have hcz40_2 : wc.cell? ⟨gb284, 2, none⟩ = some (.bool a1_2) := (blk_cell BK284.out 2).trans rfl
          have hcz40_3 : wc.cell? ⟨gb284, 3, none⟩ = some (.string a1_3) := (blk_cell BK284.out 3).trans rfl
          have hcz40_4 : wc.cell? ⟨gb284, 4, none⟩ = some (.string a1_4) := (blk_cell BK284.out 4).trans rfl
          have hcz40_5 : wc.cell? ⟨gb284, 5, none⟩ = some (.string a1_5) := (blk_cell BK284.out 5).trans rfl
          have hfz40_0 := blk_frozen BK284.out 0
          have hfz40_1 := blk_frozen BK284.out 1
          have hfz40_2 := blk_frozen BK284.out 2
          have hfz40_3 := blk_frozen BK284.out 3
          have hfz40_4 := blk_frozen BK284.out 4
          have hfz40_5 := blk_frozen BK284.out 5
          go_wp2
          go_meet
          case rel => exact ⟨_, (((x5_16 ++ (⟨#[116, 111, 107, 101, 110, 32]⟩ : BA)) ++ a1_3) ++ (⟨#[10]⟩ : BA)), (by first|rfl|(simp;done)|(simp [*];done)), H', ⟨by have := HJ2.out;have := HJ16.out;first|omega|exact Nat.le_refl _⟩, ⟨by (with_reducible repeat (first|refine blk_drewN ?_ _|refine blk_drew ?_|refine blk_alloc ?_ _));exact BK283.out⟩, ⟨by (with_reducible repeat (first|refine blk_drewN ?_ _|refine blk_drew ?_|refine blk_alloc ?_ _));exact BK284.out⟩, ⟨by (with_reducible repeat (first|refine blk_drewN ?_ _|refine blk_drew ?_|refine blk_alloc ?_ _));exact BK285.out⟩, ⟨by repeat (first|(with_reducible first|apply bA|apply bN|apply bD|refine below_set ?_ GE283.out|refine below_set ?_ GE284.out|refine below_set ?_ GE285.out)|exact HB.out)⟩⟩
         ·rw [if_neg c37] at H
          exact absurd H (by simp)
        ·rw [if_neg c36] at H
         exact absurd H (by simp)
       ·rw [if_neg c35] at H
        exact absurd H (by simp)
     case rest =>
      clear HC30
      try clear c1
      try clear c2
      try clear p2
      try clear c3
      try clear c4
      try clear c7
      try clear c8
      try clear c9
      try clear c10
      try clear c10b0
      try clear c10b1
      try clear c11
      try clear c11b0
      try clear c11b1
      try clear c11b2
      try clear c12
      try clear c12b0
      try clear c12b1
      try clear c12b2
      try clear c13
      try clear c13b0
      try clear c13b1
      try clear c13b2
      try clear c14
      try clear c15
      try clear c18
      try clear c19
      try clear c21
      try clear c21b0
      try clear c21b1
      try clear c22
      try clear c22b0
      try clear c22b1
      try clear c22b2
      try clear c24
      try clear c24b0
      try clear c24b1
      try clear c24b2
      try clear c25
      try clear c25b0
      try clear c25b1
      try clear c25b2
      try clear c26
      try clear c27
      try clear c31
      try clear c32
      try clear c34
      try clear c34b0
      try clear c34b1
      try clear c35
      try clear c35b0
      try clear c35b1
      try clear c35b2
      try clear c36
      try clear c36b0
      try clear c36b1
      try clear c36b2
      try clear c37
      try clear c37b0
      try clear c37b1
      try clear c37b2
      try clear c38
      try clear c39
      try clear hcz16_0
      try clear hcz16_1
      try clear hcz16_2
      try clear hcz16_3
      try clear hcz16_4
      try clear hcz16_5
      try clear hcz20_0
      try clear hcz20_1
      try clear hcz20_2
      try clear hcz20_3
      try clear hcz20_4
      try clear hcz20_5
      try clear hcz28_0
      try clear hcz28_1
      try clear hcz28_2
      try clear hcz28_3
      try clear hcz28_4
      try clear hcz28_5
      try clear hcz33_0
      try clear hcz33_1
      try clear hcz33_2
      try clear hcz33_3
      try clear hcz33_4
      try clear hcz33_5
      try clear hcz40_0
      try clear hcz40_1
      try clear hcz40_2
      try clear hcz40_3
      try clear hcz40_4
      try clear hcz40_5
      try clear hcz9_0
      try clear hcz9_1
      try clear hcz9_2
      try clear hcz9_3
      try clear hcz9_4
      try clear hcz9_5
      try clear hfz16_0
      try clear hfz16_1
      try clear hfz16_2
      try clear hfz16_3
      try clear hfz16_4
      try clear hfz16_5
      try clear hfz20_0
      try clear hfz20_1
      try clear hfz20_2
      try clear hfz20_3
      try clear hfz20_4
      try clear hfz20_5
      try clear hfz28_0
      try clear hfz28_1
      try clear hfz28_2
      try clear hfz28_3
      try clear hfz28_4
      try clear hfz28_5
      try clear hfz33_0
      try clear hfz33_1
      try clear hfz33_2
      try clear hfz33_3
      try clear hfz33_4
      try clear hfz33_5
      try clear hfz40_0
      try clear hfz40_1
      try clear hfz40_2
      try clear hfz40_3
      try clear hfz40_4
      try clear hfz40_5
      try clear hfz9_0
      try clear hfz9_1
      try clear hfz9_2
      try clear hfz9_3
      try clear hfz9_4
      try clear hfz9_5
      try clear p2
      obtain ⟨kq, x5_29, rfl, HA, HJ29, BK283, BK284, BK285, HB⟩ := hcut
      cases kq with
      | zero => exact absurd HA.out (by simp [wicketmanref19_Page.j2])
      | succ kj29 =>
       have H := HA.out
       clear HA
       simp only [wicketmanref19_Page.j2] at H
       have HC41 := aK H
       clear H
       go_upto_if 40 with (fail)
       go_cut [5] (fun v5 wc => ∃ (kq : Nat) (x5_40 : ByteArray), v5 = .string x5_40 ∧ Aside0 (wicketmanref19_Page.j3 kq x5_40 a0_0 a0_1 a0_2 a0_3 l0_4 a1_0 a1_1 a1_2 a1_3 a1_4 a1_5 = some (r1, r2, r3)) ∧ Aside0 (kq ≤ kj29) ∧ Aside0 (wc.heap[gb283]? = some (.cells #[.int .u64 a0_0, .int .u64 a0_1, .int .u64 a0_2, .int .i64 a0_3, (.slice A0_4 l0_4.length c0_4)] 40 (0, 0))) ∧ Aside0 (wc.heap[gb284]? = some (.cells #[.int .i64 a1_0, .string a1_1, .bool a1_2, .string a1_3, .string a1_4, .string a1_5] 42 (0, 0))) ∧ Aside0 (wc.heap[gb285]? = some (.cells #[.int .i64 0, (.slice none 0 0), (.slice none 0 0)] 71 (0, 0))) ∧ Aside0 (Below w.heap.size w wc))
       case first =>
        have H := HC41.out
        clear HC41
        by_cases c42 : x5_29.toList = ([] : List UInt8)
        ·rw [if_pos c42] at H
         have c42b0 : (x5_29.toList == ([] : List UInt8)) = true := beq_iff_eq.mpr c42
         have c42b1 : (x5_29.toList != ([] : List UInt8)) = false := bne_eq_false_iff_eq.mpr c42
         have c42b5 : x5_29.toList.isEmpty = true := List.isEmpty_iff.2 (beq_iff_eq.1 c42b0)
         have c42b6 : (!x5_29.toList.isEmpty) = false := by rw [c42b5];rfl
         clear c42
         (first|rw [c42b6]|rw [c42b5]|rw [c42b0]|(simp only [i64_w, i32_w];rw [c42b0])|skip)
         replace H := Option.bind_eq_some_iff.mp H
         obtain ⟨t287, A430, H⟩ := H
         try dsimp only at H
         have A43 := aK A430
         clear A430
         by_cases c44 : t287.size + 1 ≤ 9223372036854775807
         ·rw [if_pos c44] at H
          have c44b0 := eq_true c44
          have c44b1 : decide (t287.size + 1 ≤ 9223372036854775807) = true := decide_eq_true c44
          try have c44b2 : (9223372036854775807 < t287.size + 1) = False := eq_false (Nat.not_lt.2 c44)
          have H' := aK H
          clear H
          have hnb45 := NB284_283.out
          have hnc45 := NB283_284.out
          have hnb46 := NB284_285.out
          have hnc46 := NB285_284.out
          have hcz47_0 : wc.cell? ⟨gb284, 0, none⟩ = some (.int .i64 a1_0) := (blk_cell BK284.out 0).trans rfl
          have hcz47_1 : wc.cell? ⟨gb284, 1, none⟩ = some (.string a1_1) := (blk_cell BK284.out 1).trans rfl
          have hcz47_2 : wc.cell? ⟨gb284, 2, none⟩ = some (.bool a1_2) := (blk_cell BK284.out 2).trans rfl
          have hcz47_3 : wc.cell? ⟨gb284, 3, none⟩ = some (.string a1_3) := (blk_cell BK284.out 3).trans rfl
          have hcz47_4 : wc.cell? ⟨gb284, 4, none⟩ = some (.string a1_4) := (blk_cell BK284.out 4).trans rfl
          have hcz47_5 : wc.cell? ⟨gb284, 5, none⟩ = some (.string a1_5) := (blk_cell BK284.out 5).trans rfl
          have hfz47_0 := blk_frozen BK284.out 0
          have hfz47_1 := blk_frozen BK284.out 1
          have hfz47_2 := blk_frozen BK284.out 2
          have hfz47_3 := blk_frozen BK284.out 3
          have hfz47_4 := blk_frozen BK284.out 4
          have hfz47_5 := blk_frozen BK284.out 5
          go_wp2_with (first|((with_reducible refine gate_callee (f := 91) rfl ?_);refine goesL_ (some 43) rfl rfl Tryz.func91 (by kernel_rfl) rfl #[.int .i64 a1_0] rfl (by (try simp only [List.map_toArray, List.map_cons, List.map_nil]);first|done|rfl|(simp only [List.length_drop, List.length_take];rfl)) ?_;(with_reducible refine (wicketmanref10_Reason.calls kj29 a1_0 t287 _ A43.out).mono ?_);rintro e w48 ⟨rfl, hb⟩;refine ⟨_, rfl, ?_⟩;have n0_ := aK (blk_below (g := gb283) (o := .cells #[.int .u64 a0_0, .int .u64 a0_1, .int .u64 a0_2, .int .i64 a0_3, .slice A0_4 l0_4.length c0_4] 40 (0, 0)) (by (with_reducible repeat (first|refine blk_drewN ?_ _|refine blk_drew ?_|refine blk_alloc ?_ _));exact BK283.out) hb);have n1_ := aK (blk_below (g := gb284) (o := .cells #[.int .i64 a1_0, .string a1_1, .bool a1_2, .string a1_3, .string a1_4, .string a1_5] 42 (0, 0)) (by (with_reducible repeat (first|refine blk_drewN ?_ _|refine blk_drew ?_|refine blk_alloc ?_ _));exact BK284.out) hb);have n2_ := aK (blk_below (g := gb285) (o := .cells #[.int .i64 0, .slice none 0 0, .slice none 0 0] 71 (0, 0)) (by (with_reducible repeat (first|refine blk_drewN ?_ _|refine blk_drew ?_|refine blk_alloc ?_ _));exact BK285.out) hb);have n3_ := aK (below_step (by repeat (first|(with_reducible first|apply bA|apply bN|apply bD|refine below_set ?_ GE283.out|refine below_set ?_ GE284.out|refine below_set ?_ GE285.out)|exact HB.out)) hb);clear BK283;clear BK284;clear BK285;clear HB;have BK283 := n0_;have BK284 := n1_;have BK285 := n2_;have HB := n3_;clear n0_ n1_ n2_ n3_;try clear hb))
          go_meet
          case rel => exact ⟨_, (t287 ++ (⟨#[10]⟩ : BA)), (by first|rfl|(simp;done)|(simp [*];done)), H', ⟨by have := HJ2.out;have := HJ16.out;have := HJ29.out;first|omega|exact Nat.le_refl _⟩, ⟨by (with_reducible repeat (first|refine blk_drewN ?_ _|refine blk_drew ?_|refine blk_alloc ?_ _));exact BK283.out⟩, ⟨by (with_reducible repeat (first|refine blk_drewN ?_ _|refine blk_drew ?_|refine blk_alloc ?_ _));exact BK284.out⟩, ⟨by (with_reducible repeat (first|refine blk_drewN ?_ _|refine blk_drew ?_|refine blk_alloc ?_ _));exact BK285.out⟩, ⟨by repeat (first|(with_reducible first|apply bA|apply bN|apply bD|refine below_set ?_ GE283.out|refine below_set ?_ GE284.out|refine below_set ?_ GE285.out)|exact HB.out)⟩⟩
         ·rw [if_neg c44] at H
          exact absurd H (by simp)
        ·rw [if_neg c42] at H
         have c42b0 : (x5_29.toList == ([] : List UInt8)) = false := beq_eq_false_iff_ne.mpr c42
         have c42b1 : (x5_29.toList != ([] : List UInt8)) = true := bne_iff_ne.mpr c42
         have c42b5 : x5_29.toList.isEmpty = false := Bool.eq_false_iff.2 (fun h_ => bne_iff_ne.1 c42b1 (List.isEmpty_iff.1 h_))
         have c42b6 : (!x5_29.toList.isEmpty) = true := by rw [c42b5];rfl
         (first|rw [c42b6]|rw [c42b5]|rw [c42b0]|(simp only [i64_w, i32_w];rw [c42b0])|skip)
         have H' := aK H
         clear H
         go_wp2
         go_meet
         case rel => exact ⟨_, (x5_29), (by first|rfl|(simp;done)|(simp [*];done)), H', ⟨by have := HJ2.out;have := HJ16.out;have := HJ29.out;first|omega|exact Nat.le_refl _⟩, ⟨by (with_reducible repeat (first|refine blk_drewN ?_ _|refine blk_drew ?_|refine blk_alloc ?_ _));exact BK283.out⟩, ⟨by (with_reducible repeat (first|refine blk_drewN ?_ _|refine blk_drew ?_|refine blk_alloc ?_ _));exact BK284.out⟩, ⟨by (with_reducible repeat (first|refine blk_drewN ?_ _|refine blk_drew ?_|refine blk_alloc ?_ _));exact BK285.out⟩, ⟨by repeat (first|(with_reducible first|apply bA|apply bN|apply bD|refine below_set ?_ GE283.out|refine below_set ?_ GE284.out|refine below_set ?_ GE285.out)|exact HB.out)⟩⟩
       case rest =>
        clear HC41
        try clear c1
        try clear c2
        try clear p2
        try clear c3
        try clear c4
        try clear c7
        try clear c8
        try clear c9
        try clear c10
        try clear c10b0
        try clear c10b1
        try clear c11
        try clear c11b0
        try clear c11b1
        try clear c11b2
        try clear c12
        try clear c12b0
        try clear c12b1
        try clear c12b2
        try clear c13
        try clear c13b0
        try clear c13b1
        try clear c13b2
        try clear c14
        try clear c15
        try clear c18
        try clear c19
        try clear c21
        try clear c21b0
        try clear c21b1
        try clear c22
        try clear c22b0
        try clear c22b1
        try clear c22b2
        try clear c24
        try clear c24b0
        try clear c24b1
        try clear c24b2
        try clear c25
        try clear c25b0
        try clear c25b1
        try clear c25b2
        try clear c26
        try clear c27
        try clear c31
        try clear c32
        try clear c34
        try clear c34b0
        try clear c34b1
        try clear c35
        try clear c35b0
        try clear c35b1
        try clear c35b2
        try clear c36
        try clear c36b0
        try clear c36b1
        try clear c36b2
        try clear c37
        try clear c37b0
        try clear c37b1
        try clear c37b2
        try clear c38
        try clear c39
        try clear c42
        try clear c42b0
        try clear c42b1
        try clear c44
        try clear c44b0
        try clear c44b1
        try clear c44b2
        try clear c45
        try clear c46
        try clear c47
        try clear hcz16_0
        try clear hcz16_1
        try clear hcz16_2
        try clear hcz16_3
        try clear hcz16_4
        try clear hcz16_5
        try clear hcz20_0
        try clear hcz20_1
        try clear hcz20_2
        try clear hcz20_3
        try clear hcz20_4
        try clear hcz20_5
        try clear hcz28_0
        try clear hcz28_1
        try clear hcz28_2
        try clear hcz28_3
        try clear hcz28_4
        try clear hcz28_5
        try clear hcz33_0
        try clear hcz33_1
        try clear hcz33_2
        try clear hcz33_3
        try clear hcz33_4
        try clear hcz33_5
        try clear hcz40_0
        try clear hcz40_1
        try clear hcz40_2
        try clear hcz40_3
        try clear hcz40_4
        try clear hcz40_5
        try clear hcz47_0
        try clear hcz47_1
        try clear hcz47_2
        try clear hcz47_3
        try clear hcz47_4
        try clear hcz47_5
        try clear hcz9_0
        try clear hcz9_1
        try clear hcz9_2
        try clear hcz9_3
        try clear hcz9_4
        try clear hcz9_5
        try clear hfz16_0
        try clear hfz16_1
        try clear hfz16_2
        try clear hfz16_3
        try clear hfz16_4
        try clear hfz16_5
        try clear hfz20_0
        try clear hfz20_1
        try clear hfz20_2
        try clear hfz20_3
        try clear hfz20_4
        try clear hfz20_5
        try clear hfz28_0
        try clear hfz28_1
        try clear hfz28_2
        try clear hfz28_3
        try clear hfz28_4
        try clear hfz28_5
        try clear hfz33_0
        try clear hfz33_1
        try clear hfz33_2
        try clear hfz33_3
        try clear hfz33_4
        try clear hfz33_5
        try clear hfz40_0
        try clear hfz40_1
        try clear hfz40_2
        try clear hfz40_3
        try clear hfz40_4
        try clear hfz40_5
        try clear hfz47_0
        try clear hfz47_1
        try clear hfz47_2
        try clear hfz47_3
        try clear hfz47_4
        try clear hfz47_5
        try clear hfz9_0
        try clear hfz9_1
        try clear hfz9_2
        try clear hfz9_3
        try clear hfz9_4
        try clear hfz9_5
        try clear p2
        obtain ⟨kq, x5_40, rfl, HA, HJ40, BK283, BK284, BK285, HB⟩ := hcut
        cases kq with
        | zero => exact absurd HA.out (by simp [wicketmanref19_Page.j3])
        | succ kj40 =>
         have H := HA.out
         clear HA
         simp only [wicketmanref19_Page.j3] at H
         by_cases c49 : a1_1.toList = ([] : List UInt8)
         ·rw [if_pos c49] at H
          have c49b0 : (a1_1.toList == ([] : List UInt8)) = true := beq_iff_eq.mpr c49
          have c49b1 : (a1_1.toList != ([] : List UInt8)) = false := bne_eq_false_iff_eq.mpr c49
          have c49b5 : a1_1.toList.isEmpty = true := List.isEmpty_iff.2 (beq_iff_eq.1 c49b0)
          have c49b6 : (!a1_1.toList.isEmpty) = false := by rw [c49b5];rfl
          clear c49
          by_cases c50 : a1_2 = true
          ·subst c50
           rw [if_pos rfl] at H
           replace H := Option.bind_eq_some_iff.mp H
           obtain ⟨⟨t288, t289⟩, A510, H⟩ := H
           try dsimp only at H
           have A51 := aK A510
           clear A510
           by_cases c52 : ([] : List (S76)).length < 4398046511104
           ·rw [if_pos c52] at H
            have LMc52 := aK c52
            clear c52
            obtain ⟨y290, hy290⟩ : ∃ y_ : List (S76), y_ = (([] : List (S76)) ++ [(⟨(⟨#[83, 101, 116, 45, 67, 111, 111, 107, 105, 101]⟩ : BA), t288⟩ : S76)]) := ⟨_, rfl⟩
            replace H : ((wicketmanref10_Page.f a1_0 x5_40 y290).bind fun bt293 => (some (bt293.1, bt293.2.1, bt293.2.2))) = some (r1, r2, r3) := by first|(rw [hy290];with_reducible exact H)|(have H2_ := (Option.bind_some _ _).symm.trans H;rw [hy290];with_reducible exact H2_)|(have H2_ := (Option.bind_some _ _).symm.trans H;with_reducible exact H2_)|with_reducible exact H|(rw [hy290];exact H)|exact H
            have Ny290 := aK hy290
            clear hy290
            replace H := Option.bind_eq_some_iff.mp H
            obtain ⟨⟨t293, t294, t297⟩, A530, H⟩ := H
            try dsimp only at H
            have A53 := aK A530
            clear A530
            simp only [Option.some.injEq, Prod.mk.injEq] at H
            obtain ⟨rfl, rfl, rfl⟩ := H
            have hnb54 := NB284_283.out
            have hnc54 := NB283_284.out
            have hnb55 := NB284_285.out
            have hnc55 := NB285_284.out
            have hcz56_0 : wc.cell? ⟨gb284, 0, none⟩ = some (.int .i64 a1_0) := (blk_cell BK284.out 0).trans rfl
            have hcz56_1 : wc.cell? ⟨gb284, 1, none⟩ = some (.string a1_1) := (blk_cell BK284.out 1).trans rfl
            have hcz56_2 : wc.cell? ⟨gb284, 2, none⟩ = some (.bool true) := (blk_cell BK284.out 2).trans rfl
            have hcz56_3 : wc.cell? ⟨gb284, 3, none⟩ = some (.string a1_3) := (blk_cell BK284.out 3).trans rfl
            have hcz56_4 : wc.cell? ⟨gb284, 4, none⟩ = some (.string a1_4) := (blk_cell BK284.out 4).trans rfl
            have hcz56_5 : wc.cell? ⟨gb284, 5, none⟩ = some (.string a1_5) := (blk_cell BK284.out 5).trans rfl
            have hfz56_0 := blk_frozen BK284.out 0
            have hfz56_1 := blk_frozen BK284.out 1
            have hfz56_2 := blk_frozen BK284.out 2
            have hfz56_3 := blk_frozen BK284.out 3
            have hfz56_4 := blk_frozen BK284.out 4
            have hfz56_5 := blk_frozen BK284.out 5
            go_wp2_with (first|((with_reducible refine gate_callee (f := 64) rfl ?_);refine goesL_ (some 67) rfl rfl Tryz.func64 (by kernel_rfl) rfl #[.agg #[.string (⟨#[95, 95, 72, 111, 115, 116, 45, 105, 100]⟩ : BA), .string (⟨#[]⟩ : BA)], .int .i64 0] rfl (by (try simp only [List.map_toArray, List.map_cons, List.map_nil]);first|done|rfl|(simp only [List.length_drop, List.length_take];rfl)) ?_;(with_reducible refine (wicketmanref11_Set.calls kj40 (⟨#[95, 95, 72, 111, 115, 116, 45, 105, 100]⟩ : BA) (⟨#[]⟩ : BA) 0 t288 t289 _ (by first|exact hT|(refine Tb.of_below hT ?_;repeat (first|(with_reducible first|apply bA|apply bN|apply bD)|exact HB.out|refine Below.setCell ?_ (Aside0.out (by assumption)) _))|(refine Tb.of_below hT ?_;assumption)) A51.out).mono ?_);rintro e w57 ⟨rfl, hb⟩;refine ⟨_, rfl, ?_⟩;have n0_ := aK (blk_below (g := gb283) (o := .cells #[.int .u64 a0_0, .int .u64 a0_1, .int .u64 a0_2, .int .i64 a0_3, .slice A0_4 l0_4.length c0_4] 40 (0, 0)) (by (with_reducible repeat (first|refine blk_drewN ?_ _|refine blk_drew ?_|refine blk_alloc ?_ _));exact BK283.out) hb);have n1_ := aK (blk_below (g := gb284) (o := .cells #[.int .i64 a1_0, .string a1_1, .bool true, .string a1_3, .string a1_4, .string a1_5] 42 (0, 0)) (by (with_reducible repeat (first|refine blk_drewN ?_ _|refine blk_drew ?_|refine blk_alloc ?_ _));exact BK284.out) hb);have n2_ := aK (blk_below (g := gb285) (o := .cells #[.int .i64 0, .slice none 0 0, .slice none 0 0] 71 (0, 0)) (by (with_reducible repeat (first|refine blk_drewN ?_ _|refine blk_drew ?_|refine blk_alloc ?_ _));exact BK285.out) hb);have n3_ := aK (below_step (by repeat (first|(with_reducible first|apply bA|apply bN|apply bD|refine below_set ?_ GE283.out|refine below_set ?_ GE284.out|refine below_set ?_ GE285.out)|exact HB.out)) hb);clear BK283;clear BK284;clear BK285;clear HB;have BK283 := n0_;have BK284 := n1_;have BK285 := n2_;have HB := n3_;clear n0_ n1_ n2_ n3_;try clear hb)|((with_reducible refine gate_builtin (b := .append) (xs := #[.tmp 70, .tmp 73]) rfl ?_);at_builtin;refine Kd.R_append k76 (w0 := w) w.heap.size rfl (.tmp 70) (.tmp 73) 22 76 (.agg #[(.string ⟨#[]⟩), (.string ⟨#[]⟩)]) 32 rfl Tryz.underlying22 info76 rfl (by decide) (by omega) (.slice none 0 0) ([] : List (S76)) (⟨(⟨#[83, 101, 116, 45, 67, 111, 111, 107, 105, 101]⟩ : BA), t288⟩ : S76) [.string (⟨#[83, 101, 116, 45, 67, 111, 111, 107, 105, 101]⟩ : BA), .string t288] (fun k_ => (w.heap.size ≤ k_)) (fun _ => False) rfl rfl ?aP (fun _ hk => hk.elim) ?aF ?aO ?aB ?aS ?aL ?_;(case aP => exact k76_mkM _ _ _ (⟨(⟨#[83, 101, 116, 45, 67, 111, 111, 107, 105, 101]⟩ : BA), t288⟩ : S76));(case aB => exact (by repeat (first|(with_reducible first|apply bA|apply bN|apply bD|refine below_set ?_ GE283.out|refine below_set ?_ GE284.out|refine below_set ?_ GE285.out)|exact HB.out)));(case aF => exact (fun k_ hk => (Nat.le_trans (below_size (by repeat (first|(with_reducible first|apply bA|apply bN|apply bD|refine below_set ?_ GE283.out|refine below_set ?_ GE284.out|refine below_set ?_ GE285.out)|exact HB.out))) hk)));(case aO => exact ((Kd.R_nil _ _ _ _ (fun k_ => (w.heap.size ≤ k_)))));(case aS => exact (below_size (by repeat (first|(with_reducible first|apply bA|apply bN|apply bD|refine below_set ?_ GE283.out|refine below_set ?_ GE284.out|refine below_set ?_ GE285.out)|exact HB.out))));(case aL => have := LMc52.out;omega);intro v291 w58 ho hb hg hat;rw [← Ny290.out] at ho;have n0_ := aK (blk_grown (g := gb283) (o := .cells #[.int .u64 a0_0, .int .u64 a0_1, .int .u64 a0_2, .int .i64 a0_3, .slice A0_4 l0_4.length c0_4] 40 (0, 0)) (by (with_reducible repeat (first|refine blk_drewN ?_ _|refine blk_drew ?_|refine blk_alloc ?_ _));exact BK283.out) hg (by simp [Value.ownBlock]));have n1_ := aK (blk_grown (g := gb284) (o := .cells #[.int .i64 a1_0, .string a1_1, .bool true, .string a1_3, .string a1_4, .string a1_5] 42 (0, 0)) (by (with_reducible repeat (first|refine blk_drewN ?_ _|refine blk_drew ?_|refine blk_alloc ?_ _));exact BK284.out) hg (by simp [Value.ownBlock]));have n2_ := aK (blk_grown (g := gb285) (o := .cells #[.int .i64 0, .slice none 0 0, .slice none 0 0] 71 (0, 0)) (by (with_reducible repeat (first|refine blk_drewN ?_ _|refine blk_drew ?_|refine blk_alloc ?_ _));exact BK285.out) hg (by simp [Value.ownBlock]));have n3_ := aK (hb);have n4_ := aK (ho);clear BK283;clear BK284;clear BK285;clear HB;have BK283 := n0_;have BK284 := n1_;have BK285 := n2_;have HB := n3_;have HO292 := n4_;clear n0_ n1_ n2_ n3_ n4_;clear ho hb hg hat;have hcz59_0 : w58.cell? ⟨gb284, 0, none⟩ = some (.int .i64 a1_0) := (blk_cell BK284.out 0).trans rfl;have hcz59_1 : w58.cell? ⟨gb284, 1, none⟩ = some (.string a1_1) := (blk_cell BK284.out 1).trans rfl;have hcz59_2 : w58.cell? ⟨gb284, 2, none⟩ = some (.bool true) := (blk_cell BK284.out 2).trans rfl;have hcz59_3 : w58.cell? ⟨gb284, 3, none⟩ = some (.string a1_3) := (blk_cell BK284.out 3).trans rfl;have hcz59_4 : w58.cell? ⟨gb284, 4, none⟩ = some (.string a1_4) := (blk_cell BK284.out 4).trans rfl;have hcz59_5 : w58.cell? ⟨gb284, 5, none⟩ = some (.string a1_5) := (blk_cell BK284.out 5).trans rfl;have hfz59_0 := blk_frozen BK284.out 0;have hfz59_1 := blk_frozen BK284.out 1;have hfz59_2 := blk_frozen BK284.out 2;have hfz59_3 := blk_frozen BK284.out 3;have hfz59_4 := blk_frozen BK284.out 4;have hfz59_5 := blk_frozen BK284.out 5;obtain ⟨Ao60, co60, eo60⟩ := Kd.R_slice HO292.out;subst eo60)|((with_reducible refine gate_callee (f := 92) rfl ?_);refine goesL_ (some 79) rfl rfl Tryz.func92 (by kernel_rfl) rfl #[.int .i64 a1_0, .string x5_40, .slice Ao60 y290.length co60] rfl (by (try simp only [List.map_toArray, List.map_cons, List.map_nil]);first|done|rfl|(simp only [List.length_drop, List.length_take];rfl)) ?_;(with_reducible refine (wicketmanref10_Page.calls a1_0 x5_40 _ _ y290 t293 t294 t297 _ ?side1 ?side2 A53.out).mono ?_);(case side1 => repeat (first|exact (Kd.R_reads' HO292.out).2.2|(with_reducible refine Kd.C_alloc ?_ _)|(with_reducible refine Kd.C_drewN ?_ _)|(with_reducible refine Kd.C_drew ?_)));(case side2 => exact (Kd.R_reads' HO292.out).2.1);rintro e w61 ⟨v295, v298, rfl, ho0, ho1, hb⟩;refine ⟨_, rfl, ?_⟩;have n0_ := aK (Kd.R_elder' (by (with_reducible repeat (first|apply Kd.R_alloc|apply Kd.R_drewN|apply Kd.R_drew));exact HO292.out) (Kd.R_base ho0) hb);have n1_ := aK (Kd.R_lower (Kd.R_new' (Kd.R_newM (M := fun k_ => (w.heap.size ≤ k_)) (Kd.R_mono (ok' := fun k_ => True) ho0 (fun _ hk_ => trivial)) (below_size (by repeat (first|(with_reducible first|apply bA|apply bN|apply bD|refine below_set ?_ GE283.out|refine below_set ?_ GE284.out|refine below_set ?_ GE285.out)|exact HB.out))) (fun k_ h_ => h_)) (Kd.R_lt (by (with_reducible repeat (first|apply Kd.R_alloc|apply Kd.R_drewN|apply Kd.R_drew));exact HO292.out))) (below_size (by repeat (first|(with_reducible first|apply bA|apply bN|apply bD|refine below_set ?_ GE283.out|refine below_set ?_ GE284.out|refine below_set ?_ GE285.out)|exact HB.out))));have n2_ := aK (Kd.V_lower (Kd.V_mono (ok' := fun k_ => (w.heap.size ≤ k_) ∧ some k_ ≠ (v295 : Value).ownBlock ∧ some k_ ≠ (.slice Ao60 y290.length co60 : Value).ownBlock ∧ k_ ≠ gb283 ∧ k_ ≠ gb284 ∧ k_ ≠ gb285) ho1 (fun k_ hk_ => ⟨(Nat.le_trans (below_size (by repeat (first|(with_reducible first|apply bA|apply bN|apply bD|refine below_set ?_ GE283.out|refine below_set ?_ GE284.out|refine below_set ?_ GE285.out)|exact HB.out))) hk_.1), hk_.2, (Kd.fresh' (Kd.R_lt (by (with_reducible repeat (first|apply Kd.R_alloc|apply Kd.R_drewN|apply Kd.R_drew));exact HO292.out)) k_ hk_.1), (Kd.freshB (g := gb283) (o := .cells #[.int .u64 a0_0, .int .u64 a0_1, .int .u64 a0_2, .int .i64 a0_3, .slice A0_4 l0_4.length c0_4] 40 (0, 0)) (by (with_reducible repeat (first|refine blk_drewN ?_ _|refine blk_drew ?_|refine blk_alloc ?_ _));exact BK283.out) k_ hk_.1), (Kd.freshB (g := gb284) (o := .cells #[.int .i64 a1_0, .string a1_1, .bool true, .string a1_3, .string a1_4, .string a1_5] 42 (0, 0)) (by (with_reducible repeat (first|refine blk_drewN ?_ _|refine blk_drew ?_|refine blk_alloc ?_ _));exact BK284.out) k_ hk_.1), (Kd.freshB (g := gb285) (o := .cells #[.int .i64 0, .slice none 0 0, .slice none 0 0] 71 (0, 0)) (by (with_reducible repeat (first|refine blk_drewN ?_ _|refine blk_drew ?_|refine blk_alloc ?_ _));exact BK285.out) k_ hk_.1)⟩)) (below_size (by repeat (first|(with_reducible first|apply bA|apply bN|apply bD|refine below_set ?_ GE283.out|refine below_set ?_ GE284.out|refine below_set ?_ GE285.out)|exact HB.out))));have n3_ := aK (blk_below (g := gb283) (o := .cells #[.int .u64 a0_0, .int .u64 a0_1, .int .u64 a0_2, .int .i64 a0_3, .slice A0_4 l0_4.length c0_4] 40 (0, 0)) (by (with_reducible repeat (first|refine blk_drewN ?_ _|refine blk_drew ?_|refine blk_alloc ?_ _));exact BK283.out) hb);have n4_ := aK (blk_below (g := gb284) (o := .cells #[.int .i64 a1_0, .string a1_1, .bool true, .string a1_3, .string a1_4, .string a1_5] 42 (0, 0)) (by (with_reducible repeat (first|refine blk_drewN ?_ _|refine blk_drew ?_|refine blk_alloc ?_ _));exact BK284.out) hb);have n5_ := aK (blk_below (g := gb285) (o := .cells #[.int .i64 0, .slice none 0 0, .slice none 0 0] 71 (0, 0)) (by (with_reducible repeat (first|refine blk_drewN ?_ _|refine blk_drew ?_|refine blk_alloc ?_ _));exact BK285.out) hb);have n6_ := aK (below_step (by repeat (first|(with_reducible first|apply bA|apply bN|apply bD|refine below_set ?_ GE283.out|refine below_set ?_ GE284.out|refine below_set ?_ GE285.out)|exact HB.out)) hb);clear HO292;clear BK283;clear BK284;clear BK285;clear HB;have HO292 := n0_;have HO296 := n1_;have HO299 := n2_;have BK283 := n3_;have BK284 := n4_;have BK285 := n5_;have HB := n6_;clear n0_ n1_ n2_ n3_ n4_ n5_ n6_;try clear hb;(try clear ho0);(try clear ho1);have hnb62 := NB285_283.out;have hnc62 := NB283_285.out;have hcz63_0 : w61.cell? ⟨gb285, 0, none⟩ = some (.int .i64 0) := (blk_cell BK285.out 0).trans rfl;have hcz63_1 : w61.cell? ⟨gb285, 1, none⟩ = some (.slice none 0 0) := (blk_cell BK285.out 1).trans rfl;have hcz63_2 : w61.cell? ⟨gb285, 2, none⟩ = some (.slice none 0 0) := (blk_cell BK285.out 2).trans rfl;have hfz63_0 := blk_frozen BK285.out 0;have hfz63_1 := blk_frozen BK285.out 1;have hfz63_2 := blk_frozen BK285.out 2;obtain ⟨Ao64, co64, eo64⟩ := Kd.R_slice HO296.out;subst eo64;obtain ⟨Ao65, co65, eo65⟩ := Kd.V_slice HO299.out;subst eo65))
            refine bodyPost_ret (results_cell_row rfl _ _ gb285 71 #[.int .i64 t293, .slice Ao64 t294.length co64, .slice Ao65 t297.length co65] (0, 0) _ rfl (by (with_reducible repeat (first|refine blk_drewN ?_ _|refine blk_drew ?_|refine blk_alloc ?_ _));refine blk_put (cs := #[.int .i64 t293, .slice Ao64 t294.length co64, .slice none 0 0]) ?_ 2 _ rfl;(with_reducible repeat (first|refine blk_drewN ?_ _|refine blk_drew ?_|refine blk_alloc ?_ _));refine blk_put (cs := #[.int .i64 t293, .slice none 0 0, .slice none 0 0]) ?_ 1 _ rfl;(with_reducible repeat (first|refine blk_drewN ?_ _|refine blk_drew ?_|refine blk_alloc ?_ _));refine blk_put (cs := #[.int .i64 0, .slice none 0 0, .slice none 0 0]) ?_ 0 _ rfl;(with_reducible repeat (first|refine blk_drewN ?_ _|refine blk_drew ?_|refine blk_alloc ?_ _));exact BK285.out) Tryz.underlying71 rfl (by kernel_rfl)) rfl ?_
            exact ⟨_, _, by first|rfl|(simp [errW_none, errW_some] <;> rfl)|(simp [*, errW_none, errW_some] <;> rfl), by (with_reducible repeat (first|apply Kd.R_alloc|apply Kd.R_drewN|apply Kd.R_drew));exact Kd.R_mono (Kd.R_far (p := ⟨gb285, 2, none⟩) (Kd.R_far (p := ⟨gb285, 1, none⟩) (Kd.R_far (p := ⟨gb285, 0, none⟩) (Kd.R_types HO296.out BK285.out (by decide)) (fun _ hk => hk.2) (.int .i64 t293)) (fun _ hk => hk.2) (.slice Ao64 t294.length co64)) (fun _ hk => hk.2) (.slice Ao65 t297.length co65)) (fun _ hk => hk.1.1.1), by (with_reducible repeat (first|apply Kd.V_alloc|apply Kd.V_drewN|apply Kd.V_drew));exact Kd.V_mono (Kd.V_far (p := ⟨gb285, 2, none⟩) (Kd.V_far (p := ⟨gb285, 1, none⟩) (Kd.V_far (p := ⟨gb285, 0, none⟩) (Kd.V_mono HO299.out (fun k_ hk => (⟨hk, hk.2.2.2.2.2⟩ : _ ∧ k_ ≠ gb285))) (fun _ hk => hk.2) (.int .i64 t293)) (fun _ hk => hk.2) (.slice Ao64 t294.length co64)) (fun _ hk => hk.2) (.slice Ao65 t297.length co65)) (fun _ hk => ⟨hk.1.1, hk.1.2.1⟩), by repeat (first|(with_reducible first|apply bA|apply bN|apply bD|refine below_set ?_ GE283.out|refine below_set ?_ GE284.out|refine below_set ?_ GE285.out)|exact HB.out)⟩
           ·rw [if_neg c52] at H
            exact absurd H (by simp)
          ·replace c50 := Bool.eq_false_iff.mpr c50
           subst c50
           rw [if_neg (show ¬ (false = true) by decide)] at H
           replace H := Option.bind_eq_some_iff.mp H
           obtain ⟨⟨t300, t301, t304⟩, A660, H⟩ := H
           try dsimp only at H
           have A66 := aK A660
           clear A660
           simp only [Option.some.injEq, Prod.mk.injEq] at H
           obtain ⟨rfl, rfl, rfl⟩ := H
           have hnb67 := NB284_283.out
           have hnc67 := NB283_284.out
           have hnb68 := NB284_285.out
           have hnc68 := NB285_284.out
           have hcz69_0 : wc.cell? ⟨gb284, 0, none⟩ = some (.int .i64 a1_0) := (blk_cell BK284.out 0).trans rfl
           have hcz69_1 : wc.cell? ⟨gb284, 1, none⟩ = some (.string a1_1) := (blk_cell BK284.out 1).trans rfl
           have hcz69_2 : wc.cell? ⟨gb284, 2, none⟩ = some (.bool false) := (blk_cell BK284.out 2).trans rfl
           have hcz69_3 : wc.cell? ⟨gb284, 3, none⟩ = some (.string a1_3) := (blk_cell BK284.out 3).trans rfl
           have hcz69_4 : wc.cell? ⟨gb284, 4, none⟩ = some (.string a1_4) := (blk_cell BK284.out 4).trans rfl
           have hcz69_5 : wc.cell? ⟨gb284, 5, none⟩ = some (.string a1_5) := (blk_cell BK284.out 5).trans rfl
           have hfz69_0 := blk_frozen BK284.out 0
           have hfz69_1 := blk_frozen BK284.out 1
           have hfz69_2 := blk_frozen BK284.out 2
           have hfz69_3 := blk_frozen BK284.out 3
           have hfz69_4 := blk_frozen BK284.out 4
           have hfz69_5 := blk_frozen BK284.out 5
           go_wp2_with (first|((with_reducible refine gate_callee (f := 92) rfl ?_);refine goesL_ (some 79) rfl rfl Tryz.func92 (by kernel_rfl) rfl #[.int .i64 a1_0, .string x5_40, .slice none 0 0] rfl (by (try simp only [List.map_toArray, List.map_cons, List.map_nil]);first|done|rfl|(simp only [List.length_drop, List.length_take];rfl)) ?_;(refine (wicketmanref10_Page.calls a1_0 x5_40 _ _ ([] : List (S76)) t300 t301 t304 _ ?side1 ?side2 A66.out).mono ?_);(case side1 => exact Kd.C_nil _ _);(case side2 => exact Nat.le_refl _);rintro e w70 ⟨v302, v305, rfl, ho0, ho1, hb⟩;refine ⟨_, rfl, ?_⟩;have n0_ := aK (Kd.R_lower (Kd.R_newM (M := fun k_ => (w.heap.size ≤ k_)) (Kd.R_mono (ok' := fun k_ => True) ho0 (fun _ hk_ => trivial)) (below_size (by repeat (first|(with_reducible first|apply bA|apply bN|apply bD|refine below_set ?_ GE283.out|refine below_set ?_ GE284.out|refine below_set ?_ GE285.out)|exact HB.out))) (fun k_ h_ => h_)) (below_size (by repeat (first|(with_reducible first|apply bA|apply bN|apply bD|refine below_set ?_ GE283.out|refine below_set ?_ GE284.out|refine below_set ?_ GE285.out)|exact HB.out))));have n1_ := aK (Kd.V_lower (Kd.V_mono (ok' := fun k_ => (w.heap.size ≤ k_) ∧ some k_ ≠ (v302 : Value).ownBlock ∧ k_ ≠ gb283 ∧ k_ ≠ gb284 ∧ k_ ≠ gb285) ho1 (fun k_ hk_ => ⟨(Nat.le_trans (below_size (by repeat (first|(with_reducible first|apply bA|apply bN|apply bD|refine below_set ?_ GE283.out|refine below_set ?_ GE284.out|refine below_set ?_ GE285.out)|exact HB.out))) hk_.1), hk_.2, (Kd.freshB (g := gb283) (o := .cells #[.int .u64 a0_0, .int .u64 a0_1, .int .u64 a0_2, .int .i64 a0_3, .slice A0_4 l0_4.length c0_4] 40 (0, 0)) (by (with_reducible repeat (first|refine blk_drewN ?_ _|refine blk_drew ?_|refine blk_alloc ?_ _));exact BK283.out) k_ hk_.1), (Kd.freshB (g := gb284) (o := .cells #[.int .i64 a1_0, .string a1_1, .bool false, .string a1_3, .string a1_4, .string a1_5] 42 (0, 0)) (by (with_reducible repeat (first|refine blk_drewN ?_ _|refine blk_drew ?_|refine blk_alloc ?_ _));exact BK284.out) k_ hk_.1), (Kd.freshB (g := gb285) (o := .cells #[.int .i64 0, .slice none 0 0, .slice none 0 0] 71 (0, 0)) (by (with_reducible repeat (first|refine blk_drewN ?_ _|refine blk_drew ?_|refine blk_alloc ?_ _));exact BK285.out) k_ hk_.1)⟩)) (below_size (by repeat (first|(with_reducible first|apply bA|apply bN|apply bD|refine below_set ?_ GE283.out|refine below_set ?_ GE284.out|refine below_set ?_ GE285.out)|exact HB.out))));have n2_ := aK (blk_below (g := gb283) (o := .cells #[.int .u64 a0_0, .int .u64 a0_1, .int .u64 a0_2, .int .i64 a0_3, .slice A0_4 l0_4.length c0_4] 40 (0, 0)) (by (with_reducible repeat (first|refine blk_drewN ?_ _|refine blk_drew ?_|refine blk_alloc ?_ _));exact BK283.out) hb);have n3_ := aK (blk_below (g := gb284) (o := .cells #[.int .i64 a1_0, .string a1_1, .bool false, .string a1_3, .string a1_4, .string a1_5] 42 (0, 0)) (by (with_reducible repeat (first|refine blk_drewN ?_ _|refine blk_drew ?_|refine blk_alloc ?_ _));exact BK284.out) hb);have n4_ := aK (blk_below (g := gb285) (o := .cells #[.int .i64 0, .slice none 0 0, .slice none 0 0] 71 (0, 0)) (by (with_reducible repeat (first|refine blk_drewN ?_ _|refine blk_drew ?_|refine blk_alloc ?_ _));exact BK285.out) hb);have n5_ := aK (below_step (by repeat (first|(with_reducible first|apply bA|apply bN|apply bD|refine below_set ?_ GE283.out|refine below_set ?_ GE284.out|refine below_set ?_ GE285.out)|exact HB.out)) hb);clear BK283;clear BK284;clear BK285;clear HB;have HO303 := n0_;have HO306 := n1_;have BK283 := n2_;have BK284 := n3_;have BK285 := n4_;have HB := n5_;clear n0_ n1_ n2_ n3_ n4_ n5_;try clear hb;(try clear ho0);(try clear ho1);have hnb71 := NB285_283.out;have hnc71 := NB283_285.out;have hcz72_0 : w70.cell? ⟨gb285, 0, none⟩ = some (.int .i64 0) := (blk_cell BK285.out 0).trans rfl;have hcz72_1 : w70.cell? ⟨gb285, 1, none⟩ = some (.slice none 0 0) := (blk_cell BK285.out 1).trans rfl;have hcz72_2 : w70.cell? ⟨gb285, 2, none⟩ = some (.slice none 0 0) := (blk_cell BK285.out 2).trans rfl;have hfz72_0 := blk_frozen BK285.out 0;have hfz72_1 := blk_frozen BK285.out 1;have hfz72_2 := blk_frozen BK285.out 2;obtain ⟨Ao73, co73, eo73⟩ := Kd.R_slice HO303.out;subst eo73;obtain ⟨Ao74, co74, eo74⟩ := Kd.V_slice HO306.out;subst eo74))
           refine bodyPost_ret (results_cell_row rfl _ _ gb285 71 #[.int .i64 t300, .slice Ao73 t301.length co73, .slice Ao74 t304.length co74] (0, 0) _ rfl (by (with_reducible repeat (first|refine blk_drewN ?_ _|refine blk_drew ?_|refine blk_alloc ?_ _));refine blk_put (cs := #[.int .i64 t300, .slice Ao73 t301.length co73, .slice none 0 0]) ?_ 2 _ rfl;(with_reducible repeat (first|refine blk_drewN ?_ _|refine blk_drew ?_|refine blk_alloc ?_ _));refine blk_put (cs := #[.int .i64 t300, .slice none 0 0, .slice none 0 0]) ?_ 1 _ rfl;(with_reducible repeat (first|refine blk_drewN ?_ _|refine blk_drew ?_|refine blk_alloc ?_ _));refine blk_put (cs := #[.int .i64 0, .slice none 0 0, .slice none 0 0]) ?_ 0 _ rfl;(with_reducible repeat (first|refine blk_drewN ?_ _|refine blk_drew ?_|refine blk_alloc ?_ _));exact BK285.out) Tryz.underlying71 rfl (by kernel_rfl)) rfl ?_
           exact ⟨_, _, by first|rfl|(simp [errW_none, errW_some] <;> rfl)|(simp [*, errW_none, errW_some] <;> rfl), by (with_reducible repeat (first|apply Kd.R_alloc|apply Kd.R_drewN|apply Kd.R_drew));exact Kd.R_mono (Kd.R_far (p := ⟨gb285, 2, none⟩) (Kd.R_far (p := ⟨gb285, 1, none⟩) (Kd.R_far (p := ⟨gb285, 0, none⟩) (Kd.R_types HO303.out BK285.out (by decide)) (fun _ hk => hk.2) (.int .i64 t300)) (fun _ hk => hk.2) (.slice Ao73 t301.length co73)) (fun _ hk => hk.2) (.slice Ao74 t304.length co74)) (fun _ hk => hk.1.1), by (with_reducible repeat (first|apply Kd.V_alloc|apply Kd.V_drewN|apply Kd.V_drew));exact Kd.V_mono (Kd.V_far (p := ⟨gb285, 2, none⟩) (Kd.V_far (p := ⟨gb285, 1, none⟩) (Kd.V_far (p := ⟨gb285, 0, none⟩) (Kd.V_mono HO306.out (fun k_ hk => (⟨hk, hk.2.2.2.2⟩ : _ ∧ k_ ≠ gb285))) (fun _ hk => hk.2) (.int .i64 t300)) (fun _ hk => hk.2) (.slice Ao73 t301.length co73)) (fun _ hk => hk.2) (.slice Ao74 t304.length co74)) (fun _ hk => ⟨hk.1.1, hk.1.2.1⟩), by repeat (first|(with_reducible first|apply bA|apply bN|apply bD|refine below_set ?_ GE283.out|refine below_set ?_ GE284.out|refine below_set ?_ GE285.out)|exact HB.out)⟩
         ·rw [if_neg c49] at H
          have c49b0 : (a1_1.toList == ([] : List UInt8)) = false := beq_eq_false_iff_ne.mpr c49
          have c49b1 : (a1_1.toList != ([] : List UInt8)) = true := bne_iff_ne.mpr c49
          have c49b5 : a1_1.toList.isEmpty = false := Bool.eq_false_iff.2 (fun h_ => bne_iff_ne.1 c49b1 (List.isEmpty_iff.1 h_))
          have c49b6 : (!a1_1.toList.isEmpty) = true := by rw [c49b5];rfl
          replace H := Option.bind_eq_some_iff.mp H
          obtain ⟨⟨t307, t308⟩, A750, H⟩ := H
          try dsimp only at H
          have A75 := aK A750
          clear A750
          by_cases c76 : ([] : List (S76)).length < 4398046511104
          ·rw [if_pos c76] at H
           have LMc76 := aK c76
           clear c76
           obtain ⟨y309, hy309⟩ : ∃ y_ : List (S76), y_ = (([] : List (S76)) ++ [(⟨(⟨#[83, 101, 116, 45, 67, 111, 111, 107, 105, 101]⟩ : BA), t307⟩ : S76)]) := ⟨_, rfl⟩
           replace H : ((wicketmanref10_Page.f a1_0 x5_40 y309).bind fun bt312 => (some (bt312.1, bt312.2.1, bt312.2.2))) = some (r1, r2, r3) := by first|(rw [hy309];with_reducible exact H)|(have H2_ := (Option.bind_some _ _).symm.trans H;rw [hy309];with_reducible exact H2_)|(have H2_ := (Option.bind_some _ _).symm.trans H;with_reducible exact H2_)|with_reducible exact H|(rw [hy309];exact H)|exact H
           have Ny309 := aK hy309
           clear hy309
           replace H := Option.bind_eq_some_iff.mp H
           obtain ⟨⟨t312, t313, t316⟩, A770, H⟩ := H
           try dsimp only at H
           have A77 := aK A770
           clear A770
           simp only [Option.some.injEq, Prod.mk.injEq] at H
           obtain ⟨rfl, rfl, rfl⟩ := H
           have hnb78 := NB284_283.out
           have hnc78 := NB283_284.out
           have hnb79 := NB284_285.out
           have hnc79 := NB285_284.out
           have hcz80_0 : wc.cell? ⟨gb284, 0, none⟩ = some (.int .i64 a1_0) := (blk_cell BK284.out 0).trans rfl
           have hcz80_1 : wc.cell? ⟨gb284, 1, none⟩ = some (.string a1_1) := (blk_cell BK284.out 1).trans rfl
           have hcz80_2 : wc.cell? ⟨gb284, 2, none⟩ = some (.bool a1_2) := (blk_cell BK284.out 2).trans rfl
           have hcz80_3 : wc.cell? ⟨gb284, 3, none⟩ = some (.string a1_3) := (blk_cell BK284.out 3).trans rfl
           have hcz80_4 : wc.cell? ⟨gb284, 4, none⟩ = some (.string a1_4) := (blk_cell BK284.out 4).trans rfl
           have hcz80_5 : wc.cell? ⟨gb284, 5, none⟩ = some (.string a1_5) := (blk_cell BK284.out 5).trans rfl
           have hfz80_0 := blk_frozen BK284.out 0
           have hfz80_1 := blk_frozen BK284.out 1
           have hfz80_2 := blk_frozen BK284.out 2
           have hfz80_3 := blk_frozen BK284.out 3
           have hfz80_4 := blk_frozen BK284.out 4
           have hfz80_5 := blk_frozen BK284.out 5
           have hnb81 := NB283_285.out
           have hnc81 := NB285_283.out
           have hcz82_0 : wc.cell? ⟨gb283, 0, none⟩ = some (.int .u64 a0_0) := (blk_cell BK283.out 0).trans rfl
           have hcz82_1 : wc.cell? ⟨gb283, 1, none⟩ = some (.int .u64 a0_1) := (blk_cell BK283.out 1).trans rfl
           have hcz82_2 : wc.cell? ⟨gb283, 2, none⟩ = some (.int .u64 a0_2) := (blk_cell BK283.out 2).trans rfl
           have hcz82_3 : wc.cell? ⟨gb283, 3, none⟩ = some (.int .i64 a0_3) := (blk_cell BK283.out 3).trans rfl
           have hcz82_4 : wc.cell? ⟨gb283, 4, none⟩ = some (.slice A0_4 l0_4.length c0_4) := (blk_cell BK283.out 4).trans rfl
           have hfz82_0 := blk_frozen BK283.out 0
           have hfz82_1 := blk_frozen BK283.out 1
           have hfz82_2 := blk_frozen BK283.out 2
           have hfz82_3 := blk_frozen BK283.out 3
           have hfz82_4 := blk_frozen BK283.out 4
           go_wp2_with (first|((with_reducible refine gate_callee (f := 64) rfl ?_);refine goesL_ (some 55) rfl rfl Tryz.func64 (by kernel_rfl) rfl #[.agg #[.string (⟨#[95, 95, 72, 111, 115, 116, 45, 105, 100]⟩ : BA), .string a1_1], .int .i64 (wrap64 (a0_1))] rfl (by (try simp only [List.map_toArray, List.map_cons, List.map_nil]);first|done|rfl|(simp only [List.length_drop, List.length_take];rfl)) ?_;(with_reducible refine (wicketmanref11_Set.calls kj40 (⟨#[95, 95, 72, 111, 115, 116, 45, 105, 100]⟩ : BA) a1_1 (wrap64 (a0_1)) t307 t308 _ (by first|exact hT|(refine Tb.of_below hT ?_;repeat (first|(with_reducible first|apply bA|apply bN|apply bD)|exact HB.out|refine Below.setCell ?_ (Aside0.out (by assumption)) _))|(refine Tb.of_below hT ?_;assumption)) A75.out).mono ?_);rintro e w83 ⟨rfl, hb⟩;refine ⟨_, rfl, ?_⟩;have n0_ := aK (blk_below (g := gb283) (o := .cells #[.int .u64 a0_0, .int .u64 a0_1, .int .u64 a0_2, .int .i64 a0_3, .slice A0_4 l0_4.length c0_4] 40 (0, 0)) (by (with_reducible repeat (first|refine blk_drewN ?_ _|refine blk_drew ?_|refine blk_alloc ?_ _));exact BK283.out) hb);have n1_ := aK (blk_below (g := gb284) (o := .cells #[.int .i64 a1_0, .string a1_1, .bool a1_2, .string a1_3, .string a1_4, .string a1_5] 42 (0, 0)) (by (with_reducible repeat (first|refine blk_drewN ?_ _|refine blk_drew ?_|refine blk_alloc ?_ _));exact BK284.out) hb);have n2_ := aK (blk_below (g := gb285) (o := .cells #[.int .i64 0, .slice none 0 0, .slice none 0 0] 71 (0, 0)) (by (with_reducible repeat (first|refine blk_drewN ?_ _|refine blk_drew ?_|refine blk_alloc ?_ _));exact BK285.out) hb);have n3_ := aK (below_step (by repeat (first|(with_reducible first|apply bA|apply bN|apply bD|refine below_set ?_ GE283.out|refine below_set ?_ GE284.out|refine below_set ?_ GE285.out)|exact HB.out)) hb);clear BK283;clear BK284;clear BK285;clear HB;have BK283 := n0_;have BK284 := n1_;have BK285 := n2_;have HB := n3_;clear n0_ n1_ n2_ n3_;try clear hb)|((with_reducible refine gate_builtin (b := .append) (xs := #[.tmp 58, .tmp 61]) rfl ?_);at_builtin;refine Kd.R_append k76 (w0 := w) w.heap.size rfl (.tmp 58) (.tmp 61) 22 76 (.agg #[(.string ⟨#[]⟩), (.string ⟨#[]⟩)]) 32 rfl Tryz.underlying22 info76 rfl (by decide) (by omega) (.slice none 0 0) ([] : List (S76)) (⟨(⟨#[83, 101, 116, 45, 67, 111, 111, 107, 105, 101]⟩ : BA), t307⟩ : S76) [.string (⟨#[83, 101, 116, 45, 67, 111, 111, 107, 105, 101]⟩ : BA), .string t307] (fun k_ => (w.heap.size ≤ k_)) (fun _ => False) rfl rfl ?aP (fun _ hk => hk.elim) ?aF ?aO ?aB ?aS ?aL ?_;(case aP => exact k76_mkM _ _ _ (⟨(⟨#[83, 101, 116, 45, 67, 111, 111, 107, 105, 101]⟩ : BA), t307⟩ : S76));(case aB => exact (by repeat (first|(with_reducible first|apply bA|apply bN|apply bD|refine below_set ?_ GE283.out|refine below_set ?_ GE284.out|refine below_set ?_ GE285.out)|exact HB.out)));(case aF => exact (fun k_ hk => (Nat.le_trans (below_size (by repeat (first|(with_reducible first|apply bA|apply bN|apply bD|refine below_set ?_ GE283.out|refine below_set ?_ GE284.out|refine below_set ?_ GE285.out)|exact HB.out))) hk)));(case aO => exact ((Kd.R_nil _ _ _ _ (fun k_ => (w.heap.size ≤ k_)))));(case aS => exact (below_size (by repeat (first|(with_reducible first|apply bA|apply bN|apply bD|refine below_set ?_ GE283.out|refine below_set ?_ GE284.out|refine below_set ?_ GE285.out)|exact HB.out))));(case aL => have := LMc76.out;omega);intro v310 w84 ho hb hg hat;rw [← Ny309.out] at ho;have n0_ := aK (blk_grown (g := gb283) (o := .cells #[.int .u64 a0_0, .int .u64 a0_1, .int .u64 a0_2, .int .i64 a0_3, .slice A0_4 l0_4.length c0_4] 40 (0, 0)) (by (with_reducible repeat (first|refine blk_drewN ?_ _|refine blk_drew ?_|refine blk_alloc ?_ _));exact BK283.out) hg (by simp [Value.ownBlock]));have n1_ := aK (blk_grown (g := gb284) (o := .cells #[.int .i64 a1_0, .string a1_1, .bool a1_2, .string a1_3, .string a1_4, .string a1_5] 42 (0, 0)) (by (with_reducible repeat (first|refine blk_drewN ?_ _|refine blk_drew ?_|refine blk_alloc ?_ _));exact BK284.out) hg (by simp [Value.ownBlock]));have n2_ := aK (blk_grown (g := gb285) (o := .cells #[.int .i64 0, .slice none 0 0, .slice none 0 0] 71 (0, 0)) (by (with_reducible repeat (first|refine blk_drewN ?_ _|refine blk_drew ?_|refine blk_alloc ?_ _));exact BK285.out) hg (by simp [Value.ownBlock]));have n3_ := aK (hb);have n4_ := aK (ho);clear BK283;clear BK284;clear BK285;clear HB;have BK283 := n0_;have BK284 := n1_;have BK285 := n2_;have HB := n3_;have HO311 := n4_;clear n0_ n1_ n2_ n3_ n4_;clear ho hb hg hat;have hcz85_0 : w84.cell? ⟨gb284, 0, none⟩ = some (.int .i64 a1_0) := (blk_cell BK284.out 0).trans rfl;have hcz85_1 : w84.cell? ⟨gb284, 1, none⟩ = some (.string a1_1) := (blk_cell BK284.out 1).trans rfl;have hcz85_2 : w84.cell? ⟨gb284, 2, none⟩ = some (.bool a1_2) := (blk_cell BK284.out 2).trans rfl;have hcz85_3 : w84.cell? ⟨gb284, 3, none⟩ = some (.string a1_3) := (blk_cell BK284.out 3).trans rfl;have hcz85_4 : w84.cell? ⟨gb284, 4, none⟩ = some (.string a1_4) := (blk_cell BK284.out 4).trans rfl;have hcz85_5 : w84.cell? ⟨gb284, 5, none⟩ = some (.string a1_5) := (blk_cell BK284.out 5).trans rfl;have hfz85_0 := blk_frozen BK284.out 0;have hfz85_1 := blk_frozen BK284.out 1;have hfz85_2 := blk_frozen BK284.out 2;have hfz85_3 := blk_frozen BK284.out 3;have hfz85_4 := blk_frozen BK284.out 4;have hfz85_5 := blk_frozen BK284.out 5;obtain ⟨Ao86, co86, eo86⟩ := Kd.R_slice HO311.out;subst eo86)|((with_reducible refine gate_callee (f := 92) rfl ?_);refine goesL_ (some 79) rfl rfl Tryz.func92 (by kernel_rfl) rfl #[.int .i64 a1_0, .string x5_40, .slice Ao86 y309.length co86] rfl (by (try simp only [List.map_toArray, List.map_cons, List.map_nil]);first|done|rfl|(simp only [List.length_drop, List.length_take];rfl)) ?_;(with_reducible refine (wicketmanref10_Page.calls a1_0 x5_40 _ _ y309 t312 t313 t316 _ ?side1 ?side2 A77.out).mono ?_);(case side1 => repeat (first|exact (Kd.R_reads' HO311.out).2.2|(with_reducible refine Kd.C_alloc ?_ _)|(with_reducible refine Kd.C_drewN ?_ _)|(with_reducible refine Kd.C_drew ?_)));(case side2 => exact (Kd.R_reads' HO311.out).2.1);rintro e w87 ⟨v314, v317, rfl, ho0, ho1, hb⟩;refine ⟨_, rfl, ?_⟩;have n0_ := aK (Kd.R_elder' (by (with_reducible repeat (first|apply Kd.R_alloc|apply Kd.R_drewN|apply Kd.R_drew));exact HO311.out) (Kd.R_base ho0) hb);have n1_ := aK (Kd.R_lower (Kd.R_new' (Kd.R_newM (M := fun k_ => (w.heap.size ≤ k_)) (Kd.R_mono (ok' := fun k_ => True) ho0 (fun _ hk_ => trivial)) (below_size (by repeat (first|(with_reducible first|apply bA|apply bN|apply bD|refine below_set ?_ GE283.out|refine below_set ?_ GE284.out|refine below_set ?_ GE285.out)|exact HB.out))) (fun k_ h_ => h_)) (Kd.R_lt (by (with_reducible repeat (first|apply Kd.R_alloc|apply Kd.R_drewN|apply Kd.R_drew));exact HO311.out))) (below_size (by repeat (first|(with_reducible first|apply bA|apply bN|apply bD|refine below_set ?_ GE283.out|refine below_set ?_ GE284.out|refine below_set ?_ GE285.out)|exact HB.out))));have n2_ := aK (Kd.V_lower (Kd.V_mono (ok' := fun k_ => (w.heap.size ≤ k_) ∧ some k_ ≠ (v314 : Value).ownBlock ∧ some k_ ≠ (.slice Ao86 y309.length co86 : Value).ownBlock ∧ k_ ≠ gb283 ∧ k_ ≠ gb284 ∧ k_ ≠ gb285) ho1 (fun k_ hk_ => ⟨(Nat.le_trans (below_size (by repeat (first|(with_reducible first|apply bA|apply bN|apply bD|refine below_set ?_ GE283.out|refine below_set ?_ GE284.out|refine below_set ?_ GE285.out)|exact HB.out))) hk_.1), hk_.2, (Kd.fresh' (Kd.R_lt (by (with_reducible repeat (first|apply Kd.R_alloc|apply Kd.R_drewN|apply Kd.R_drew));exact HO311.out)) k_ hk_.1), (Kd.freshB (g := gb283) (o := .cells #[.int .u64 a0_0, .int .u64 a0_1, .int .u64 a0_2, .int .i64 a0_3, .slice A0_4 l0_4.length c0_4] 40 (0, 0)) (by (with_reducible repeat (first|refine blk_drewN ?_ _|refine blk_drew ?_|refine blk_alloc ?_ _));exact BK283.out) k_ hk_.1), (Kd.freshB (g := gb284) (o := .cells #[.int .i64 a1_0, .string a1_1, .bool a1_2, .string a1_3, .string a1_4, .string a1_5] 42 (0, 0)) (by (with_reducible repeat (first|refine blk_drewN ?_ _|refine blk_drew ?_|refine blk_alloc ?_ _));exact BK284.out) k_ hk_.1), (Kd.freshB (g := gb285) (o := .cells #[.int .i64 0, .slice none 0 0, .slice none 0 0] 71 (0, 0)) (by (with_reducible repeat (first|refine blk_drewN ?_ _|refine blk_drew ?_|refine blk_alloc ?_ _));exact BK285.out) k_ hk_.1)⟩)) (below_size (by repeat (first|(with_reducible first|apply bA|apply bN|apply bD|refine below_set ?_ GE283.out|refine below_set ?_ GE284.out|refine below_set ?_ GE285.out)|exact HB.out))));have n3_ := aK (blk_below (g := gb283) (o := .cells #[.int .u64 a0_0, .int .u64 a0_1, .int .u64 a0_2, .int .i64 a0_3, .slice A0_4 l0_4.length c0_4] 40 (0, 0)) (by (with_reducible repeat (first|refine blk_drewN ?_ _|refine blk_drew ?_|refine blk_alloc ?_ _));exact BK283.out) hb);have n4_ := aK (blk_below (g := gb284) (o := .cells #[.int .i64 a1_0, .string a1_1, .bool a1_2, .string a1_3, .string a1_4, .string a1_5] 42 (0, 0)) (by (with_reducible repeat (first|refine blk_drewN ?_ _|refine blk_drew ?_|refine blk_alloc ?_ _));exact BK284.out) hb);have n5_ := aK (blk_below (g := gb285) (o := .cells #[.int .i64 0, .slice none 0 0, .slice none 0 0] 71 (0, 0)) (by (with_reducible repeat (first|refine blk_drewN ?_ _|refine blk_drew ?_|refine blk_alloc ?_ _));exact BK285.out) hb);have n6_ := aK (below_step (by repeat (first|(with_reducible first|apply bA|apply bN|apply bD|refine below_set ?_ GE283.out|refine below_set ?_ GE284.out|refine below_set ?_ GE285.out)|exact HB.out)) hb);clear HO311;clear BK283;clear BK284;clear BK285;clear HB;have HO311 := n0_;have HO315 := n1_;have HO318 := n2_;have BK283 := n3_;have BK284 := n4_;have BK285 := n5_;have HB := n6_;clear n0_ n1_ n2_ n3_ n4_ n5_ n6_;try clear hb;(try clear ho0);(try clear ho1);have hcz88_0 : w87.cell? ⟨gb285, 0, none⟩ = some (.int .i64 0) := (blk_cell BK285.out 0).trans rfl;have hcz88_1 : w87.cell? ⟨gb285, 1, none⟩ = some (.slice none 0 0) := (blk_cell BK285.out 1).trans rfl;have hcz88_2 : w87.cell? ⟨gb285, 2, none⟩ = some (.slice none 0 0) := (blk_cell BK285.out 2).trans rfl;have hfz88_0 := blk_frozen BK285.out 0;have hfz88_1 := blk_frozen BK285.out 1;have hfz88_2 := blk_frozen BK285.out 2;obtain ⟨Ao89, co89, eo89⟩ := Kd.R_slice HO315.out;subst eo89;obtain ⟨Ao90, co90, eo90⟩ := Kd.V_slice HO318.out;subst eo90))
           refine bodyPost_ret (results_cell_row rfl _ _ gb285 71 #[.int .i64 t312, .slice Ao89 t313.length co89, .slice Ao90 t316.length co90] (0, 0) _ rfl (by (with_reducible repeat (first|refine blk_drewN ?_ _|refine blk_drew ?_|refine blk_alloc ?_ _));refine blk_put (cs := #[.int .i64 t312, .slice Ao89 t313.length co89, .slice none 0 0]) ?_ 2 _ rfl;(with_reducible repeat (first|refine blk_drewN ?_ _|refine blk_drew ?_|refine blk_alloc ?_ _));refine blk_put (cs := #[.int .i64 t312, .slice none 0 0, .slice none 0 0]) ?_ 1 _ rfl;(with_reducible repeat (first|refine blk_drewN ?_ _|refine blk_drew ?_|refine blk_alloc ?_ _));refine blk_put (cs := #[.int .i64 0, .slice none 0 0, .slice none 0 0]) ?_ 0 _ rfl;(with_reducible repeat (first|refine blk_drewN ?_ _|refine blk_drew ?_|refine blk_alloc ?_ _));exact BK285.out) Tryz.underlying71 rfl (by kernel_rfl)) rfl ?_
           exact ⟨_, _, by first|rfl|(simp [errW_none, errW_some] <;> rfl)|(simp [*, errW_none, errW_some] <;> rfl), by (with_reducible repeat (first|apply Kd.R_alloc|apply Kd.R_drewN|apply Kd.R_drew));exact Kd.R_mono (Kd.R_far (p := ⟨gb285, 2, none⟩) (Kd.R_far (p := ⟨gb285, 1, none⟩) (Kd.R_far (p := ⟨gb285, 0, none⟩) (Kd.R_types HO315.out BK285.out (by decide)) (fun _ hk => hk.2) (.int .i64 t312)) (fun _ hk => hk.2) (.slice Ao89 t313.length co89)) (fun _ hk => hk.2) (.slice Ao90 t316.length co90)) (fun _ hk => hk.1.1.1), by (with_reducible repeat (first|apply Kd.V_alloc|apply Kd.V_drewN|apply Kd.V_drew));exact Kd.V_mono (Kd.V_far (p := ⟨gb285, 2, none⟩) (Kd.V_far (p := ⟨gb285, 1, none⟩) (Kd.V_far (p := ⟨gb285, 0, none⟩) (Kd.V_mono HO318.out (fun k_ hk => (⟨hk, hk.2.2.2.2.2⟩ : _ ∧ k_ ≠ gb285))) (fun _ hk => hk.2) (.int .i64 t312)) (fun _ hk => hk.2) (.slice Ao89 t313.length co89)) (fun _ hk => hk.2) (.slice Ao90 t316.length co90)) (fun _ hk => ⟨hk.1.1, hk.1.2.1⟩), by repeat (first|(with_reducible first|apply bA|apply bN|apply bD|refine below_set ?_ GE283.out|refine below_set ?_ GE284.out|refine below_set ?_ GE285.out)|exact HB.out)⟩
          ·rw [if_neg c76] at H
           exact absurd H (by simp)
end Go.Proofs.YthdiiiopjkaifaaGreatDoor.Pall

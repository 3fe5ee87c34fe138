import Derived.Test.YthdiiiopjkaifaaGreatDoorGeRpa
import Derived.Test.YthdiiiopjkaifaaGreatDoorGeGk
import Derived.Test.YthdiiiopjkaifaaGreatDoorGePall0
import Derived.Test.YthdiiiopjkaifaaGreatDoorGePall17
namespace Go.Proofs.YthdiiiopjkaifaaGreatDoor.Pall
open Go.RowKit Go.Proofs.YthdiiiopjkaifaaGreatDoorW.PrintWords Go.Proofs.YthdiiiopjkaifaaGreatDoorW.PrintLast Go.Proofs.YthdiiiopjkaifaaGreatDoorW.PrintMore
attribute [local go_sem] max2_int min2_int max_two min_two
set_option linter.unusedVariables false
set_option linter.unusedSimpArgs false
mutual
def wicketmanlaw19_GateEscapes.j0 : Nat → ByteArray → ByteArray → Bool → Option (Bool)
 | 0, _, _, _ => none
 | k + 1, x1, x6, x32 => if x32 = true then (some false) else (wicketmanlaw19_GateEscapes.l0 k x1 x6 0)
def wicketmanlaw19_GateEscapes.l0 : Nat → ByteArray → ByteArray → Int → Option (Bool)
 | 0, _, _, _ => none
 | k + 1, x1, x6, x7 => if x7 < (x6.size : Int) then (if 0 ≤ x7 then (if (bt x6 x7) = 60 then (some false) else (if (bt x6 x7) = 62 then (some false) else (if (bt x6 x7) = 34 then (some false) else (if (bt x6 x7) = 39 then (some false) else (wicketmanlaw19_GateEscapes.l0 k x1 x6 (wrap64 (x7 + 1))))))) else (none)) else ((wicketmanlaw19_known.f).bind fun t368 => (if t368 = true then (if 0 ≤ (wrap64 ((x6.size : Int) - 1)) then (if (wrap64 ((x6.size : Int) - 1)) < (x6.size : Int) then (if (bt x6 (wrap64 ((x6.size : Int) - 1))) = 10 then (if x1.toList = ([] : List UInt8) then (some true) else (if 7 ≤ 12 then (if 12 ≤ (x6.size : Int) then (some ((x6.extract 7 12).toList == ([110, 111, 116, 101, 32] : List UInt8))) else (none)) else (none))) else (some false)) else (none)) else (none)) else (some false)))
end
def wicketmanlaw19_GateEscapes.f (k : Nat) (l0 : List Int) (a1 : ByteArray) : Option (Bool) := if (a1.size : Int) > 200 then ((wicketmanlaw19_known.f).bind fun t357 => (some t357)) else (if 0 ≤ (mn (l0.length : Int) 32) then (if (mn (l0.length : Int) 32) ≤ (l0.length : Int) then ((wicketmanref05_Text.f k (l0.take ((mn (l0.length : Int) 32) : Int).toNat)).bind fun t359 => ((gate_Page.f 0 5 0 0 ([] : List Int) 200 (⟨#[]⟩ : BA) false t359 (⟨#[117]⟩ : BA) a1).bind fun bt360 => (if ((strOfNums bt360.2.2).size : Int) < 7 then (wicketmanlaw19_GateEscapes.j0 k a1 (strOfNums bt360.2.2) true) else (if 0 ≤ 7 then (if 7 ≤ ((strOfNums bt360.2.2).size : Int) then (wicketmanlaw19_GateEscapes.j0 k a1 (strOfNums bt360.2.2) (((strOfNums bt360.2.2).extract 0 7).toList != ([117, 115, 101, 114, 32, 117, 10] : List UInt8))) else (none)) else (none))))) else (none)) else (none))
theorem wicketmanlaw19_GateEscapes.mono_l : ∀ k, (∀ y0 y1 y2, LeO (wicketmanlaw19_GateEscapes.j0 k y0 y1 y2) (wicketmanlaw19_GateEscapes.j0 (k + 1) y0 y1 y2)) ∧ (∀ y0 y1 y2, LeO (wicketmanlaw19_GateEscapes.l0 k y0 y1 y2) (wicketmanlaw19_GateEscapes.l0 (k + 1) y0 y1 y2))
 | 0 => ⟨fun _ _ _ r h => by simp [wicketmanlaw19_GateEscapes.j0] at h, fun _ _ _ r h => by simp [wicketmanlaw19_GateEscapes.l0] at h⟩
 | k + 1 => by
  obtain ⟨ih0, ih1⟩ := wicketmanlaw19_GateEscapes.mono_l k
  refine ⟨?_, ?_⟩
  ·intro y0 y1 y2
   unfold wicketmanlaw19_GateEscapes.j0
   repeat' first|(with_reducible first|exact ih0 _ _ _|exact ih1 _ _ _|exact wicketmanref05_Text.mono _ _|exact LeO.refl _|exact LeO.none _|refine LeO.ite ?_ ?_|refine LeO.bind ?_ (fun _ => ?_))|exact LeO.none _|refine LeO.ite ?_ ?_|refine LeO.bind ?_ (fun _ => ?_)
  ·intro y0 y1 y2
   unfold wicketmanlaw19_GateEscapes.l0
   repeat' first|(with_reducible first|exact ih0 _ _ _|exact ih1 _ _ _|exact wicketmanref05_Text.mono _ _|exact LeO.refl _|exact LeO.none _|refine LeO.ite ?_ ?_|refine LeO.bind ?_ (fun _ => ?_))|exact LeO.none _|refine LeO.ite ?_ ?_|refine LeO.bind ?_ (fun _ => ?_)
theorem wicketmanlaw19_GateEscapes.mono : ∀ a0 a1 k, LeO (wicketmanlaw19_GateEscapes.f k a0 a1) (wicketmanlaw19_GateEscapes.f (k + 1) a0 a1) := by
 intro a0 a1 k
 obtain ⟨ih0, ih1⟩ := wicketmanlaw19_GateEscapes.mono_l k
 unfold wicketmanlaw19_GateEscapes.f
 repeat' first|(with_reducible first|exact ih0 _ _ _|exact ih1 _ _ _|exact wicketmanref05_Text.mono _ _|exact LeO.refl _|exact LeO.none _|refine LeO.ite ?_ ?_|refine LeO.bind ?_ (fun _ => ?_))|exact LeO.none _|refine LeO.ite ?_ ?_|refine LeO.bind ?_ (fun _ => ?_)
set_option maxHeartbeats 8000000 in
set_option maxRecDepth 100000 in
theorem wicketmanlaw19_GateEscapes.calls (k : Nat) (A0 : Option Addr) (c0 : Nat) (l0 : List Int) (a1 : ByteArray) (r : Bool) (w : World) (hr0 : Kd.C (Kd.int .u8) w A0 l0.length l0) (hc0 : l0.length ≤ c0) (hS : Sh w) (hT : Tb w) (hTR : Aside0 (r = true)) (h : wicketmanlaw19_GateEscapes.f k l0 a1 = some r) :
  Calls Tryz.prog 10 #[.slice A0 l0.length c0, .string a1] w fun e w' => e = .returned (.bool r) ∧ Below w.heap.size w w' := by
 have hu40 := Tryz.underlying40
 have hu42 := Tryz.underlying42
 have hu71 := Tryz.underlying71
 have HR0 := aK hr0
 have HC0 := aK hc0
 clear hr0 hc0
 have HB := aK (Below.refl w.heap.size w)
 have H : (if (a1.size : Int) > 200 then ((wicketmanlaw19_known.f).bind fun t357 => (some t357)) else (if 0 ≤ (mn (l0.length : Int) 32) then (if (mn (l0.length : Int) 32) ≤ (l0.length : Int) then ((wicketmanref05_Text.f k (l0.take ((mn (l0.length : Int) 32) : Int).toNat)).bind fun t359 => ((gate_Page.f 0 5 0 0 ([] : List Int) 200 (⟨#[]⟩ : BA) false t359 (⟨#[117]⟩ : BA) a1).bind fun bt360 => (if ((strOfNums bt360.2.2).size : Int) < 7 then (wicketmanlaw19_GateEscapes.j0 k a1 (strOfNums bt360.2.2) true) else (if 0 ≤ 7 then (if 7 ≤ ((strOfNums bt360.2.2).size : Int) then (wicketmanlaw19_GateEscapes.j0 k a1 (strOfNums bt360.2.2) (((strOfNums bt360.2.2).extract 0 7).toList != ([117, 115, 101, 114, 32, 117, 10] : List UInt8))) else (none)) else (none))))) else (none)) else (none))) = some r := h
 clear h
 by_cases c3 : (a1.size : Int) > 200
 ·rw [if_pos c3] at H
  have c3b0 : decide (200 < (a1.size : Int)) = true := decide_eq_true c3
  have c3b1 : decide (200 < a1.size) = true := decide_eq_true (by omega)
  clear c3
  replace H := Option.bind_eq_some_iff.mp H
  obtain ⟨t357, A40, H⟩ := H
  try dsimp only at H
  have A4 := aK A40
  clear A40
  obtain rfl := Option.some.inj H
  go_enter Tryz.func10, Tryz.ntmps10
  go_wp2_with (first|((with_reducible refine gate_callee (f := 13) rfl ?_);refine goesL_ (some 11) rfl rfl Tryz.func13 (by kernel_rfl) rfl #[] rfl (by (try simp only [List.map_toArray, List.map_cons, List.map_nil]);first|done|rfl|(simp only [List.length_drop, List.length_take];rfl)) ?_;(with_reducible refine (wicketmanlaw19_known.calls  t357 _ (by first|exact hS|(refine Sh.of_below hS ?_;repeat (first|(with_reducible first|apply bA|apply bN|apply bD)|exact HB.out|refine Below.setCell ?_ (Aside0.out (by assumption)) _))|(refine Sh.of_below hS ?_;assumption)) (by first|exact hT|(refine Tb.of_below hT ?_;repeat (first|(with_reducible first|apply bA|apply bN|apply bD)|exact HB.out|refine Below.setCell ?_ (Aside0.out (by assumption)) _))|(refine Tb.of_below hT ?_;assumption)) (by first|exact hTR|exact aK rfl|exact aK (by assumption)|exact aK (of_eq_true (by assumption))|exact aK (wicketmanlaw19_known.true_ _ A4.out)|exact aK (by simp_all)) A4.out).mono ?_);rintro e w5 ⟨rfl, hb⟩;refine ⟨_, rfl, ?_⟩;have n0_ := aK (below_step (by repeat (first|(with_reducible first|apply bA|apply bN|apply bD)|exact HB.out)) hb);clear HB;have HB := n0_;clear n0_;try clear hb))
  go_ret
  exact ⟨by first|rfl|(simp [errW_none, errW_some] <;> rfl)|(simp [*, errW_none, errW_some] <;> rfl), by repeat (first|(with_reducible first|apply bA|apply bN|apply bD)|exact HB.out)⟩
 ·rw [if_neg c3] at H
  have c3b0 : decide (200 < (a1.size : Int)) = false := decide_eq_false c3
  have c3b1 : decide (200 < a1.size) = false := decide_eq_false (by omega)
  clear c3
  obtain ⟨ji6, hji6⟩ : ∃ j_ : Int, (mn (l0.length : Int) 32) = j_ := ⟨_, rfl⟩
  replace H : (if 0 ≤ (ji6) then (if (ji6) ≤ (l0.length : Int) then ((wicketmanref05_Text.f k (l0.take ((ji6) : Int).toNat)).bind fun t359 => ((gate_Page.f 0 5 0 0 ([] : List Int) 200 (⟨#[]⟩ : BA) false t359 (⟨#[117]⟩ : BA) a1).bind fun bt360 => (if ((strOfNums bt360.2.2).size : Int) < 7 then (wicketmanlaw19_GateEscapes.j0 k a1 (strOfNums bt360.2.2) true) else (if 0 ≤ 7 then (if 7 ≤ ((strOfNums bt360.2.2).size : Int) then (wicketmanlaw19_GateEscapes.j0 k a1 (strOfNums bt360.2.2) (((strOfNums bt360.2.2).extract 0 7).toList != ([117, 115, 101, 114, 32, 117, 10] : List UInt8))) else (none)) else (none))))) else (none)) else (none)) = some r := by first|(rw [hji6] at H;exact H)|(simp only [hji6] at H ⊢;exact H)
  (try (have hji6h : ji6 ≤ 32 := by (rw [← hji6];unfold mn;(repeat' split) <;> omega)))
  (try (have hji6g : ji6 ≤ 64 := by omega))
  (try (have hji6l : 0 ≤ ji6 := by (rw [← hji6];unfold mn;(repeat' split) <;> omega)))
  (try (have hji6m : 0 ≤ ji6 := by omega))
  have hji6_ : (if 32 < (l0.length : Int) then 32 else (l0.length : Int)) = ji6 := hji6
  by_cases c7 : 0 ≤ (ji6)
  ·rw [if_pos c7] at H
   have c7b0 := eq_true c7
   have c7b1 : decide (0 ≤ (ji6)) = true := decide_eq_true c7
   clear c7
   by_cases c8 : (ji6) ≤ (l0.length : Int)
   ·rw [if_pos c8] at H
    have c8b0 := eq_true c8
    have c8b1 : decide ((ji6) ≤ (l0.length : Int)) = true := decide_eq_true c8
    clear c8
    replace H := Option.bind_eq_some_iff.mp H
    obtain ⟨t359, A90, H⟩ := H
    try dsimp only at H
    have A9 := aK A90
    clear A90
    replace H := Option.bind_eq_some_iff.mp H
    obtain ⟨⟨t360, t361, t364⟩, A100, H⟩ := H
    try dsimp only at H
    have A10 := aK A100
    clear A100
    have HC11 := aK H
    clear H
    obtain ⟨i012, hi012, _, hsz12, _⟩ := info_parts info5
    obtain ⟨hcut12, hA12, hC12⟩ := print_take_of (P := Tryz.prog) (Value.int .u8) 0 23 5 .i64 Tryz.underlying23 hi012 hsz12 A0 c0 l0 (ji6) (of_decide_eq_true (by first|(with_reducible assumption)|assumption)) (of_decide_eq_true (by first|(with_reducible assumption)|assumption)) HC0.out
    have HR358 := aK (Kd.C_of_reads (h1 := fun _ => rfl) (hA12 _ (Kd.reads_of_C HR0.out)))
    have HC358 := aK hC12
    clear hA12 hC12 hi012 hsz12
    go_enter Tryz.func10, Tryz.ntmps10
    go_upto_region 5 with (first|((with_reducible refine gate_callee (f := 35) rfl ?_);refine goesL_ (some 19) rfl rfl Tryz.func35 (by kernel_rfl) rfl #[.slice A0 (l0.take ((ji6) : Int).toNat).length c0] rfl (by (try simp only [List.map_toArray, List.map_cons, List.map_nil]);first|done|(rw [show (l0.take ((ji6) : Int).toNat).length = (ji6).toNat from (by rw [List.length_take];have h_ : ((ji6) : Int) ≤ (l0.length : Int) := of_decide_eq_true (by first|(with_reducible assumption)|assumption);omega)] <;> rfl)|(simp only [hji6];rfl)|rfl|(simp only [List.length_drop, List.length_take];rfl)) ?_;(with_reducible refine (wicketmanref05_Text.calls k _ _ (l0.take ((ji6) : Int).toNat) t359 _ ?side1 ?side2 A9.out).mono ?_);(case side1 => repeat (first|exact HR358.out|(with_reducible refine Kd.C_alloc ?_ _)|(with_reducible refine Kd.C_drewN ?_ _)|(with_reducible refine Kd.C_drew ?_)));(case side2 => exact HC358.out);rintro e w' ⟨rfl, ⟨nd, rfl⟩⟩;refine ⟨_, rfl, ?_⟩)|((with_reducible refine gate_callee (f := 34) rfl ?_);refine goesL_ (some 21) rfl rfl Tryz.func34 (by kernel_rfl) rfl #[.agg #[.int .u64 0, .int .u64 5, .int .u64 0, .int .i64 0, .slice none 0 0], .agg #[.int .i64 200, .string (⟨#[]⟩ : BA), .bool false, .string t359, .string (⟨#[117]⟩ : BA), .string a1]] rfl (by (try simp only [List.map_toArray, List.map_cons, List.map_nil]);first|done|rfl|(simp only [List.length_drop, List.length_take];rfl)) ?_;(refine (gate_Page.calls 0 5 0 0 _ _ ([] : List Int) 200 (⟨#[]⟩ : BA) false t359 (⟨#[117]⟩ : BA) a1 t360 t361 t364 _ ?side1 ?side2 (by first|exact hT|(refine Tb.of_below hT ?_;repeat (first|(with_reducible first|apply bA|apply bN|apply bD)|exact HB.out|refine Below.setCell ?_ (Aside0.out (by assumption)) _))|(refine Tb.of_below hT ?_;assumption)) A10.out).mono ?_);(case side1 => exact Kd.C_nil _ _);(case side2 => exact Nat.le_refl _);rintro e w13 ⟨v362, v365, rfl, ho0, ho1, hb⟩;refine ⟨_, rfl, ?_⟩;have n0_ := aK (Kd.R_lower (Kd.R_mono (ok' := fun k_ => True) ho0 (fun _ hk_ => trivial)) (below_size (by repeat (first|(with_reducible first|apply bA|apply bN|apply bD)|exact HB.out))));have n1_ := aK (Kd.V_lower (Kd.V_mono (ok' := fun k_ => some k_ ≠ (v362 : Value).ownBlock) ho1 (fun k_ hk_ => hk_.2)) (below_size (by repeat (first|(with_reducible first|apply bA|apply bN|apply bD)|exact HB.out))));have n2_ := aK (below_step (by repeat (first|(with_reducible first|apply bA|apply bN|apply bD)|exact HB.out)) hb);clear HB;have HO363 := n0_;have HO366 := n1_;have HB := n2_;clear n0_ n1_ n2_;try clear hb;(try clear ho0);(try clear ho1))|((with_reducible refine gate_dst (N := 5) rfl ?_);(try (refine gate_guard (by rfl) ?_;dsimp only));refine box_event ?hg (N := 5) ?hd (cs := #[.int .i64 0, .slice none 0 0, .slice none 0 0]) (t := 71) ?hr ?_;(case hd => rfl);(case hg => rfl);(case hr => first|(go_simp;done)|(go_simp;rfl));intro gb367 hg w14 hbox hb;have n0_ := aK (Kd.R_below (by (with_reducible repeat (first|apply Kd.R_alloc|apply Kd.R_drewN|apply Kd.R_drew));exact HO363.out) hb);have n1_ := aK (Kd.V_below (Kd.V_elderB (by (with_reducible repeat (first|apply Kd.V_alloc|apply Kd.V_drewN|apply Kd.V_drew));exact HO366.out) gb367 (Nat.le_of_eq hg.symm)) hb);have n2_ := aK (below_step (by repeat (first|(with_reducible first|apply bA|apply bN|apply bD)|exact HB.out)) hb);have n3_ := aK (hbox);have n4_ := aK ((by rw [hg];exact (below_size (by repeat (first|(with_reducible first|apply bA|apply bN|apply bD)|exact HB.out))) : w.heap.size ≤ gb367));have n5_ := aK ((by rw [hg];exact (below_size (by repeat (first|(with_reducible first|apply bA|apply bN|apply bD)|exact HB.out))) : w.heap.size ≤ gb367));clear HO363;clear HO366;clear HB;have HO363 := n0_;have HO366 := n1_;have HB := n2_;have BK367 := n3_;have GW367 := n4_;have GE367 := n5_;clear n0_ n1_ n2_ n3_ n4_ n5_;clear hb hbox hg;have hcz15_0 : w14.cell? ⟨gb367, 0, none⟩ = some (.int .i64 0) := (blk_cell BK367.out 0).trans rfl;have hcz15_1 : w14.cell? ⟨gb367, 1, none⟩ = some (.slice none 0 0) := (blk_cell BK367.out 1).trans rfl;have hcz15_2 : w14.cell? ⟨gb367, 2, none⟩ = some (.slice none 0 0) := (blk_cell BK367.out 2).trans rfl;have hfz15_0 := blk_frozen BK367.out 0;have hfz15_1 := blk_frozen BK367.out 1;have hfz15_2 := blk_frozen BK367.out 2;obtain ⟨Ao16, co16, eo16⟩ := Kd.R_slice HO363.out;subst eo16;obtain ⟨Ao17, co17, eo17⟩ := Kd.V_slice HO366.out;subst eo17;have hcv18 := Kd.C_string (c := co17) (P := Tryz.prog) Tryz.underlying23 Tryz.underlying5 Tryz.underlying9 (Kd.V_reads' HO366.out).2.2;have hcv18n := fun n_ : Nat => Kd.C_string (c := co17) (P := Tryz.prog) Tryz.underlying23 Tryz.underlying5 Tryz.underlying9 (Kd.C_drewN (Kd.V_reads' HO366.out).2.2 n_);have hcv18s := Kd.C_string (c := co17) (P := Tryz.prog) Tryz.underlying23 Tryz.underlying5 Tryz.underlying9 (Kd.V_reads' (Kd.V_far (p := ⟨gb367, 2, none⟩) (Kd.V_far (p := ⟨gb367, 1, none⟩) (Kd.V_far (p := ⟨gb367, 0, none⟩) (Kd.V_mono HO366.out (fun k_ hk => (⟨hk, hk.2⟩ : _ ∧ k_ ≠ gb367))) (fun _ hk => hk.2) (.int .i64 t360)) (fun _ hk => hk.2) (.slice Ao16 t361.length co16)) (fun _ hk => hk.2) (.slice Ao17 t364.length co17))).2.2))
    (try simp only [Act.put, List.setIfInBounds_toArray, List.set_cons_zero, List.set_cons_succ])
    go_cut [32] (fun v32 wc => ∃ (kq : Nat) (x32_10 : Bool), v32 = .bool x32_10 ∧ Aside0 (wicketmanlaw19_GateEscapes.j0 kq a1 (strOfNums t364) x32_10 = some r) ∧ Aside0 (kq ≤ k) ∧ Aside0 (Kd.R k76 76 wc w.heap.size (fun _ => True) (.slice Ao16 t361.length co16) t361) ∧ Aside0 (Kd.V (Kd.int .u8) 5 wc w.heap.size (fun k_ => some k_ ≠ ((.slice Ao16 t361.length co16) : Value).ownBlock ∧ k_ ≠ gb367) (.slice Ao17 t364.length co17) t364) ∧ Aside0 (wc.heap[gb367]? = some (.cells #[.int .i64 t360, (.slice Ao16 t361.length co16), (.slice Ao17 t364.length co17)] 71 (0, 0))) ∧ Aside0 (Below w.heap.size w wc))
    case first =>
     have H := HC11.out
     clear HC11
     by_cases c19 : ((strOfNums t364).size : Int) < 7
     ·rw [if_pos c19] at H
      have c19b0 : decide (((strOfNums t364).size : Int) < 7) = true := decide_eq_true c19
      have c19b1 : decide ((strOfNums t364).size < 7) = true := decide_eq_true (by omega)
      clear c19
      (first|rw [c19b0]|(simp only [i64_w, i32_w];rw [c19b0])|skip)
      have H' := aK H
      clear H
      go_wp2
      go_meet
      case rel => exact ⟨_, (true), (by first|rfl|(simp;done)|(simp [*];done)), H', ⟨by first|omega|exact Nat.le_refl _⟩, ⟨by (with_reducible repeat (first|apply Kd.R_alloc|apply Kd.R_drewN|apply Kd.R_drew));exact Kd.R_mono (Kd.R_far (p := ⟨gb367, 2, none⟩) (Kd.R_far (p := ⟨gb367, 1, none⟩) (Kd.R_far (p := ⟨gb367, 0, none⟩) (Kd.R_types HO363.out BK367.out (by decide)) (fun _ hk => hk.2) (.int .i64 t360)) (fun _ hk => hk.2) (.slice Ao16 t361.length co16)) (fun _ hk => hk.2) (.slice Ao17 t364.length co17)) (fun _ hk => trivial)⟩, ⟨by (with_reducible repeat (first|apply Kd.V_alloc|apply Kd.V_drewN|apply Kd.V_drew));exact Kd.V_mono (Kd.V_far (p := ⟨gb367, 2, none⟩) (Kd.V_far (p := ⟨gb367, 1, none⟩) (Kd.V_far (p := ⟨gb367, 0, none⟩) (Kd.V_mono HO366.out (fun k_ hk => (⟨hk, hk.2⟩ : _ ∧ k_ ≠ gb367))) (fun _ hk => hk.2) (.int .i64 t360)) (fun _ hk => hk.2) (.slice Ao16 t361.length co16)) (fun _ hk => hk.2) (.slice Ao17 t364.length co17)) (fun _ hk => ⟨hk.1.1, hk.1.2⟩)⟩, ⟨by (with_reducible repeat (first|refine blk_drewN ?_ _|refine blk_drew ?_|refine blk_alloc ?_ _));refine blk_put (cs := #[.int .i64 t360, .slice Ao16 t361.length co16, .slice none 0 0]) ?_ 2 _ rfl;(with_reducible repeat (first|refine blk_drewN ?_ _|refine blk_drew ?_|refine blk_alloc ?_ _));refine blk_put (cs := #[.int .i64 t360, .slice none 0 0, .slice none 0 0]) ?_ 1 _ rfl;(with_reducible repeat (first|refine blk_drewN ?_ _|refine blk_drew ?_|refine blk_alloc ?_ _));refine blk_put (cs := #[.int .i64 0, .slice none 0 0, .slice none 0 0]) ?_ 0 _ rfl;(with_reducible repeat (first|refine blk_drewN ?_ _|refine blk_drew ?_|refine blk_alloc ?_ _));exact BK367.out⟩, ⟨by repeat (first|(with_reducible first|apply bA|apply bN|apply bD|refine below_set ?_ GE367.out)|exact HB.out)⟩⟩
     ·rw [if_neg c19] at H
      have c19b0 : decide (((strOfNums t364).size : Int) < 7) = false := decide_eq_false c19
      have c19b1 : decide ((strOfNums t364).size < 7) = false := decide_eq_false (by omega)
      clear c19
      (first|rw [c19b0]|(simp only [i64_w, i32_w];rw [c19b0])|skip)
      by_cases c20 : 0 ≤ 7
      ·rw [if_pos c20] at H
       have c20b0 := eq_true c20
       have c20b1 : decide (0 ≤ 7) = true := decide_eq_true c20
       clear c20
       by_cases c21 : 7 ≤ ((strOfNums t364).size : Int)
       ·rw [if_pos c21] at H
        have c21b0 := eq_true c21
        have c21b1 : decide (7 ≤ ((strOfNums t364).size : Int)) = true := decide_eq_true c21
        clear c21
        have H' := aK H
        clear H
        go_wp2
        go_meet
        case rel => exact ⟨_, ((((strOfNums t364).extract 0 7).toList != ([117, 115, 101, 114, 32, 117, 10] : List UInt8))), (by first|rfl|(simp;done)|(simp [*];done)), H', ⟨by first|omega|exact Nat.le_refl _⟩, ⟨by (with_reducible repeat (first|apply Kd.R_alloc|apply Kd.R_drewN|apply Kd.R_drew));exact Kd.R_mono (Kd.R_far (p := ⟨gb367, 2, none⟩) (Kd.R_far (p := ⟨gb367, 1, none⟩) (Kd.R_far (p := ⟨gb367, 0, none⟩) (Kd.R_types HO363.out BK367.out (by decide)) (fun _ hk => hk.2) (.int .i64 t360)) (fun _ hk => hk.2) (.slice Ao16 t361.length co16)) (fun _ hk => hk.2) (.slice Ao17 t364.length co17)) (fun _ hk => trivial)⟩, ⟨by (with_reducible repeat (first|apply Kd.V_alloc|apply Kd.V_drewN|apply Kd.V_drew));exact Kd.V_mono (Kd.V_far (p := ⟨gb367, 2, none⟩) (Kd.V_far (p := ⟨gb367, 1, none⟩) (Kd.V_far (p := ⟨gb367, 0, none⟩) (Kd.V_mono HO366.out (fun k_ hk => (⟨hk, hk.2⟩ : _ ∧ k_ ≠ gb367))) (fun _ hk => hk.2) (.int .i64 t360)) (fun _ hk => hk.2) (.slice Ao16 t361.length co16)) (fun _ hk => hk.2) (.slice Ao17 t364.length co17)) (fun _ hk => ⟨hk.1.1, hk.1.2⟩)⟩, ⟨by (with_reducible repeat (first|refine blk_drewN ?_ _|refine blk_drew ?_|refine blk_alloc ?_ _));refine blk_put (cs := #[.int .i64 t360, .slice Ao16 t361.length co16, .slice none 0 0]) ?_ 2 _ rfl;(with_reducible repeat (first|refine blk_drewN ?_ _|refine blk_drew ?_|refine blk_alloc ?_ _));refine blk_put (cs := #[.int .i64 t360, .slice none 0 0, .slice none 0 0]) ?_ 1 _ rfl;(with_reducible repeat (first|refine blk_drewN ?_ _|refine blk_drew ?_|refine blk_alloc ?_ _));refine blk_put (cs := #[.int .i64 0, .slice none 0 0, .slice none 0 0]) ?_ 0 _ rfl;(with_reducible repeat (first|refine blk_drewN ?_ _|refine blk_drew ?_|refine blk_alloc ?_ _));exact BK367.out⟩, ⟨by repeat (first|(with_reducible first|apply bA|apply bN|apply bD|refine below_set ?_ GE367.out)|exact HB.out)⟩⟩
       ·rw [if_neg c21] at H
        exact absurd H (by simp)
      ·rw [if_neg c20] at H
       exact absurd H (by simp)
    case rest =>
     clear HC11
     try clear c1
     try clear hcv1
     try clear c2
     try clear p2
     try clear c3
     try clear c3b0
     try clear c3b1
     try clear c7
     try clear c7b0
     try clear c7b1
     try clear c8
     try clear c8b0
     try clear c8b1
     try clear c10
     try clear c13
     try clear hcv18
     try clear c19
     try clear c19b0
     try clear c19b1
     try clear c20
     try clear c20b0
     try clear c20b1
     try clear c21
     try clear c21b0
     try clear c21b1
     try clear hcz15_0
     try clear hcz15_1
     try clear hcz15_2
     try clear hfz15_0
     try clear hfz15_1
     try clear hfz15_2
     obtain ⟨kq, x32_10, rfl, HA, HJ10, HO_368001, HO_368002, BK367, HB⟩ := hcut
     cases kq with
     | zero => exact absurd HA.out (by simp [wicketmanlaw19_GateEscapes.j0])
     | succ kj10 =>
      have H := HA.out
      clear HA
      simp only [wicketmanlaw19_GateEscapes.j0] at H
      by_cases c22 : x32_10 = true
      ·subst c22
       rw [if_pos rfl] at H
       exact absurd (Option.some.inj H) (by rw [hTR.out];decide)
      ·replace c22 := Bool.eq_false_iff.mpr c22
       subst c22
       rw [if_neg (show ¬ (false = true) by decide)] at H
       have H' := aK H
       clear H
       go_wp2
       go_loopg [7] kj10 (fun kq v7 w' => ∃ (x7_2 : Int), v7 = .int .i64 x7_2 ∧ Aside0 (wicketmanlaw19_GateEscapes.l0 kq a1 (strOfNums t364) x7_2 = some r) ∧ Aside0 (kq ≤ kj10) ∧ Aside0 (Kd.R k76 76 w' w.heap.size (fun _ => True) (.slice Ao16 t361.length co16) t361) ∧ Aside0 (Kd.V (Kd.int .u8) 5 w' w.heap.size (fun k_ => some k_ ≠ ((.slice Ao16 t361.length co16) : Value).ownBlock ∧ k_ ≠ gb367) (.slice Ao17 t364.length co17) t364) ∧ Aside0 (w'.heap[gb367]? = some (.cells #[.int .i64 t360, (.slice Ao16 t361.length co16), (.slice Ao17 t364.length co17)] 71 (0, 0))) ∧ Aside0 (Below w.heap.size w w'))
       case atStart => exact ⟨(0), (by first|rfl|(simp;done)|(simp [*];done)), H', ⟨Nat.le_refl _⟩, ⟨by (with_reducible repeat (first|apply Kd.R_alloc|apply Kd.R_drewN|apply Kd.R_drew));exact HO_368001.out⟩, ⟨by (with_reducible repeat (first|apply Kd.V_alloc|apply Kd.V_drewN|apply Kd.V_drew));exact HO_368002.out⟩, ⟨by (with_reducible repeat (first|refine blk_drewN ?_ _|refine blk_drew ?_|refine blk_alloc ?_ _));exact BK367.out⟩, ⟨by repeat (first|(with_reducible first|apply bA|apply bN|apply bD|refine below_set ?_ GE367.out)|exact HB.out)⟩⟩
       case round =>
        clear H'
        try clear c1
        try clear hcv1
        try clear c2
        try clear p2
        try clear c3
        try clear c3b0
        try clear c3b1
        try clear c7
        try clear c7b0
        try clear c7b1
        try clear c8
        try clear c8b0
        try clear c8b1
        try clear c10
        try clear c13
        try clear hcv18
        try clear c19
        try clear c19b0
        try clear c19b1
        try clear c20
        try clear c20b0
        try clear c20b1
        try clear c21
        try clear c21b0
        try clear c21b1
        try clear c22
        try clear hcz15_0
        try clear hcz15_1
        try clear hcz15_2
        try clear hfz15_0
        try clear hfz15_1
        try clear hfz15_2
        try clear p2
        obtain ⟨x7_2, rfl, HA, HK2, HO_368001, HO_368002, BK367, HB⟩ := hrel
        cases gk with
        | zero => exact absurd HA.out (by simp [wicketmanlaw19_GateEscapes.l0])
        | succ k2 =>
         have H := HA.out
         clear HA
         simp only [wicketmanlaw19_GateEscapes.l0] at H
         by_cases c23 : x7_2 < ((strOfNums t364).size : Int)
         ·rw [if_pos c23] at H
          have c23b0 : decide (x7_2 < ((strOfNums t364).size : Int)) = true := decide_eq_true c23
          clear c23
          by_cases c24 : 0 ≤ x7_2
          ·rw [if_pos c24] at H
           have c24b0 : decide (0 ≤ x7_2) = true := decide_eq_true c24
           clear c24
           by_cases c26 : (bt (strOfNums t364) x7_2) = 60
           ·rw [if_pos c26] at H
            have c26b0 : ((bt (strOfNums t364) x7_2) == 60) = true := beq_iff_eq.mpr c26
            have c26b1 : ((bt (strOfNums t364) x7_2) != 60) = false := bne_eq_false_iff_eq.mpr c26
            clear c26
            exact absurd (Option.some.inj H) (by rw [hTR.out];decide)
           ·rw [if_neg c26] at H
            have c26b0 : ((bt (strOfNums t364) x7_2) == 60) = false := beq_eq_false_iff_ne.mpr c26
            have c26b1 : ((bt (strOfNums t364) x7_2) != 60) = true := bne_iff_ne.mpr c26
            by_cases c28 : (bt (strOfNums t364) x7_2) = 62
            ·rw [if_pos c28] at H
             have c28b0 : ((bt (strOfNums t364) x7_2) == 62) = true := beq_iff_eq.mpr c28
             have c28b1 : ((bt (strOfNums t364) x7_2) != 62) = false := bne_eq_false_iff_eq.mpr c28
             clear c28
             exact absurd (Option.some.inj H) (by rw [hTR.out];decide)
            ·rw [if_neg c28] at H
             have c28b0 : ((bt (strOfNums t364) x7_2) == 62) = false := beq_eq_false_iff_ne.mpr c28
             have c28b1 : ((bt (strOfNums t364) x7_2) != 62) = true := bne_iff_ne.mpr c28
             by_cases c30 : (bt (strOfNums t364) x7_2) = 34
             ·rw [if_pos c30] at H
              have c30b0 : ((bt (strOfNums t364) x7_2) == 34) = true := beq_iff_eq.mpr c30
              have c30b1 : ((bt (strOfNums t364) x7_2) != 34) = false := bne_eq_false_iff_eq.mpr c30
              clear c30
              exact absurd (Option.some.inj H) (by rw [hTR.out];decide)
             ·rw [if_neg c30] at H
              have c30b0 : ((bt (strOfNums t364) x7_2) == 34) = false := beq_eq_false_iff_ne.mpr c30
              have c30b1 : ((bt (strOfNums t364) x7_2) != 34) = true := bne_iff_ne.mpr c30
              by_cases c32 : (bt (strOfNums t364) x7_2) = 39
              ·rw [if_pos c32] at H
               have c32b0 : ((bt (strOfNums t364) x7_2) == 39) = true := beq_iff_eq.mpr c32
               have c32b1 : ((bt (strOfNums t364) x7_2) != 39) = false := bne_eq_false_iff_eq.mpr c32
               clear c32
               exact absurd (Option.some.inj H) (by rw [hTR.out];decide)
              ·rw [if_neg c32] at H
               have c32b0 : ((bt (strOfNums t364) x7_2) == 39) = false := beq_eq_false_iff_ne.mpr c32
               have c32b1 : ((bt (strOfNums t364) x7_2) != 39) = true := bne_iff_ne.mpr c32
               have H' := aK H
               clear H
               have p25 : 0 ≤ (x7_2 : Int) := of_decide_eq_true (by first|(with_reducible assumption)|assumption)
               have q25 : x7_2 < ((strOfNums t364).size : Int) := of_decide_eq_true (by first|(with_reducible assumption)|assumption)
               have hx25 := bt_at (strOfNums t364) x7_2
               replace p25 := eq_true p25
               replace q25 := eq_true q25
               have p27 : 0 ≤ (x7_2 : Int) := of_decide_eq_true (by first|(with_reducible assumption)|assumption)
               have q27 : x7_2 < ((strOfNums t364).size : Int) := of_decide_eq_true (by first|(with_reducible assumption)|assumption)
               have hx27 := bt_at (strOfNums t364) x7_2
               replace p27 := eq_true p27
               replace q27 := eq_true q27
               have p29 : 0 ≤ (x7_2 : Int) := of_decide_eq_true (by first|(with_reducible assumption)|assumption)
               have q29 : x7_2 < ((strOfNums t364).size : Int) := of_decide_eq_true (by first|(with_reducible assumption)|assumption)
               have hx29 := bt_at (strOfNums t364) x7_2
               replace p29 := eq_true p29
               replace q29 := eq_true q29
               have p31 : 0 ≤ (x7_2 : Int) := of_decide_eq_true (by first|(with_reducible assumption)|assumption)
               have q31 : x7_2 < ((strOfNums t364).size : Int) := of_decide_eq_true (by first|(with_reducible assumption)|assumption)
               have hx31 := bt_at (strOfNums t364) x7_2
               replace p31 := eq_true p31
               replace q31 := eq_true q31
               go_wp2
               go_roundg k2
               case measure => have := HJ10.out;have := HK2.out;omega
               case rel => exact ⟨(wrap64 (x7_2 + 1)), (by first|rfl|(simp;done)|(simp [*];done)), H', ⟨by have := HJ10.out;have := HK2.out;omega⟩, ⟨by (with_reducible repeat (first|apply Kd.R_alloc|apply Kd.R_drewN|apply Kd.R_drew));exact HO_368001.out⟩, ⟨by (with_reducible repeat (first|apply Kd.V_alloc|apply Kd.V_drewN|apply Kd.V_drew));exact HO_368002.out⟩, ⟨by (with_reducible repeat (first|refine blk_drewN ?_ _|refine blk_drew ?_|refine blk_alloc ?_ _));exact BK367.out⟩, ⟨by repeat (first|(with_reducible first|apply bA|apply bN|apply bD|refine below_set ?_ GE367.out)|exact HB.out)⟩⟩
          ·rw [if_neg c24] at H
           exact absurd H (by simp)
         ·rw [if_neg c23] at H
          have c23b0 : decide (x7_2 < ((strOfNums t364).size : Int)) = false := decide_eq_false c23
          clear c23
          replace H := Option.bind_eq_some_iff.mp H
          obtain ⟨t368, A330, H⟩ := H
          try dsimp only at H
          have A33 := aK A330
          clear A330
          by_cases c34 : t368 = true
          ·subst c34
           rw [if_pos rfl] at H
           obtain ⟨ji35, hji35⟩ : ∃ j_ : Int, (wrap64 (((strOfNums t364).size : Int) - 1)) = j_ := ⟨_, rfl⟩
           replace H : (if 0 ≤ (ji35) then (if (ji35) < ((strOfNums t364).size : Int) then (if (bt (strOfNums t364) (ji35)) = 10 then (if a1.toList = ([] : List UInt8) then (some true) else (if 7 ≤ 12 then (if 12 ≤ ((strOfNums t364).size : Int) then (some (((strOfNums t364).extract 7 12).toList == ([110, 111, 116, 101, 32] : List UInt8))) else (none)) else (none))) else (some false)) else (none)) else (none)) = some r := by first|(rw [hji35] at H;exact H)|(simp only [hji35] at H ⊢;exact H)
           (try rw [hji35] at A33)
           have hji35w : (IntKind.i64.wrap (((strOfNums t364).size : Int) - 1)) = ji35 := (i64_w _).trans hji35
           by_cases c36 : 0 ≤ (ji35)
           ·rw [if_pos c36] at H
            have c36b0 : decide (0 ≤ (ji35)) = true := decide_eq_true c36
            clear c36
            by_cases c37 : (ji35) < ((strOfNums t364).size : Int)
            ·rw [if_pos c37] at H
             have c37b0 : decide ((ji35) < ((strOfNums t364).size : Int)) = true := decide_eq_true c37
             clear c37
             by_cases c39 : (bt (strOfNums t364) (ji35)) = 10
             ·rw [if_pos c39] at H
              have c39b0 : ((bt (strOfNums t364) (ji35)) == 10) = true := beq_iff_eq.mpr c39
              have c39b1 : ((bt (strOfNums t364) (ji35)) != 10) = false := bne_eq_false_iff_eq.mpr c39
              clear c39
              by_cases c40 : a1.toList = ([] : List UInt8)
              ·rw [if_pos c40] at H
               have c40b0 : (a1.toList == ([] : List UInt8)) = true := beq_iff_eq.mpr c40
               have c40b1 : (a1.toList != ([] : List UInt8)) = false := bne_eq_false_iff_eq.mpr c40
               clear c40
               obtain rfl := Option.some.inj H
               go_wp2_with (first|((with_reducible refine gate_callee (f := 13) rfl ?_);refine goesL_ (some 61) rfl rfl Tryz.func13 (by kernel_rfl) rfl #[] rfl (by (try simp only [List.map_toArray, List.map_cons, List.map_nil]);first|done|rfl|(simp only [List.length_drop, List.length_take];rfl)) ?_;(with_reducible refine (wicketmanlaw19_known.calls  true _ (by first|exact hS|(refine Sh.of_below hS ?_;repeat (first|(with_reducible first|apply bA|apply bN|apply bD)|exact HB.out|refine Below.setCell ?_ (Aside0.out (by assumption)) _))|(refine Sh.of_below hS ?_;assumption)) (by first|exact hT|(refine Tb.of_below hT ?_;repeat (first|(with_reducible first|apply bA|apply bN|apply bD)|exact HB.out|refine Below.setCell ?_ (Aside0.out (by assumption)) _))|(refine Tb.of_below hT ?_;assumption)) (by first|exact hTR|exact aK rfl|exact aK (by assumption)|exact aK (of_eq_true (by assumption))|exact aK (wicketmanlaw19_known.true_ _ A33.out)|exact aK (by simp_all)) A33.out).mono ?_);rintro e w41 ⟨rfl, hb⟩;refine ⟨_, rfl, ?_⟩;have n0_ := aK (Kd.R_below (by (with_reducible repeat (first|apply Kd.R_alloc|apply Kd.R_drewN|apply Kd.R_drew));exact HO_368001.out) hb);have n1_ := aK (Kd.V_below (by (with_reducible repeat (first|apply Kd.V_alloc|apply Kd.V_drewN|apply Kd.V_drew));exact HO_368002.out) hb);have n2_ := aK (blk_below (g := gb367) (o := .cells #[.int .i64 t360, .slice Ao16 t361.length co16, .slice Ao17 t364.length co17] 71 (0, 0)) (by (with_reducible repeat (first|refine blk_drewN ?_ _|refine blk_drew ?_|refine blk_alloc ?_ _));exact BK367.out) hb);have n3_ := aK (below_step (by repeat (first|(with_reducible first|apply bA|apply bN|apply bD|refine below_set ?_ GE367.out)|exact HB.out)) hb);clear HO_368001;clear HO_368002;clear BK367;clear HB;have HO_368001 := n0_;have HO_368002 := n1_;have BK367 := n2_;have HB := n3_;clear n0_ n1_ n2_ n3_;try clear hb;have p38 : 0 ≤ ((ji35) : Int) := of_decide_eq_true (by first|(with_reducible assumption)|assumption);have q38 : (ji35) < ((strOfNums t364).size : Int) := of_decide_eq_true (by first|(with_reducible assumption)|assumption);have hx38 := bt_at (strOfNums t364) (ji35);replace p38 := eq_true p38;replace q38 := eq_true q38))
               go_ret
               exact ⟨by first|rfl|(simp [errW_none, errW_some] <;> rfl)|(simp only [← hji6, ← hji35];first|rfl|(simp [errW_none, errW_some] <;> rfl))|(simp [*, errW_none, errW_some] <;> rfl), by repeat (first|(with_reducible first|apply bA|apply bN|apply bD|refine below_set ?_ GE367.out)|exact HB.out)⟩
              ·rw [if_neg c40] at H
               have c40b0 : (a1.toList == ([] : List UInt8)) = false := beq_eq_false_iff_ne.mpr c40
               have c40b1 : (a1.toList != ([] : List UInt8)) = true := bne_iff_ne.mpr c40
               by_cases c42 : 7 ≤ 12
               ·rw [if_pos c42] at H
                have c42b0 := eq_true c42
                have c42b1 : decide (7 ≤ 12) = true := decide_eq_true c42
                clear c42
                by_cases c43 : 12 ≤ ((strOfNums t364).size : Int)
                ·rw [if_pos c43] at H
                 have c43b0 := eq_true c43
                 have c43b1 : decide (12 ≤ ((strOfNums t364).size : Int)) = true := decide_eq_true c43
                 clear c43
                 obtain rfl := Option.some.inj H
                 go_wp2_with (first|((with_reducible refine gate_callee (f := 13) rfl ?_);refine goesL_ (some 61) rfl rfl Tryz.func13 (by kernel_rfl) rfl #[] rfl (by (try simp only [List.map_toArray, List.map_cons, List.map_nil]);first|done|rfl|(simp only [List.length_drop, List.length_take];rfl)) ?_;(with_reducible refine (wicketmanlaw19_known.calls  true _ (by first|exact hS|(refine Sh.of_below hS ?_;repeat (first|(with_reducible first|apply bA|apply bN|apply bD)|exact HB.out|refine Below.setCell ?_ (Aside0.out (by assumption)) _))|(refine Sh.of_below hS ?_;assumption)) (by first|exact hT|(refine Tb.of_below hT ?_;repeat (first|(with_reducible first|apply bA|apply bN|apply bD)|exact HB.out|refine Below.setCell ?_ (Aside0.out (by assumption)) _))|(refine Tb.of_below hT ?_;assumption)) (by first|exact hTR|exact aK rfl|exact aK (by assumption)|exact aK (of_eq_true (by assumption))|exact aK (wicketmanlaw19_known.true_ _ A33.out)|exact aK (by simp_all)) A33.out).mono ?_);rintro e w44 ⟨rfl, hb⟩;refine ⟨_, rfl, ?_⟩;have n0_ := aK (Kd.R_below (by (with_reducible repeat (first|apply Kd.R_alloc|apply Kd.R_drewN|apply Kd.R_drew));exact HO_368001.out) hb);have n1_ := aK (Kd.V_below (by (with_reducible repeat (first|apply Kd.V_alloc|apply Kd.V_drewN|apply Kd.V_drew));exact HO_368002.out) hb);have n2_ := aK (blk_below (g := gb367) (o := .cells #[.int .i64 t360, .slice Ao16 t361.length co16, .slice Ao17 t364.length co17] 71 (0, 0)) (by (with_reducible repeat (first|refine blk_drewN ?_ _|refine blk_drew ?_|refine blk_alloc ?_ _));exact BK367.out) hb);have n3_ := aK (below_step (by repeat (first|(with_reducible first|apply bA|apply bN|apply bD|refine below_set ?_ GE367.out)|exact HB.out)) hb);clear HO_368001;clear HO_368002;clear BK367;clear HB;have HO_368001 := n0_;have HO_368002 := n1_;have BK367 := n2_;have HB := n3_;clear n0_ n1_ n2_ n3_;try clear hb;have p38 : 0 ≤ ((ji35) : Int) := of_decide_eq_true (by first|(with_reducible assumption)|assumption);have q38 : (ji35) < ((strOfNums t364).size : Int) := of_decide_eq_true (by first|(with_reducible assumption)|assumption);have hx38 := bt_at (strOfNums t364) (ji35);replace p38 := eq_true p38;replace q38 := eq_true q38))
                 go_ret
                 exact ⟨by first|rfl|(simp [errW_none, errW_some] <;> rfl)|(simp only [← hji6, ← hji35];first|rfl|(simp [errW_none, errW_some] <;> rfl))|(simp [*, errW_none, errW_some] <;> rfl), by repeat (first|(with_reducible first|apply bA|apply bN|apply bD|refine below_set ?_ GE367.out)|exact HB.out)⟩
                ·rw [if_neg c43] at H
                 exact absurd H (by simp)
               ·rw [if_neg c42] at H
                exact absurd H (by simp)
             ·rw [if_neg c39] at H
              have c39b0 : ((bt (strOfNums t364) (ji35)) == 10) = false := beq_eq_false_iff_ne.mpr c39
              have c39b1 : ((bt (strOfNums t364) (ji35)) != 10) = true := bne_iff_ne.mpr c39
              exact absurd (Option.some.inj H) (by rw [hTR.out];decide)
            ·rw [if_neg c37] at H
             exact absurd H (by simp)
           ·rw [if_neg c36] at H
            exact absurd H (by simp)
          ·replace c34 := Bool.eq_false_iff.mpr c34
           subst c34
           rw [if_neg (show ¬ (false = true) by decide)] at H
           exact absurd (Option.some.inj H) (by rw [hTR.out];decide)
   ·rw [if_neg c8] at H
    exact absurd H (by simp)
  ·rw [if_neg c7] at H
   exact absurd H (by simp)
end Go.Proofs.YthdiiiopjkaifaaGreatDoor.Pall

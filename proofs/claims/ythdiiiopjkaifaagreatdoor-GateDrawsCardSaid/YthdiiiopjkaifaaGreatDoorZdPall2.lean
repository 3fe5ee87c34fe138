import Derived.Test.YthdiiiopjkaifaaGreatDoorZdPall0
namespace Go.Proofs.YthdiiiopjkaifaaGreatDoor.Pall
open Go.RowKit Go.Proofs.YthdiiiopjkaifaaGreatDoorW.PrintWords Go.Proofs.YthdiiiopjkaifaaGreatDoorW.PrintLast
set_option linter.unusedVariables false
set_option linter.unusedSimpArgs false
def cookie_one.j0 : Nat → ByteArray → ByteArray → Bool → Bool → Option (ByteArray × ByteArray × Bool)
 | 0, _, _, _, _ => none
 | k + 1, x4, x5, x6, x23 => if x23 = true then (if 1 ≤ (wrap64 ((x5.size : Int) - 1)) then (if (wrap64 ((x5.size : Int) - 1)) ≤ (x5.size : Int) then (if x6 = true then ((head_Token.f x4).bind fun t107 => (if t107 = true then ((cookie_octets.f (x5.extract 1 ((wrap64 ((x5.size : Int) - 1)) : Int).toNat)).bind fun t108 => (some (x4, x5.extract 1 ((wrap64 ((x5.size : Int) - 1)) : Int).toNat, t108))) else (some (x4, x5.extract 1 ((wrap64 ((x5.size : Int) - 1)) : Int).toNat, false)))) else (some (x4, x5.extract 1 ((wrap64 ((x5.size : Int) - 1)) : Int).toNat, false))) else (none)) else (none)) else (if x6 = true then ((head_Token.f x4).bind fun t109 => (if t109 = true then ((cookie_octets.f x5).bind fun t110 => (some (x4, x5, t110))) else (some (x4, x5, false)))) else (some (x4, x5, false)))
def cookie_one.f (k : Nat) (a0 : ByteArray) : Option (ByteArray × ByteArray × Bool) := (strings_Cut.f a0 (⟨#[61]⟩ : BA)).bind fun bt102 => (if (bt102.2.1.size : Int) ≥ 2 then ((strings_HasPrefix.f bt102.2.1 (⟨#[34]⟩ : BA)).bind fun t105 => (if t105 = true then ((strings_HasSuffix.f bt102.2.1 (⟨#[34]⟩ : BA)).bind fun t106 => (cookie_one.j0 k bt102.1 bt102.2.1 bt102.2.2 t106)) else (cookie_one.j0 k bt102.1 bt102.2.1 bt102.2.2 false))) else (cookie_one.j0 k bt102.1 bt102.2.1 bt102.2.2 false))
theorem cookie_one.mono_l : ∀ k, (∀ y0 y1 y2 y3, LeO (cookie_one.j0 k y0 y1 y2 y3) (cookie_one.j0 (k + 1) y0 y1 y2 y3))
 | 0 => fun _ _ _ _ r h => by simp [cookie_one.j0] at h
 | k + 1 => by
  have ih0 := cookie_one.mono_l k
  ·intro y0 y1 y2 y3
   unfold cookie_one.j0
   repeat' first|(with_reducible first|exact ih0 _ _ _ _|exact LeO.refl _|exact LeO.none _|refine LeO.ite ?_ ?_|refine LeO.bind ?_ (fun _ => ?_))|exact LeO.none _|refine LeO.ite ?_ ?_|refine LeO.bind ?_ (fun _ => ?_)
theorem cookie_one.mono : ∀ a0 k, LeO (cookie_one.f k a0) (cookie_one.f (k + 1) a0) := by
 intro a0 k
 have ih0 := cookie_one.mono_l k
 unfold cookie_one.f
 repeat' first|(with_reducible first|exact ih0 _ _ _ _|exact LeO.refl _|exact LeO.none _|refine LeO.ite ?_ ?_|refine LeO.bind ?_ (fun _ => ?_))|exact LeO.none _|refine LeO.ite ?_ ?_|refine LeO.bind ?_ (fun _ => ?_)
set_option maxHeartbeats 8000000 in
set_option maxRecDepth 100000 in
theorem cookie_one.calls (k : Nat) (a0 : ByteArray) (r1 : ByteArray) (r2 : ByteArray) (r3 : Bool) (w : World) (hS : Sh w) (h : cookie_one.f k a0 = some (r1, r2, r3)) :
  Calls Tryz.prog 174 #[.string a0] w fun e w' => e = .returned (.tuple #[.agg #[.string r1, .string r2], .bool r3]) ∧ Below w.heap.size w w' := by
 have hu76 := Tryz.underlying76
 have HB := aK (Below.refl w.heap.size w)
 have H : ((strings_Cut.f a0 (⟨#[61]⟩ : BA)).bind fun bt102 => (if (bt102.2.1.size : Int) ≥ 2 then ((strings_HasPrefix.f bt102.2.1 (⟨#[34]⟩ : BA)).bind fun t105 => (if t105 = true then ((strings_HasSuffix.f bt102.2.1 (⟨#[34]⟩ : BA)).bind fun t106 => (cookie_one.j0 k bt102.1 bt102.2.1 bt102.2.2 t106)) else (cookie_one.j0 k bt102.1 bt102.2.1 bt102.2.2 false))) else (cookie_one.j0 k bt102.1 bt102.2.1 bt102.2.2 false))) = some (r1, r2, r3) := h
 clear h
 replace H := Option.bind_eq_some_iff.mp H
 obtain ⟨⟨t102, t103, t104⟩, A20, H⟩ := H
 try dsimp only at H
 have A2 := aK A20
 clear A20
 have HC3 := aK H
 clear H
 go_enter Tryz.func174, Tryz.ntmps174
 go_upto_region 2 with (first|((with_reducible refine gate_dst (N := 2) rfl ?_);refine box_event ?hg (N := 2) ?hd (cs := #[.string (⟨#[]⟩ : BA), .string (⟨#[]⟩ : BA)]) (t := 76) ?hr ?_;(case hd => rfl);(case hg => rfl);(case hr => first|(go_simp;done)|(go_simp;rfl));intro gb101 hg w4 hbox hb;have n0_ := aK (below_step (by repeat (first|(with_reducible first|apply bA|apply bN|apply bD)|exact HB.out)) hb);have n1_ := aK (hbox);have n2_ := aK ((by rw [hg];exact (below_size (by repeat (first|(with_reducible first|apply bA|apply bN|apply bD)|exact HB.out))) : w.heap.size ≤ gb101));have n3_ := aK ((by rw [hg];exact (below_size (by repeat (first|(with_reducible first|apply bA|apply bN|apply bD)|exact HB.out))) : w.heap.size ≤ gb101));clear HB;have HB := n0_;have BK101 := n1_;have GW101 := n2_;have GE101 := n3_;clear n0_ n1_ n2_ n3_;clear hb hbox hg)|((with_reducible refine gate_callee (f := 144) rfl ?_);refine goesL_ (some 9) rfl rfl Tryz.func144 (by kernel_rfl) rfl #[.string a0, .string (⟨#[61]⟩ : BA)] rfl (by (try simp only [List.map_toArray, List.map_cons, List.map_nil]);first|done|rfl|(simp only [List.length_drop, List.length_take];rfl)) ?_;(with_reducible refine (strings_Cut.calls a0 (⟨#[61]⟩ : BA) t102 t103 t104 _ (by first|exact hS|(refine Sh.of_below hS ?_;repeat (first|(with_reducible first|apply bA|apply bN|apply bD)|exact HB.out|refine Below.setCell ?_ (Aside0.out (by assumption)) _))|(refine Sh.of_below hS ?_;assumption)) A2.out).mono ?_);rintro e w5 ⟨rfl, hb⟩;refine ⟨_, rfl, ?_⟩;have n0_ := aK (blk_below (g := gb101) (o := .cells #[.string (⟨#[]⟩ : BA), .string (⟨#[]⟩ : BA)] 76 (0, 0)) (by (with_reducible repeat (first|refine blk_drewN ?_ _|refine blk_drew ?_|refine blk_alloc ?_ _));exact BK101.out) hb);have n1_ := aK (below_step (by repeat (first|(with_reducible first|apply bA|apply bN|apply bD|refine below_set ?_ GE101.out)|exact HB.out)) hb);clear BK101;clear HB;have BK101 := n0_;have HB := n1_;clear n0_ n1_;try clear hb))
 (try simp only [Act.put, List.setIfInBounds_toArray, List.set_cons_zero, List.set_cons_succ])
 go_cut [23] (fun v23 wc => ∃ (kq : Nat) (x23_2 : Bool), v23 = .bool x23_2 ∧ Aside0 (cookie_one.j0 kq t102 t103 t104 x23_2 = some (r1, r2, r3)) ∧ Aside0 (kq ≤ k) ∧ Aside0 (wc.heap[gb101]? = some (.cells #[.string (⟨#[]⟩ : BA), .string (⟨#[]⟩ : BA)] 76 (0, 0))) ∧ Aside0 (Below w.heap.size w wc))
 case first =>
  have H := HC3.out
  clear HC3
  by_cases c6 : (t103.size : Int) ≥ 2
  ·rw [if_pos c6] at H
   have c6b0 : decide (2 ≤ (t103.size : Int)) = true := decide_eq_true c6
   have c6b1 : decide (2 ≤ t103.size) = true := decide_eq_true (by omega)
   clear c6
   (first|rw [c6b0]|(simp only [i64_w, i32_w];rw [c6b0])|skip)
   replace H := Option.bind_eq_some_iff.mp H
   obtain ⟨t105, A70, H⟩ := H
   try dsimp only at H
   have A7 := aK A70
   clear A70
   by_cases c8 : t105 = true
   ·subst c8
    rw [if_pos rfl] at H
    replace H := Option.bind_eq_some_iff.mp H
    obtain ⟨t106, A90, H⟩ := H
    try dsimp only at H
    have A9 := aK A90
    clear A90
    have H' := aK H
    clear H
    go_wp2_with (first|(go_at_call 117;(with_reducible refine (strings_HasPrefix.calls t103 (⟨#[34]⟩ : BA) true _ A7.out).mono ?_);rintro e w' ⟨rfl, ⟨nd, rfl⟩⟩)|(go_at_call 221;(with_reducible refine (strings_HasSuffix.calls t103 (⟨#[34]⟩ : BA) t106 _ A9.out).mono ?_);rintro e w' ⟨rfl, ⟨nd, rfl⟩⟩))
    go_meet
    case rel => exact ⟨_, (t106), (by first|rfl|(simp;done)|(simp [*];done)), H', ⟨by first|omega|exact Nat.le_refl _⟩, ⟨by (with_reducible repeat (first|refine blk_drewN ?_ _|refine blk_drew ?_|refine blk_alloc ?_ _));exact BK101.out⟩, ⟨by repeat (first|(with_reducible first|apply bA|apply bN|apply bD|refine below_set ?_ GE101.out)|exact HB.out)⟩⟩
   ·replace c8 := Bool.eq_false_iff.mpr c8
    subst c8
    rw [if_neg (show ¬ (false = true) by decide)] at H
    have H' := aK H
    clear H
    go_wp2_with (first|(go_at_call 117;(with_reducible refine (strings_HasPrefix.calls t103 (⟨#[34]⟩ : BA) false _ A7.out).mono ?_);rintro e w' ⟨rfl, ⟨nd, rfl⟩⟩))
    go_meet
    case rel => exact ⟨_, (false), (by first|rfl|(simp;done)|(simp [*];done)), H', ⟨by first|omega|exact Nat.le_refl _⟩, ⟨by (with_reducible repeat (first|refine blk_drewN ?_ _|refine blk_drew ?_|refine blk_alloc ?_ _));exact BK101.out⟩, ⟨by repeat (first|(with_reducible first|apply bA|apply bN|apply bD|refine below_set ?_ GE101.out)|exact HB.out)⟩⟩
  ·rw [if_neg c6] at H
   have c6b0 : decide (2 ≤ (t103.size : Int)) = false := decide_eq_false c6
   have c6b1 : decide (2 ≤ t103.size) = false := decide_eq_false (by omega)
   clear c6
   (first|rw [c6b0]|(simp only [i64_w, i32_w];rw [c6b0])|skip)
   have H' := aK H
   clear H
   go_wp2
   go_meet
   case rel => exact ⟨_, (false), (by first|rfl|(simp;done)|(simp [*];done)), H', ⟨by first|omega|exact Nat.le_refl _⟩, ⟨by (with_reducible repeat (first|refine blk_drewN ?_ _|refine blk_drew ?_|refine blk_alloc ?_ _));exact BK101.out⟩, ⟨by repeat (first|(with_reducible first|apply bA|apply bN|apply bD|refine below_set ?_ GE101.out)|exact HB.out)⟩⟩
 case rest =>
  clear HC3
  try clear c1
  try clear p2
  try clear c6
  try clear c6b0
  try clear c6b1
  try clear c8
  obtain ⟨kq, x23_2, rfl, HA, HJ2, BK101, HB⟩ := hcut
  cases kq with
  | zero => exact absurd HA.out (by simp [cookie_one.j0])
  | succ kj2 =>
   have H := HA.out
   clear HA
   simp only [cookie_one.j0] at H
   by_cases c10 : x23_2 = true
   ·subst c10
    rw [if_pos rfl] at H
    by_cases c11 : 1 ≤ (wrap64 ((t103.size : Int) - 1))
    ·rw [if_pos c11] at H
     have c11b0 := eq_true c11
     have c11b1 : decide (1 ≤ (wrap64 ((t103.size : Int) - 1))) = true := decide_eq_true c11
     clear c11
     by_cases c12 : (wrap64 ((t103.size : Int) - 1)) ≤ (t103.size : Int)
     ·rw [if_pos c12] at H
      have c12b0 := eq_true c12
      have c12b1 : decide ((wrap64 ((t103.size : Int) - 1)) ≤ (t103.size : Int)) = true := decide_eq_true c12
      clear c12
      by_cases c13 : t104 = true
      ·subst c13
       rw [if_pos rfl] at H
       replace H := Option.bind_eq_some_iff.mp H
       obtain ⟨t107, A140, H⟩ := H
       try dsimp only at H
       have A14 := aK A140
       clear A140
       by_cases c15 : t107 = true
       ·subst c15
        rw [if_pos rfl] at H
        replace H := Option.bind_eq_some_iff.mp H
        obtain ⟨t108, A160, H⟩ := H
        try dsimp only at H
        have A16 := aK A160
        clear A160
        simp only [Option.some.injEq, Prod.mk.injEq] at H
        obtain ⟨rfl, rfl, rfl⟩ := H
        go_wp2_with (first|(go_at_call 121;(with_reducible refine (head_Token.calls t102 true _ A14.out).mono ?_);rintro e w17 ⟨rfl, hb⟩;have n0_ := aK (blk_below (g := gb101) (o := .cells #[.string (⟨#[]⟩ : BA), .string (⟨#[]⟩ : BA)] 76 (0, 0)) (by (with_reducible repeat (first|refine blk_drewN ?_ _|refine blk_drew ?_|refine blk_alloc ?_ _));exact BK101.out) hb);have n1_ := aK (below_step (by repeat (first|(with_reducible first|apply bA|apply bN|apply bD|refine below_set ?_ GE101.out)|exact HB.out)) hb);clear BK101;clear HB;have BK101 := n0_;have HB := n1_;clear n0_ n1_;try clear hb)|(go_at_call 122;(with_reducible refine (cookie_octets.calls (t103.extract 1 ((wrap64 ((t103.size : Int) - 1)) : Int).toNat) t108 _ A16.out).mono ?_);rintro e w18 ⟨rfl, hb⟩;have n0_ := aK (blk_below (g := gb101) (o := .cells #[.string (⟨#[]⟩ : BA), .string (⟨#[]⟩ : BA)] 76 (0, 0)) (by (with_reducible repeat (first|refine blk_drewN ?_ _|refine blk_drew ?_|refine blk_alloc ?_ _));exact BK101.out) hb);have n1_ := aK (below_step (by repeat (first|(with_reducible first|apply bA|apply bN|apply bD|refine below_set ?_ GE101.out)|exact HB.out)) hb);clear BK101;clear HB;have BK101 := n0_;have HB := n1_;clear n0_ n1_;try clear hb;have hcz19_0 : w18.cell? ⟨gb101, 0, none⟩ = some (.string (⟨#[]⟩ : BA)) := (blk_cell BK101.out 0).trans rfl;have hcz19_1 : w18.cell? ⟨gb101, 1, none⟩ = some (.string (⟨#[]⟩ : BA)) := (blk_cell BK101.out 1).trans rfl;have hfz19_0 := blk_frozen BK101.out 0;have hfz19_1 := blk_frozen BK101.out 1))
        refine bodyPost_ret (results_ct rfl _ _ gb101 76 #[.string t102, .string (t103.extract 1 ((wrap64 ((t103.size : Int) - 1)) : Int).toNat)] (0, 0) _ rfl (by (with_reducible repeat (first|refine blk_drewN ?_ _|refine blk_drew ?_|refine blk_alloc ?_ _));refine blk_put (cs := #[.string t102, .string (⟨#[]⟩ : BA)]) ?_ 1 _ rfl;(with_reducible repeat (first|refine blk_drewN ?_ _|refine blk_drew ?_|refine blk_alloc ?_ _));refine blk_put (cs := #[.string (⟨#[]⟩ : BA), .string (⟨#[]⟩ : BA)]) ?_ 0 _ rfl;(with_reducible repeat (first|refine blk_drewN ?_ _|refine blk_drew ?_|refine blk_alloc ?_ _));exact BK101.out) Tryz.underlying76 rfl (by kernel_rfl)) rfl ?_
        exact ⟨by first|rfl|(simp [errW_none, errW_some] <;> rfl)|(simp [*, errW_none, errW_some] <;> rfl), by repeat (first|(with_reducible first|apply bA|apply bN|apply bD|refine below_set ?_ GE101.out)|exact HB.out)⟩
       ·replace c15 := Bool.eq_false_iff.mpr c15
        subst c15
        rw [if_neg (show ¬ (false = true) by decide)] at H
        simp only [Option.some.injEq, Prod.mk.injEq] at H
        obtain ⟨rfl, rfl, rfl⟩ := H
        go_wp2_with (first|(go_at_call 121;(with_reducible refine (head_Token.calls t102 false _ A14.out).mono ?_);rintro e w20 ⟨rfl, hb⟩;have n0_ := aK (blk_below (g := gb101) (o := .cells #[.string (⟨#[]⟩ : BA), .string (⟨#[]⟩ : BA)] 76 (0, 0)) (by (with_reducible repeat (first|refine blk_drewN ?_ _|refine blk_drew ?_|refine blk_alloc ?_ _));exact BK101.out) hb);have n1_ := aK (below_step (by repeat (first|(with_reducible first|apply bA|apply bN|apply bD|refine below_set ?_ GE101.out)|exact HB.out)) hb);clear BK101;clear HB;have BK101 := n0_;have HB := n1_;clear n0_ n1_;try clear hb;have hcz21_0 : w20.cell? ⟨gb101, 0, none⟩ = some (.string (⟨#[]⟩ : BA)) := (blk_cell BK101.out 0).trans rfl;have hcz21_1 : w20.cell? ⟨gb101, 1, none⟩ = some (.string (⟨#[]⟩ : BA)) := (blk_cell BK101.out 1).trans rfl;have hfz21_0 := blk_frozen BK101.out 0;have hfz21_1 := blk_frozen BK101.out 1))
        refine bodyPost_ret (results_ct rfl _ _ gb101 76 #[.string t102, .string (t103.extract 1 ((wrap64 ((t103.size : Int) - 1)) : Int).toNat)] (0, 0) _ rfl (by (with_reducible repeat (first|refine blk_drewN ?_ _|refine blk_drew ?_|refine blk_alloc ?_ _));refine blk_put (cs := #[.string t102, .string (⟨#[]⟩ : BA)]) ?_ 1 _ rfl;(with_reducible repeat (first|refine blk_drewN ?_ _|refine blk_drew ?_|refine blk_alloc ?_ _));refine blk_put (cs := #[.string (⟨#[]⟩ : BA), .string (⟨#[]⟩ : BA)]) ?_ 0 _ rfl;(with_reducible repeat (first|refine blk_drewN ?_ _|refine blk_drew ?_|refine blk_alloc ?_ _));exact BK101.out) Tryz.underlying76 rfl (by kernel_rfl)) rfl ?_
        exact ⟨by first|rfl|(simp [errW_none, errW_some] <;> rfl)|(simp [*, errW_none, errW_some] <;> rfl), by repeat (first|(with_reducible first|apply bA|apply bN|apply bD|refine below_set ?_ GE101.out)|exact HB.out)⟩
      ·replace c13 := Bool.eq_false_iff.mpr c13
       subst c13
       rw [if_neg (show ¬ (false = true) by decide)] at H
       simp only [Option.some.injEq, Prod.mk.injEq] at H
       obtain ⟨rfl, rfl, rfl⟩ := H
       have hcz22_0 : wc.cell? ⟨gb101, 0, none⟩ = some (.string (⟨#[]⟩ : BA)) := (blk_cell BK101.out 0).trans rfl
       have hcz22_1 : wc.cell? ⟨gb101, 1, none⟩ = some (.string (⟨#[]⟩ : BA)) := (blk_cell BK101.out 1).trans rfl
       have hfz22_0 := blk_frozen BK101.out 0
       have hfz22_1 := blk_frozen BK101.out 1
       go_wp2
       refine bodyPost_ret (results_ct rfl _ _ gb101 76 #[.string t102, .string (t103.extract 1 ((wrap64 ((t103.size : Int) - 1)) : Int).toNat)] (0, 0) _ rfl (by (with_reducible repeat (first|refine blk_drewN ?_ _|refine blk_drew ?_|refine blk_alloc ?_ _));refine blk_put (cs := #[.string t102, .string (⟨#[]⟩ : BA)]) ?_ 1 _ rfl;(with_reducible repeat (first|refine blk_drewN ?_ _|refine blk_drew ?_|refine blk_alloc ?_ _));refine blk_put (cs := #[.string (⟨#[]⟩ : BA), .string (⟨#[]⟩ : BA)]) ?_ 0 _ rfl;(with_reducible repeat (first|refine blk_drewN ?_ _|refine blk_drew ?_|refine blk_alloc ?_ _));exact BK101.out) Tryz.underlying76 rfl (by kernel_rfl)) rfl ?_
       exact ⟨by first|rfl|(simp [errW_none, errW_some] <;> rfl)|(simp [*, errW_none, errW_some] <;> rfl), by repeat (first|(with_reducible first|apply bA|apply bN|apply bD|refine below_set ?_ GE101.out)|exact HB.out)⟩
     ·rw [if_neg c12] at H
      exact absurd H (by simp)
    ·rw [if_neg c11] at H
     exact absurd H (by simp)
   ·replace c10 := Bool.eq_false_iff.mpr c10
    subst c10
    rw [if_neg (show ¬ (false = true) by decide)] at H
    by_cases c23 : t104 = true
    ·subst c23
     rw [if_pos rfl] at H
     replace H := Option.bind_eq_some_iff.mp H
     obtain ⟨t109, A240, H⟩ := H
     try dsimp only at H
     have A24 := aK A240
     clear A240
     by_cases c25 : t109 = true
     ·subst c25
      rw [if_pos rfl] at H
      replace H := Option.bind_eq_some_iff.mp H
      obtain ⟨t110, A260, H⟩ := H
      try dsimp only at H
      have A26 := aK A260
      clear A260
      simp only [Option.some.injEq, Prod.mk.injEq] at H
      obtain ⟨rfl, rfl, rfl⟩ := H
      go_wp2_with (first|(go_at_call 121;(with_reducible refine (head_Token.calls t102 true _ A24.out).mono ?_);rintro e w27 ⟨rfl, hb⟩;have n0_ := aK (blk_below (g := gb101) (o := .cells #[.string (⟨#[]⟩ : BA), .string (⟨#[]⟩ : BA)] 76 (0, 0)) (by (with_reducible repeat (first|refine blk_drewN ?_ _|refine blk_drew ?_|refine blk_alloc ?_ _));exact BK101.out) hb);have n1_ := aK (below_step (by repeat (first|(with_reducible first|apply bA|apply bN|apply bD|refine below_set ?_ GE101.out)|exact HB.out)) hb);clear BK101;clear HB;have BK101 := n0_;have HB := n1_;clear n0_ n1_;try clear hb)|(go_at_call 122;(with_reducible refine (cookie_octets.calls t103 t110 _ A26.out).mono ?_);rintro e w28 ⟨rfl, hb⟩;have n0_ := aK (blk_below (g := gb101) (o := .cells #[.string (⟨#[]⟩ : BA), .string (⟨#[]⟩ : BA)] 76 (0, 0)) (by (with_reducible repeat (first|refine blk_drewN ?_ _|refine blk_drew ?_|refine blk_alloc ?_ _));exact BK101.out) hb);have n1_ := aK (below_step (by repeat (first|(with_reducible first|apply bA|apply bN|apply bD|refine below_set ?_ GE101.out)|exact HB.out)) hb);clear BK101;clear HB;have BK101 := n0_;have HB := n1_;clear n0_ n1_;try clear hb;have hcz29_0 : w28.cell? ⟨gb101, 0, none⟩ = some (.string (⟨#[]⟩ : BA)) := (blk_cell BK101.out 0).trans rfl;have hcz29_1 : w28.cell? ⟨gb101, 1, none⟩ = some (.string (⟨#[]⟩ : BA)) := (blk_cell BK101.out 1).trans rfl;have hfz29_0 := blk_frozen BK101.out 0;have hfz29_1 := blk_frozen BK101.out 1))
      refine bodyPost_ret (results_ct rfl _ _ gb101 76 #[.string t102, .string t103] (0, 0) _ rfl (by (with_reducible repeat (first|refine blk_drewN ?_ _|refine blk_drew ?_|refine blk_alloc ?_ _));refine blk_put (cs := #[.string t102, .string (⟨#[]⟩ : BA)]) ?_ 1 _ rfl;(with_reducible repeat (first|refine blk_drewN ?_ _|refine blk_drew ?_|refine blk_alloc ?_ _));refine blk_put (cs := #[.string (⟨#[]⟩ : BA), .string (⟨#[]⟩ : BA)]) ?_ 0 _ rfl;(with_reducible repeat (first|refine blk_drewN ?_ _|refine blk_drew ?_|refine blk_alloc ?_ _));exact BK101.out) Tryz.underlying76 rfl (by kernel_rfl)) rfl ?_
      exact ⟨by first|rfl|(simp [errW_none, errW_some] <;> rfl)|(simp [*, errW_none, errW_some] <;> rfl), by repeat (first|(with_reducible first|apply bA|apply bN|apply bD|refine below_set ?_ GE101.out)|exact HB.out)⟩
     ·replace c25 := Bool.eq_false_iff.mpr c25
      subst c25
      rw [if_neg (show ¬ (false = true) by decide)] at H
      simp only [Option.some.injEq, Prod.mk.injEq] at H
      obtain ⟨rfl, rfl, rfl⟩ := H
      go_wp2_with (first|(go_at_call 121;(with_reducible refine (head_Token.calls t102 false _ A24.out).mono ?_);rintro e w30 ⟨rfl, hb⟩;have n0_ := aK (blk_below (g := gb101) (o := .cells #[.string (⟨#[]⟩ : BA), .string (⟨#[]⟩ : BA)] 76 (0, 0)) (by (with_reducible repeat (first|refine blk_drewN ?_ _|refine blk_drew ?_|refine blk_alloc ?_ _));exact BK101.out) hb);have n1_ := aK (below_step (by repeat (first|(with_reducible first|apply bA|apply bN|apply bD|refine below_set ?_ GE101.out)|exact HB.out)) hb);clear BK101;clear HB;have BK101 := n0_;have HB := n1_;clear n0_ n1_;try clear hb;have hcz31_0 : w30.cell? ⟨gb101, 0, none⟩ = some (.string (⟨#[]⟩ : BA)) := (blk_cell BK101.out 0).trans rfl;have hcz31_1 : w30.cell? ⟨gb101, 1, none⟩ = some (.string (⟨#[]⟩ : BA)) := (blk_cell BK101.out 1).trans rfl;have hfz31_0 := blk_frozen BK101.out 0;have hfz31_1 := blk_frozen BK101.out 1))
      refine bodyPost_ret (results_ct rfl _ _ gb101 76 #[.string t102, .string t103] (0, 0) _ rfl (by (with_reducible repeat (first|refine blk_drewN ?_ _|refine blk_drew ?_|refine blk_alloc ?_ _));refine blk_put (cs := #[.string t102, .string (⟨#[]⟩ : BA)]) ?_ 1 _ rfl;(with_reducible repeat (first|refine blk_drewN ?_ _|refine blk_drew ?_|refine blk_alloc ?_ _));refine blk_put (cs := #[.string (⟨#[]⟩ : BA), .string (⟨#[]⟩ : BA)]) ?_ 0 _ rfl;(with_reducible repeat (first|refine blk_drewN ?_ _|refine blk_drew ?_|refine blk_alloc ?_ _));exact BK101.out) Tryz.underlying76 rfl (by kernel_rfl)) rfl ?_
      exact ⟨by first|rfl|(simp [errW_none, errW_some] <;> rfl)|(simp [*, errW_none, errW_some] <;> rfl), by repeat (first|(with_reducible first|apply bA|apply bN|apply bD|refine below_set ?_ GE101.out)|exact HB.out)⟩
    ·replace c23 := Bool.eq_false_iff.mpr c23
     subst c23
     rw [if_neg (show ¬ (false = true) by decide)] at H
     simp only [Option.some.injEq, Prod.mk.injEq] at H
     obtain ⟨rfl, rfl, rfl⟩ := H
     have hcz32_0 : wc.cell? ⟨gb101, 0, none⟩ = some (.string (⟨#[]⟩ : BA)) := (blk_cell BK101.out 0).trans rfl
     have hcz32_1 : wc.cell? ⟨gb101, 1, none⟩ = some (.string (⟨#[]⟩ : BA)) := (blk_cell BK101.out 1).trans rfl
     have hfz32_0 := blk_frozen BK101.out 0
     have hfz32_1 := blk_frozen BK101.out 1
     go_wp2
     refine bodyPost_ret (results_ct rfl _ _ gb101 76 #[.string t102, .string t103] (0, 0) _ rfl (by (with_reducible repeat (first|refine blk_drewN ?_ _|refine blk_drew ?_|refine blk_alloc ?_ _));refine blk_put (cs := #[.string t102, .string (⟨#[]⟩ : BA)]) ?_ 1 _ rfl;(with_reducible repeat (first|refine blk_drewN ?_ _|refine blk_drew ?_|refine blk_alloc ?_ _));refine blk_put (cs := #[.string (⟨#[]⟩ : BA), .string (⟨#[]⟩ : BA)]) ?_ 0 _ rfl;(with_reducible repeat (first|refine blk_drewN ?_ _|refine blk_drew ?_|refine blk_alloc ?_ _));exact BK101.out) Tryz.underlying76 rfl (by kernel_rfl)) rfl ?_
     exact ⟨by first|rfl|(simp [errW_none, errW_some] <;> rfl)|(simp [*, errW_none, errW_some] <;> rfl), by repeat (first|(with_reducible first|apply bA|apply bN|apply bD|refine below_set ?_ GE101.out)|exact HB.out)⟩
def head_Same.f (a0 : ByteArray) (a1 : ByteArray) : Option (Bool) := (head_small.f a0).bind fun t111 => ((head_small.f a1).bind fun t112 => (some (t111.toList == t112.toList)))
set_option maxHeartbeats 8000000 in
set_option maxRecDepth 100000 in
theorem head_Same.calls (a0 : ByteArray) (a1 : ByteArray) (r : Bool) (w : World) (h : head_Same.f a0 a1 = some r) :
  Calls Tryz.prog 124 #[.string a0, .string a1] w fun e w' => e = .returned (.bool r) ∧ Below w.heap.size w w' := by
 have HB := aK (Below.refl w.heap.size w)
 have H : ((head_small.f a0).bind fun t111 => ((head_small.f a1).bind fun t112 => (some (t111.toList == t112.toList)))) = some r := h
 clear h
 replace H := Option.bind_eq_some_iff.mp H
 obtain ⟨t111, A30, H⟩ := H
 try dsimp only at H
 have A3 := aK A30
 clear A30
 replace H := Option.bind_eq_some_iff.mp H
 obtain ⟨t112, A40, H⟩ := H
 try dsimp only at H
 have A4 := aK A40
 clear A40
 obtain rfl := Option.some.inj H
 go_enter Tryz.func124, Tryz.ntmps124
 go_wp2_with (first|((with_reducible refine gate_callee (f := 175) rfl ?_);refine goesL_ (some 6) rfl rfl Tryz.func175 (by kernel_rfl) rfl #[.string a0] rfl (by (try simp only [List.map_toArray, List.map_cons, List.map_nil]);first|done|rfl|(simp only [List.length_drop, List.length_take];rfl)) ?_;(with_reducible refine (head_small.calls a0 t111 _ A3.out).mono ?_);rintro e w5 ⟨rfl, hb⟩;refine ⟨_, rfl, ?_⟩;have n0_ := aK (below_step (by repeat (first|(with_reducible first|apply bA|apply bN|apply bD)|exact HB.out)) hb);clear HB;have HB := n0_;clear n0_;try clear hb)|((with_reducible refine gate_callee (f := 175) rfl ?_);refine goesL_ (some 8) rfl rfl Tryz.func175 (by kernel_rfl) rfl #[.string a1] rfl (by (try simp only [List.map_toArray, List.map_cons, List.map_nil]);first|done|rfl|(simp only [List.length_drop, List.length_take];rfl)) ?_;(with_reducible refine (head_small.calls a1 t112 _ A4.out).mono ?_);rintro e w6 ⟨rfl, hb⟩;refine ⟨_, rfl, ?_⟩;have n0_ := aK (below_step (by repeat (first|(with_reducible first|apply bA|apply bN|apply bD)|exact HB.out)) hb);clear HB;have HB := n0_;clear n0_;try clear hb))
 go_ret
 exact ⟨by first|rfl|(simp [errW_none, errW_some] <;> rfl)|(simp [*, errW_none, errW_some] <;> rfl), by repeat (first|(with_reducible first|apply bA|apply bN|apply bD)|exact HB.out)⟩
end Go.Proofs.YthdiiiopjkaifaaGreatDoor.Pall

import Derived.Test.YthdiiiopjkaifaaGreatDoorZdPall0
import Derived.Test.YthdiiiopjkaifaaGreatDoorZdPall7
namespace Go.Proofs.YthdiiiopjkaifaaGreatDoor.Pall
open Go.RowKit Go.Proofs.YthdiiiopjkaifaaGreatDoorW.PrintWords Go.Proofs.YthdiiiopjkaifaaGreatDoorW.PrintLast
set_option linter.unusedVariables false
set_option linter.unusedSimpArgs false
mutual
def wicketmanref08_Field.j1 : Nat → ByteArray → Int → Option (ByteArray × ByteArray × Int)
 | 0, _, _ => none
 | k + 1, x0, x4 => if x4 = (x0.size : Int) then (some ((⟨#[]⟩ : BA), (⟨#[]⟩ : BA), 12)) else (if 0 ≤ x4 then (if x4 ≤ (x0.size : Int) then (if 0 ≤ (wrap64 (x4 + 1)) then (if (wrap64 (x4 + 1)) ≤ (x0.size : Int) then ((wicketmanref08_trim.f k (x0.extract ((wrap64 (x4 + 1)) : Int).toNat x0.size)).bind fun t200 => ((wicketmanref08_Token.f k (x0.extract 0 (x4 : Int).toNat)).bind fun t202 => (if t202 = true then ((wicketmanref08_Value.f k t200).bind fun t203 => (if t203 = true then (some (x0.extract 0 (x4 : Int).toNat, t200, 0)) else (some ((⟨#[]⟩ : BA), (⟨#[]⟩ : BA), 12)))) else (some ((⟨#[]⟩ : BA), (⟨#[]⟩ : BA), 12))))) else (none)) else (none)) else (none)) else (none))
def wicketmanref08_Field.l0 : Nat → ByteArray → Int → Option (ByteArray × ByteArray × Int)
 | 0, _, _ => none
 | k + 1, x0, x4 => if x4 < (x0.size : Int) then (if 0 ≤ x4 then (if (bt x0 x4) = 58 then (wicketmanref08_Field.j1 k x0 x4) else (wicketmanref08_Field.l0 k x0 (wrap64 (x4 + 1)))) else (none)) else (wicketmanref08_Field.j1 k x0 x4)
end
def wicketmanref08_Field.f (k : Nat) (a0 : ByteArray) : Option (ByteArray × ByteArray × Int) := if (a0.size : Int) > 2000 then (some ((⟨#[]⟩ : BA), (⟨#[]⟩ : BA), 3)) else (wicketmanref08_Field.l0 k a0 0)
theorem wicketmanref08_Field.mono_l : ∀ k, (∀ y0 y1, LeO (wicketmanref08_Field.j1 k y0 y1) (wicketmanref08_Field.j1 (k + 1) y0 y1)) ∧ (∀ y0 y1, LeO (wicketmanref08_Field.l0 k y0 y1) (wicketmanref08_Field.l0 (k + 1) y0 y1))
 | 0 => ⟨fun _ _ r h => by simp [wicketmanref08_Field.j1] at h, fun _ _ r h => by simp [wicketmanref08_Field.l0] at h⟩
 | k + 1 => by
  obtain ⟨ih0, ih1⟩ := wicketmanref08_Field.mono_l k
  refine ⟨?_, ?_⟩
  ·intro y0 y1
   unfold wicketmanref08_Field.j1
   repeat' first|(with_reducible first|exact ih0 _ _|exact ih1 _ _|exact wicketmanref08_Token.mono _ _|exact wicketmanref08_Value.mono _ _|exact wicketmanref08_trim.mono _ _|exact LeO.refl _|exact LeO.none _|refine LeO.ite ?_ ?_|refine LeO.bind ?_ (fun _ => ?_))|exact LeO.none _|refine LeO.ite ?_ ?_|refine LeO.bind ?_ (fun _ => ?_)
  ·intro y0 y1
   unfold wicketmanref08_Field.l0
   repeat' first|(with_reducible first|exact ih0 _ _|exact ih1 _ _|exact wicketmanref08_Token.mono _ _|exact wicketmanref08_Value.mono _ _|exact wicketmanref08_trim.mono _ _|exact LeO.refl _|exact LeO.none _|refine LeO.ite ?_ ?_|refine LeO.bind ?_ (fun _ => ?_))|exact LeO.none _|refine LeO.ite ?_ ?_|refine LeO.bind ?_ (fun _ => ?_)
theorem wicketmanref08_Field.mono : ∀ a0 k, LeO (wicketmanref08_Field.f k a0) (wicketmanref08_Field.f (k + 1) a0) := by
 intro a0 k
 obtain ⟨ih0, ih1⟩ := wicketmanref08_Field.mono_l k
 unfold wicketmanref08_Field.f
 repeat' first|(with_reducible first|exact ih0 _ _|exact ih1 _ _|exact wicketmanref08_Token.mono _ _|exact wicketmanref08_Value.mono _ _|exact wicketmanref08_trim.mono _ _|exact LeO.refl _|exact LeO.none _|refine LeO.ite ?_ ?_|refine LeO.bind ?_ (fun _ => ?_))|exact LeO.none _|refine LeO.ite ?_ ?_|refine LeO.bind ?_ (fun _ => ?_)
def wicketmanref08_Field.T8 : Bool × List (List Nat × List Nat) := (true, [([], []), ([], []), ([0, 1], [0, 1]), ([], []), ([], []), ([4], [4]), ([3, 5], [3, 5]), ([6], [6]), ([2, 7], [2, 7]), ([], []), ([9, 8, 7, 0, 1, 2, 3, 4, 5, 6, 7, 8, 9], [8, 9])])
def wicketmanref08_Field.B8 : List Nat := [0, 0, 3, 0, 0, 16, 56, 120, 255, 0, 1023]
theorem wicketmanref08_Field.tab8 : rtab .any (opsOf Tryz.f60 8) = wicketmanref08_Field.T8 := by kernel_rfl
theorem wicketmanref08_Field.bits8 : waitsOk wicketmanref08_Field.T8.2 wicketmanref08_Field.B8 = true := by kernel_rfl
set_option maxHeartbeats 8000000 in
set_option maxRecDepth 100000 in
theorem wicketmanref08_Field.calls (k : Nat) (a0 : ByteArray) (r1 : ByteArray) (r2 : ByteArray) (r3 : Int) (w : World) (h : wicketmanref08_Field.f k a0 = some (r1, r2, r3)) :
  Calls Tryz.prog 60 #[.string a0] w fun e w' => e = .returned (.tuple #[.agg #[.string r1, .string r2], .int .i64 r3]) ∧ Below w.heap.size w w' := by
 have hu76 := Tryz.underlying76
 have HB := aK (Below.refl w.heap.size w)
 have H : (if (a0.size : Int) > 2000 then (some ((⟨#[]⟩ : BA), (⟨#[]⟩ : BA), 3)) else (wicketmanref08_Field.l0 k a0 0)) = some (r1, r2, r3) := h
 clear h
 by_cases c2 : (a0.size : Int) > 2000
 ·rw [if_pos c2] at H
  have c2b0 : decide (2000 < (a0.size : Int)) = true := decide_eq_true c2
  have c2b1 : decide (2000 < a0.size) = true := decide_eq_true (by omega)
  clear c2
  simp only [Option.some.injEq, Prod.mk.injEq] at H
  obtain ⟨rfl, rfl, rfl⟩ := H
  go_enter Tryz.func60, Tryz.ntmps60
  go_wp2_with (first|((with_reducible refine gate_dst (N := 2) rfl ?_);refine box_event ?hg (N := 2) ?hd (cs := #[.string (⟨#[]⟩ : BA), .string (⟨#[]⟩ : BA)]) (t := 76) ?hr ?_;(case hd => rfl);(case hg => rfl);(case hr => first|(go_simp;done)|(go_simp;rfl));intro gb199 hg w3 hbox hb;have n0_ := aK (below_step (by repeat (first|(with_reducible first|apply bA|apply bN|apply bD)|exact HB.out)) hb);have n1_ := aK (hbox);have n2_ := aK ((by rw [hg];exact (below_size (by repeat (first|(with_reducible first|apply bA|apply bN|apply bD)|exact HB.out))) : w.heap.size ≤ gb199));have n3_ := aK ((by rw [hg];exact (below_size (by repeat (first|(with_reducible first|apply bA|apply bN|apply bD)|exact HB.out))) : w.heap.size ≤ gb199));clear HB;have HB := n0_;have BK199 := n1_;have GW199 := n2_;have GE199 := n3_;clear n0_ n1_ n2_ n3_;clear hb hbox hg;have hcz4_0 : w3.cell? ⟨gb199, 0, none⟩ = some (.string (⟨#[]⟩ : BA)) := (blk_cell BK199.out 0).trans rfl;have hcz4_1 : w3.cell? ⟨gb199, 1, none⟩ = some (.string (⟨#[]⟩ : BA)) := (blk_cell BK199.out 1).trans rfl;have hfz4_0 := blk_frozen BK199.out 0;have hfz4_1 := blk_frozen BK199.out 1))
  refine bodyPost_ret (results_ct rfl _ _ gb199 76 #[.string (⟨#[]⟩ : BA), .string (⟨#[]⟩ : BA)] (0, 0) _ rfl (by (with_reducible repeat (first|refine blk_drewN ?_ _|refine blk_drew ?_|refine blk_alloc ?_ _));refine blk_put (cs := #[.string (⟨#[]⟩ : BA), .string (⟨#[]⟩ : BA)]) ?_ 1 _ rfl;(with_reducible repeat (first|refine blk_drewN ?_ _|refine blk_drew ?_|refine blk_alloc ?_ _));refine blk_put (cs := #[.string (⟨#[]⟩ : BA), .string (⟨#[]⟩ : BA)]) ?_ 0 _ rfl;(with_reducible repeat (first|refine blk_drewN ?_ _|refine blk_drew ?_|refine blk_alloc ?_ _));exact BK199.out) Tryz.underlying76 rfl (by kernel_rfl)) rfl ?_
  exact ⟨by first|rfl|(simp [errW_none, errW_some] <;> rfl)|(simp [*, errW_none, errW_some] <;> rfl), by repeat (first|(with_reducible first|apply bA|apply bN|apply bD|refine below_set ?_ GE199.out)|exact HB.out)⟩
 ·rw [if_neg c2] at H
  have c2b0 : decide (2000 < (a0.size : Int)) = false := decide_eq_false c2
  have c2b1 : decide (2000 < a0.size) = false := decide_eq_false (by omega)
  clear c2
  have HC5 := aK H
  clear H
  go_enter Tryz.func60, Tryz.ntmps60
  go_upto_block 0 with (first|((with_reducible refine gate_dst (N := 2) rfl ?_);refine box_event ?hg (N := 2) ?hd (cs := #[.string (⟨#[]⟩ : BA), .string (⟨#[]⟩ : BA)]) (t := 76) ?hr ?_;(case hd => rfl);(case hg => rfl);(case hr => first|(go_simp;done)|(go_simp;rfl));intro gb199 hg w6 hbox hb;have n0_ := aK (below_step (by repeat (first|(with_reducible first|apply bA|apply bN|apply bD)|exact HB.out)) hb);have n1_ := aK (hbox);have n2_ := aK ((by rw [hg];exact (below_size (by repeat (first|(with_reducible first|apply bA|apply bN|apply bD)|exact HB.out))) : w.heap.size ≤ gb199));have n3_ := aK ((by rw [hg];exact (below_size (by repeat (first|(with_reducible first|apply bA|apply bN|apply bD)|exact HB.out))) : w.heap.size ≤ gb199));clear HB;have HB := n0_;have BK199 := n1_;have GW199 := n2_;have GE199 := n3_;clear n0_ n1_ n2_ n3_;clear hb hbox hg))
  (try simp only [Act.put, List.setIfInBounds_toArray, List.set_cons_zero, List.set_cons_succ])
  go_cut [4] (fun v4 wc => ∃ (kq : Nat) (x4_4 : Int), v4 = .int .i64 x4_4 ∧ Aside0 (wicketmanref08_Field.j1 kq a0 x4_4 = some (r1, r2, r3)) ∧ Aside0 (kq ≤ k) ∧ Aside0 (wc.heap[gb199]? = some (.cells #[.string (⟨#[]⟩ : BA), .string (⟨#[]⟩ : BA)] 76 (0, 0))) ∧ Aside0 (Below w.heap.size w wc))
  case first =>
   have H := HC5.out
   clear HC5
   have H' := aK H
   clear H
   go_wp2
   go_loopg [4] k (fun kq v4 w' => ∃ (x4_1 : Int), v4 = .int .i64 x4_1 ∧ Aside0 (wicketmanref08_Field.l0 kq a0 x4_1 = some (r1, r2, r3)) ∧ Aside0 (kq ≤ k) ∧ Aside0 (w'.heap[gb199]? = some (.cells #[.string (⟨#[]⟩ : BA), .string (⟨#[]⟩ : BA)] 76 (0, 0))) ∧ Aside0 (Below w.heap.size w w'))
   case atStart => exact ⟨(0), (by first|rfl|(simp;done)|(simp [*];done)), H', ⟨Nat.le_refl _⟩, ⟨by (with_reducible repeat (first|refine blk_drewN ?_ _|refine blk_drew ?_|refine blk_alloc ?_ _));exact BK199.out⟩, ⟨by repeat (first|(with_reducible first|apply bA|apply bN|apply bD|refine below_set ?_ GE199.out)|exact HB.out)⟩⟩
   case round =>
    clear H'
    try clear c2
    try clear c2b0
    try clear c2b1
    try clear p2
    try clear c6
    try clear hcz4_0
    try clear hcz4_1
    try clear hfz4_0
    try clear hfz4_1
    obtain ⟨x4_1, rfl, HA, HK1, BK199, HB⟩ := hrel
    cases gk with
    | zero => exact absurd HA.out (by simp [wicketmanref08_Field.l0])
    | succ k1 =>
     have H := HA.out
     clear HA
     simp only [wicketmanref08_Field.l0] at H
     by_cases c7 : x4_1 < (a0.size : Int)
     ·rw [if_pos c7] at H
      have c7b0 : decide (x4_1 < (a0.size : Int)) = true := decide_eq_true c7
      clear c7
      (first|rw [c7b0]|(simp only [i64_w, i32_w];rw [c7b0])|skip)
      by_cases c8 : 0 ≤ x4_1
      ·rw [if_pos c8] at H
       have c8b0 : decide (0 ≤ x4_1) = true := decide_eq_true c8
       clear c8
       by_cases c10 : (bt a0 x4_1) = 58
       ·rw [if_pos c10] at H
        have c10b0 : ((bt a0 x4_1) == 58) = true := beq_iff_eq.mpr c10
        have c10b1 : ((bt a0 x4_1) != 58) = false := bne_eq_false_iff_eq.mpr c10
        clear c10
        have H' := aK H
        clear H
        have p9 : 0 ≤ (x4_1 : Int) := of_decide_eq_true (by first|(with_reducible assumption)|assumption)
        have q9 : x4_1 < (a0.size : Int) := of_decide_eq_true (by first|(with_reducible assumption)|assumption)
        have hx9 := bt_at a0 x4_1
        replace p9 := eq_true p9
        replace q9 := eq_true q9
        go_wp2
        go_meet
        case rel => exact ⟨_, (x4_1), (by first|rfl|(simp;done)|(simp [*];done)), H', ⟨by have := HK1.out;first|omega|exact Nat.le_refl _⟩, ⟨by (with_reducible repeat (first|refine blk_drewN ?_ _|refine blk_drew ?_|refine blk_alloc ?_ _));exact BK199.out⟩, ⟨by repeat (first|(with_reducible first|apply bA|apply bN|apply bD|refine below_set ?_ GE199.out)|exact HB.out)⟩⟩
       ·rw [if_neg c10] at H
        have c10b0 : ((bt a0 x4_1) == 58) = false := beq_eq_false_iff_ne.mpr c10
        have c10b1 : ((bt a0 x4_1) != 58) = true := bne_iff_ne.mpr c10
        have H' := aK H
        clear H
        have p9 : 0 ≤ (x4_1 : Int) := of_decide_eq_true (by first|(with_reducible assumption)|assumption)
        have q9 : x4_1 < (a0.size : Int) := of_decide_eq_true (by first|(with_reducible assumption)|assumption)
        have hx9 := bt_at a0 x4_1
        replace p9 := eq_true p9
        replace q9 := eq_true q9
        go_wp2
        go_roundg k1
        case measure => have := HK1.out;omega
        case rel => exact ⟨(wrap64 (x4_1 + 1)), (by first|rfl|(simp;done)|(simp [*];done)), H', ⟨by have := HK1.out;omega⟩, ⟨by (with_reducible repeat (first|refine blk_drewN ?_ _|refine blk_drew ?_|refine blk_alloc ?_ _));exact BK199.out⟩, ⟨by repeat (first|(with_reducible first|apply bA|apply bN|apply bD|refine below_set ?_ GE199.out)|exact HB.out)⟩⟩
      ·rw [if_neg c8] at H
       exact absurd H (by simp)
     ·rw [if_neg c7] at H
      have c7b0 : decide (x4_1 < (a0.size : Int)) = false := decide_eq_false c7
      clear c7
      (first|rw [c7b0]|(simp only [i64_w, i32_w];rw [c7b0])|skip)
      have H' := aK H
      clear H
      go_wp2
      go_meet
      case rel => exact ⟨_, (x4_1), (by first|rfl|(simp;done)|(simp [*];done)), H', ⟨by have := HK1.out;first|omega|exact Nat.le_refl _⟩, ⟨by (with_reducible repeat (first|refine blk_drewN ?_ _|refine blk_drew ?_|refine blk_alloc ?_ _));exact BK199.out⟩, ⟨by repeat (first|(with_reducible first|apply bA|apply bN|apply bD|refine below_set ?_ GE199.out)|exact HB.out)⟩⟩
  case rest =>
   clear HC5
   try clear c1
   try clear c2
   try clear c2b0
   try clear c2b1
   try clear p2
   try clear c6
   try clear p6
   try clear c7
   try clear c7b0
   try clear c8
   try clear c8b0
   try clear p9
   try clear q9
   try clear hx9
   try clear c10
   try clear c10b0
   try clear c10b1
   try clear hcz4_0
   try clear hcz4_1
   try clear hfz4_0
   try clear hfz4_1
   try clear p2
   try clear p9
   try clear q9
   obtain ⟨kq, x4_4, rfl, HA, HJ4, BK199, HB⟩ := hcut
   cases kq with
   | zero => exact absurd HA.out (by simp [wicketmanref08_Field.j1])
   | succ kj4 =>
    have H := HA.out
    clear HA
    simp only [wicketmanref08_Field.j1] at H
    by_cases c11 : x4_4 = (a0.size : Int)
    ·rw [if_pos c11] at H
     have c11b0 : (x4_4 == (a0.size : Int)) = true := beq_iff_eq.mpr c11
     have c11b1 : (x4_4 != (a0.size : Int)) = false := bne_eq_false_iff_eq.mpr c11
     clear c11
     simp only [Option.some.injEq, Prod.mk.injEq] at H
     obtain ⟨rfl, rfl, rfl⟩ := H
     have hcz12_0 : wc.cell? ⟨gb199, 0, none⟩ = some (.string (⟨#[]⟩ : BA)) := (blk_cell BK199.out 0).trans rfl
     have hcz12_1 : wc.cell? ⟨gb199, 1, none⟩ = some (.string (⟨#[]⟩ : BA)) := (blk_cell BK199.out 1).trans rfl
     have hfz12_0 := blk_frozen BK199.out 0
     have hfz12_1 := blk_frozen BK199.out 1
     go_wp2
     refine bodyPost_ret (results_ct rfl _ _ gb199 76 #[.string (⟨#[]⟩ : BA), .string (⟨#[]⟩ : BA)] (0, 0) _ rfl (by (with_reducible repeat (first|refine blk_drewN ?_ _|refine blk_drew ?_|refine blk_alloc ?_ _));refine blk_put (cs := #[.string (⟨#[]⟩ : BA), .string (⟨#[]⟩ : BA)]) ?_ 1 _ rfl;(with_reducible repeat (first|refine blk_drewN ?_ _|refine blk_drew ?_|refine blk_alloc ?_ _));refine blk_put (cs := #[.string (⟨#[]⟩ : BA), .string (⟨#[]⟩ : BA)]) ?_ 0 _ rfl;(with_reducible repeat (first|refine blk_drewN ?_ _|refine blk_drew ?_|refine blk_alloc ?_ _));exact BK199.out) Tryz.underlying76 rfl (by kernel_rfl)) rfl ?_
     exact ⟨by first|rfl|(simp [errW_none, errW_some] <;> rfl)|(simp [*, errW_none, errW_some] <;> rfl), by repeat (first|(with_reducible first|apply bA|apply bN|apply bD|refine below_set ?_ GE199.out)|exact HB.out)⟩
    ·rw [if_neg c11] at H
     have c11b0 : (x4_4 == (a0.size : Int)) = false := beq_eq_false_iff_ne.mpr c11
     have c11b1 : (x4_4 != (a0.size : Int)) = true := bne_iff_ne.mpr c11
     by_cases c13 : 0 ≤ x4_4
     ·rw [if_pos c13] at H
      have c13b0 := eq_true c13
      have c13b1 : decide (0 ≤ x4_4) = true := decide_eq_true c13
      clear c13
      by_cases c14 : x4_4 ≤ (a0.size : Int)
      ·rw [if_pos c14] at H
       have c14b0 := eq_true c14
       have c14b1 : decide (x4_4 ≤ (a0.size : Int)) = true := decide_eq_true c14
       clear c14
       obtain ⟨ji15, hji15⟩ : ∃ j_ : Int, (wrap64 (x4_4 + 1)) = j_ := ⟨_, rfl⟩
       replace H : (if 0 ≤ (ji15) then (if (ji15) ≤ (a0.size : Int) then ((wicketmanref08_trim.f kj4 (a0.extract ((ji15) : Int).toNat a0.size)).bind fun t200 => ((wicketmanref08_Token.f kj4 (a0.extract 0 (x4_4 : Int).toNat)).bind fun t202 => (if t202 = true then ((wicketmanref08_Value.f kj4 t200).bind fun t203 => (if t203 = true then (some (a0.extract 0 (x4_4 : Int).toNat, t200, 0)) else (some ((⟨#[]⟩ : BA), (⟨#[]⟩ : BA), 12)))) else (some ((⟨#[]⟩ : BA), (⟨#[]⟩ : BA), 12))))) else (none)) else (none)) = some (r1, r2, r3) := by first|(rw [hji15] at H;exact H)|(simp only [hji15] at H ⊢;exact H)
       have hji15w : (IntKind.i64.wrap (x4_4 + 1)) = ji15 := (i64_w _).trans hji15
       by_cases c16 : 0 ≤ (ji15)
       ·rw [if_pos c16] at H
        have c16b0 := eq_true c16
        have c16b1 : decide (0 ≤ (ji15)) = true := decide_eq_true c16
        clear c16
        by_cases c17 : (ji15) ≤ (a0.size : Int)
        ·rw [if_pos c17] at H
         have c17b0 := eq_true c17
         have c17b1 : decide ((ji15) ≤ (a0.size : Int)) = true := decide_eq_true c17
         clear c17
         replace H := Option.bind_eq_some_iff.mp H
         obtain ⟨t200, A180, H⟩ := H
         try dsimp only at H
         have A18 := aK A180
         clear A180
         replace H := Option.bind_eq_some_iff.mp H
         obtain ⟨t202, A190, H⟩ := H
         try dsimp only at H
         have A19 := aK A190
         clear A190
         by_cases c20 : t202 = true
         ·subst c20
          rw [if_pos rfl] at H
          replace H := Option.bind_eq_some_iff.mp H
          obtain ⟨t203, A210, H⟩ := H
          try dsimp only at H
          have A21 := aK A210
          clear A210
          by_cases c22 : t203 = true
          ·subst c22
           rw [if_pos rfl] at H
           simp only [Option.some.injEq, Prod.mk.injEq] at H
           obtain ⟨rfl, rfl, rfl⟩ := H
           try go_wp2
           have n0_ := aK (blk_drew BK199.out)
           have n1_ := aK (below_drew1 HB.out)
           clear BK199
           clear HB
           have BK199 := n0_
           have HB := n1_
           clear n0_ n1_
           refine start_ (n := 11) (S := fun w' => True) (ds := []) #[false, false, false, false, false, false, false, false, false, false, false] (by kernel_rfl) rfl rfl trivial (fun hHeld => ?_);refine with_tabW wicketmanref08_Field.tab8 wicketmanref08_Field.bits8 (fun HT_ HW_ => ?_)
           generalize wc.drew = w23 at BK199 HB hHeld ⊢
           refine pure_ (i := 0) (N := some 27) (v := ?_) (a' := ?_) #[true, false, false, false, false, false, false, false, false, false, false] rfl rfl (any_of HT_.out (by kernel_rfl)) (fun _ _ _ h => h) (Or.inl ⟨by rfl, ?_⟩) ?_ ?_
           rotate_left
           ·intro w'
            go_simp
            with_reducible rfl
           rotate_left
           ·simp only [Act.put, List.setIfInBounds_toArray, List.set_cons_zero, List.set_cons_succ, i64_w, i32_w]
            rfl
           refine pure_ (i := 1) (N := some 28) (v := ?_) (a' := ?_) #[true, true, false, false, false, false, false, false, false, false, false] rfl rfl (any_of HT_.out (by kernel_rfl)) (fun _ _ _ h => h) (Or.inl ⟨by rfl, ?_⟩) ?_ ?_
           rotate_left
           ·intro w'
            go_simp
            with_reducible rfl
           rotate_left
           ·simp only [Act.put, List.setIfInBounds_toArray, List.set_cons_zero, List.set_cons_succ, i64_w, i32_w]
            rfl
           refine pure_ (i := 2) (N := some 29) (v := ?_) (a' := ?_) #[true, true, true, false, false, false, false, false, false, false, false] rfl rfl (any_of HT_.out (by kernel_rfl)) (fun _ _ _ h => h) (Or.inl ⟨by rfl, ?_⟩) ?_ ?_
           rotate_left
           ·intro w'
            go_simp
            with_reducible rfl
           rotate_left
           ·simp only [Act.put, List.setIfInBounds_toArray, List.set_cons_zero, List.set_cons_succ, i64_w, i32_w]
            rfl
           refine pure_ (i := 3) (N := some 30) (v := ?_) (a' := ?_) #[true, true, true, true, false, false, false, false, false, false, false] rfl rfl (any_of HT_.out (by kernel_rfl)) (fun _ _ _ h => h) (Or.inl ⟨by rfl, ?_⟩) ?_ ?_
           rotate_left
           ·intro w'
            go_simp
            with_reducible rfl
           rotate_left
           ·simp only [Act.put, List.setIfInBounds_toArray, List.set_cons_zero, List.set_cons_succ, i64_w, i32_w]
            rfl
           refine pure_ (i := 4) (N := some 31) (v := ?_) (a' := ?_) #[true, true, true, true, true, false, false, false, false, false, false] rfl rfl (any_of HT_.out (by kernel_rfl)) (fun _ _ _ h => h) (Or.inl ⟨by rfl, ?_⟩) ?_ ?_
           rotate_left
           ·intro w'
            go_simp
            with_reducible rfl
           rotate_left
           ·simp only [Act.put, List.setIfInBounds_toArray, List.set_cons_zero, List.set_cons_succ, i64_w, i32_w]
            rfl
           refine pure_ (i := 5) (N := some 32) (v := ?_) (a' := ?_) #[true, true, true, true, true, true, false, false, false, false, false] rfl rfl (any_of HT_.out (by kernel_rfl)) (fun _ _ _ h => h) (Or.inl ⟨by rfl, ?_⟩) ?_ ?_
           rotate_left
           ·intro w'
            go_simp
            with_reducible rfl
           rotate_left
           ·simp only [Act.put, List.setIfInBounds_toArray, List.set_cons_zero, List.set_cons_succ, i64_w, i32_w]
            rfl
           refine pure_ (i := 6) (N := some 33) (v := ?_) (a' := ?_) #[true, true, true, true, true, true, true, false, false, false, false] rfl rfl (any_of HT_.out (by kernel_rfl)) (fun _ _ _ h => h) (Or.inl ⟨by rfl, ?_⟩) ?_ ?_
           rotate_left
           ·intro w'
            go_simp
            with_reducible rfl
           rotate_left
           ·simp only [Act.put, List.setIfInBounds_toArray, List.set_cons_zero, List.set_cons_succ, i64_w, i32_w]
            rfl
           refine join_ (σ := Nat) 1 #[true, true, true, true, true, true, true, true, true, true, false] (fun s_ => [(34, .string t200), (5, .pointer (some ⟨s_, 0, none⟩)), (35, .agg #[.string (a0.extract 0 (x4_4 : Int).toNat), .string t200])]) (fun s_ w' => (w'.heap[gb199]? = some (.cells #[.string (⟨#[]⟩ : BA), .string (⟨#[]⟩ : BA)] 76 (0, 0))) ∧ (w'.heap[s_]? = some (.cells #[.string (⟨#[]⟩ : BA), .string (⟨#[]⟩ : BA)] 76 (0, 0))) ∧ (w.heap.size ≤ s_) ∧ (w.heap.size ≤ s_) ∧ (gb199 ≠ s_) ∧ (s_ ≠ gb199) ∧ (Below w.heap.size w w')) ?_ ?_
           rotate_left
           ·intro hCont
            refine two_ (i := 7) (j := 9) (Ni := some 34) (Nj := some 5) #[true, true, true, true, true, true, true, true, false, false, false] #[true, true, true, true, true, true, true, false, false, true, false] rfl rfl rfl rfl (two_of HT_.out (by kernel_rfl)) (by decide) (by decide) (fun K hK => ?_) (fun K hK => ?_)
            ·skip
             refine goes_ Tryz.func109 (by kernel_rfl) rfl #[.string (a0.extract ((ji15) : Int).toNat a0.size)] (by rfl) rfl rfl (by (try simp only [List.map_toArray, List.map_cons, List.map_nil]);first|done|(simp only [hji15];rfl)|rfl|(simp only [List.length_drop, List.length_take];rfl)) ?_
             with_reducible refine (wicketmanref08_trim.calls kj4 (a0.extract ((ji15) : Int).toNat a0.size) t200 _ A18.out).mono ?_
             rintro e w' ⟨rfl, ⟨nd, rfl⟩⟩
             refine ⟨_, rfl, ?_⟩
             refine hK.out _ _ trivial (fun hHeld => ?_)
             clear hK K
             refine norm_ (a' := ?_) ?_ ?_
             rotate_left
             ·show Act.put _ (some 34) _ = _
              simp only [Act.put, List.setIfInBounds_toArray, List.set_cons_zero, List.set_cons_succ, i64_w, i32_w]
              rfl
             refine pure_ (i := 8) (N := some 35) (v := ?_) (a' := ?_) #[true, true, true, true, true, true, true, true, true, false, false] rfl rfl (any_of HT_.out (by kernel_rfl)) (fun _ _ _ h => h) (Or.inl ⟨by rfl, ?_⟩) ?_ ?_
             rotate_left
             ·intro w'
              go_simp
              with_reducible rfl
             rotate_left
             ·simp only [Act.put, List.setIfInBounds_toArray, List.set_cons_zero, List.set_cons_succ, i64_w, i32_w]
              rfl
             refine one_ (i := 9) (N := some 5) #[true, true, true, true, true, true, true, true, true, true, false] rfl rfl (one_of HT_.out (by kernel_rfl)) (by decide) (fun K hK => ?_)
             refine box_step ?hg (N := 5) ?hd (cs := #[.string (⟨#[]⟩ : BA), .string (⟨#[]⟩ : BA)]) (t := 76) ?hr ?_;(case hd => rfl);(case hg => rfl);(case hr => first|(go_simp;done)|(go_simp;rfl))
             intro gb201 hg w24 hbox hb
             have n0_ := aK (blk_below (g := gb199) (o := .cells #[.string (⟨#[]⟩ : BA), .string (⟨#[]⟩ : BA)] 76 (0, 0)) (by (with_reducible repeat (first|refine blk_drewN ?_ _|refine blk_drew ?_|refine blk_alloc ?_ _));exact BK199.out) hb)
             have n1_ := aK (below_step (by repeat (first|(with_reducible first|apply bA|apply bN|apply bD|refine below_set ?_ GE199.out)|exact HB.out)) hb)
             have n2_ := aK (hbox)
             have n3_ := aK ((by rw [hg];exact (below_size (by repeat (first|(with_reducible first|apply bA|apply bN|apply bD|refine below_set ?_ GE199.out)|exact HB.out))) : w.heap.size ≤ gb201))
             have n4_ := aK ((by rw [hg];exact (below_size (by repeat (first|(with_reducible first|apply bA|apply bN|apply bD|refine below_set ?_ GE199.out)|exact HB.out))) : w.heap.size ≤ gb201))
             have n5_ := aK ((by rw [hg];exact Nat.ne_of_lt (blk_lt (g := gb199) (o := .cells #[.string (⟨#[]⟩ : BA), .string (⟨#[]⟩ : BA)] 76 (0, 0)) (by (with_reducible repeat (first|refine blk_drewN ?_ _|refine blk_drew ?_|refine blk_alloc ?_ _));exact BK199.out)) : gb199 ≠ gb201))
             have n6_ := aK ((by rw [hg];exact Nat.ne_of_gt (blk_lt (g := gb199) (o := .cells #[.string (⟨#[]⟩ : BA), .string (⟨#[]⟩ : BA)] 76 (0, 0)) (by (with_reducible repeat (first|refine blk_drewN ?_ _|refine blk_drew ?_|refine blk_alloc ?_ _));exact BK199.out)) : gb201 ≠ gb199))
             clear BK199
             clear HB
             have BK199 := n0_
             have HB := n1_
             have BK201 := n2_
             have GW201 := n3_
             have GE201 := n4_
             have NB199_201 := n5_
             have NB201_199 := n6_
             clear n0_ n1_ n2_ n3_ n4_ n5_ n6_
             clear hb hbox hg
             refine hK.out _ _ trivial (fun hHeld => ?_)
             clear hK K
             refine norm_ (a' := ?_) ?_ ?_
             rotate_left
             ·show Act.put _ (some 5) _ = _
              simp only [Act.put, List.setIfInBounds_toArray, List.set_cons_zero, List.set_cons_succ, i64_w, i32_w]
              rfl
             exact norm_ (by simp only [putAll, Act.put, List.setIfInBounds_toArray, List.set_cons_zero, List.set_cons_succ]) (hCont (gb201) _ ⟨(by (with_reducible repeat (first|refine blk_drewN ?_ _|refine blk_drew ?_|refine blk_alloc ?_ _));exact BK199.out), (by (with_reducible repeat (first|refine blk_drewN ?_ _|refine blk_drew ?_|refine blk_alloc ?_ _));exact BK201.out), GW201.out, GE201.out, NB199_201.out, NB201_199.out, (by repeat (first|(with_reducible first|apply bA|apply bN|apply bD|refine below_set ?_ GE199.out|refine below_set ?_ GE201.out)|exact HB.out))⟩)
            ·skip
             refine box_step ?hg (N := 5) ?hd (cs := #[.string (⟨#[]⟩ : BA), .string (⟨#[]⟩ : BA)]) (t := 76) ?hr ?_;(case hd => rfl);(case hg => rfl);(case hr => first|(go_simp;done)|(go_simp;rfl))
             intro gb201 hg w24 hbox hb
             have n0_ := aK (blk_below (g := gb199) (o := .cells #[.string (⟨#[]⟩ : BA), .string (⟨#[]⟩ : BA)] 76 (0, 0)) (by (with_reducible repeat (first|refine blk_drewN ?_ _|refine blk_drew ?_|refine blk_alloc ?_ _));exact BK199.out) hb)
             have n1_ := aK (below_step (by repeat (first|(with_reducible first|apply bA|apply bN|apply bD|refine below_set ?_ GE199.out)|exact HB.out)) hb)
             have n2_ := aK (hbox)
             have n3_ := aK ((by rw [hg];exact (below_size (by repeat (first|(with_reducible first|apply bA|apply bN|apply bD|refine below_set ?_ GE199.out)|exact HB.out))) : w.heap.size ≤ gb201))
             have n4_ := aK ((by rw [hg];exact (below_size (by repeat (first|(with_reducible first|apply bA|apply bN|apply bD|refine below_set ?_ GE199.out)|exact HB.out))) : w.heap.size ≤ gb201))
             have n5_ := aK ((by rw [hg];exact Nat.ne_of_lt (blk_lt (g := gb199) (o := .cells #[.string (⟨#[]⟩ : BA), .string (⟨#[]⟩ : BA)] 76 (0, 0)) (by (with_reducible repeat (first|refine blk_drewN ?_ _|refine blk_drew ?_|refine blk_alloc ?_ _));exact BK199.out)) : gb199 ≠ gb201))
             have n6_ := aK ((by rw [hg];exact Nat.ne_of_gt (blk_lt (g := gb199) (o := .cells #[.string (⟨#[]⟩ : BA), .string (⟨#[]⟩ : BA)] 76 (0, 0)) (by (with_reducible repeat (first|refine blk_drewN ?_ _|refine blk_drew ?_|refine blk_alloc ?_ _));exact BK199.out)) : gb201 ≠ gb199))
             clear BK199
             clear HB
             have BK199 := n0_
             have HB := n1_
             have BK201 := n2_
             have GW201 := n3_
             have GE201 := n4_
             have NB199_201 := n5_
             have NB201_199 := n6_
             clear n0_ n1_ n2_ n3_ n4_ n5_ n6_
             clear hb hbox hg
             refine hK.out _ _ trivial (fun hHeld => ?_)
             clear hK K
             refine norm_ (a' := ?_) ?_ ?_
             rotate_left
             ·show Act.put _ (some 5) _ = _
              simp only [Act.put, List.setIfInBounds_toArray, List.set_cons_zero, List.set_cons_succ, i64_w, i32_w]
              rfl
             refine one_ (i := 7) (N := some 34) #[true, true, true, true, true, true, true, true, false, true, false] rfl rfl (one_of HT_.out (by kernel_rfl)) (by decide) (fun K hK => ?_)
             refine goes_ Tryz.func109 (by kernel_rfl) rfl #[.string (a0.extract ((ji15) : Int).toNat a0.size)] (by rfl) rfl rfl (by (try simp only [List.map_toArray, List.map_cons, List.map_nil]);first|done|(simp only [hji15];rfl)|rfl|(simp only [List.length_drop, List.length_take];rfl)) ?_
             with_reducible refine (wicketmanref08_trim.calls kj4 (a0.extract ((ji15) : Int).toNat a0.size) t200 _ A18.out).mono ?_
             rintro e w' ⟨rfl, ⟨nd, rfl⟩⟩
             refine ⟨_, rfl, ?_⟩
             refine hK.out _ _ trivial (fun hHeld => ?_)
             clear hK K
             refine norm_ (a' := ?_) ?_ ?_
             rotate_left
             ·show Act.put _ (some 34) _ = _
              simp only [Act.put, List.setIfInBounds_toArray, List.set_cons_zero, List.set_cons_succ, i64_w, i32_w]
              rfl
             refine pure_ (i := 8) (N := some 35) (v := ?_) (a' := ?_) #[true, true, true, true, true, true, true, true, true, true, false] rfl rfl (any_of HT_.out (by kernel_rfl)) (fun _ _ _ h => h) (Or.inl ⟨by rfl, ?_⟩) ?_ ?_
             rotate_left
             ·intro w'
              go_simp
              with_reducible rfl
             rotate_left
             ·simp only [Act.put, List.setIfInBounds_toArray, List.set_cons_zero, List.set_cons_succ, i64_w, i32_w]
              rfl
             exact norm_ (by simp only [putAll, Act.put, List.setIfInBounds_toArray, List.set_cons_zero, List.set_cons_succ]) (hCont (gb201) _ ⟨(by (with_reducible repeat (first|refine blk_drewN ?_ _|refine blk_drew ?_|refine blk_alloc ?_ _));exact BK199.out), (by (with_reducible repeat (first|refine blk_drewN ?_ _|refine blk_drew ?_|refine blk_alloc ?_ _));exact BK201.out), GW201.out, GE201.out, NB199_201.out, NB201_199.out, (by repeat (first|(with_reducible first|apply bA|apply bN|apply bD|refine below_set ?_ GE199.out|refine below_set ?_ GE201.out)|exact HB.out))⟩)
           rintro gb201 w25 ⟨h0_, h1_, h2_, h3_, h4_, h5_, h6_⟩
           have n0_ : Aside0 (w25.heap[gb199]? = some (.cells #[.string (⟨#[]⟩ : BA), .string (⟨#[]⟩ : BA)] 76 (0, 0))) := ⟨h0_⟩
           have n1_ : Aside0 (w25.heap[gb201]? = some (.cells #[.string (⟨#[]⟩ : BA), .string (⟨#[]⟩ : BA)] 76 (0, 0))) := ⟨h1_⟩
           have n2_ : Aside0 (w.heap.size ≤ gb201) := ⟨h2_⟩
           have n3_ : Aside0 (w.heap.size ≤ gb201) := ⟨h3_⟩
           have n4_ : Aside0 (gb199 ≠ gb201) := ⟨h4_⟩
           have n5_ : Aside0 (gb201 ≠ gb199) := ⟨h5_⟩
           have n6_ : Aside0 (Below w.heap.size w w25) := ⟨h6_⟩
           clear BK199
           clear HB
           clear h0_ h1_ h2_ h3_ h4_ h5_ h6_
           have BK199 := n0_
           have BK201 := n1_
           have GW201 := n2_
           have GE201 := n3_
           have NB199_201 := n4_
           have NB201_199 := n5_
           have HB := n6_
           clear n0_ n1_ n2_ n3_ n4_ n5_ n6_
           have hHeld := trivial
           refine norm_ (a' := ?_) ?_ ?_
           rotate_left
           ·simp only [putAll, Act.put, List.setIfInBounds_toArray, List.set_cons_zero, List.set_cons_succ]
            rfl
           refine one_ (i := 10) (N := none) #[true, true, true, true, true, true, true, true, true, true, true] rfl rfl (one_of HT_.out (by kernel_rfl)) (by decide) (fun K hK => ?_)
           have hs26 : w25.cell? ⟨gb201, 0, none⟩ = some (.string (⟨#[]⟩ : BA)) := (blk_cell BK201.out 0).trans rfl
           have hfs26 := blk_frozen BK201.out 0
           have hns26_0 := NB199_201.out
           have hms26_0 := NB201_199.out
           have hs27 : w25.cell? ⟨gb201, 1, none⟩ = some (.string (⟨#[]⟩ : BA)) := (blk_cell BK201.out 1).trans rfl
           have hfs27 := blk_frozen BK201.out 1
           have hns27_0 := NB199_201.out
           have hms27_0 := NB201_199.out
           refine skip_ (w1 := ?_) (by rfl) rfl ?_ ?_
           rotate_left
           ·go_simp
            rfl
           refine hK.out _ _ trivial (fun hHeld => ?_)
           clear hK K
           refine done_ (done_of HT_.out (by kernel_rfl)) ?_
           have hnb28 := NB201_199.out
           have hnc28 := NB199_201.out
           have hcz29_0 : w25.cell? ⟨gb201, 0, none⟩ = some (.string (⟨#[]⟩ : BA)) := (blk_cell BK201.out 0).trans rfl
           have hcz29_1 : w25.cell? ⟨gb201, 1, none⟩ = some (.string (⟨#[]⟩ : BA)) := (blk_cell BK201.out 1).trans rfl
           have hfz29_0 := blk_frozen BK201.out 0
           have hfz29_1 := blk_frozen BK201.out 1
           try go_wp2_with (first|((with_reducible refine gate_callee (f := 110) rfl ?_);refine goesL_ (some 38) rfl rfl Tryz.func110 (by kernel_rfl) rfl #[.string (a0.extract 0 (x4_4 : Int).toNat)] rfl (by (try simp only [List.map_toArray, List.map_cons, List.map_nil]);first|done|rfl|(simp only [List.length_drop, List.length_take];rfl)) ?_;(with_reducible refine (wicketmanref08_Token.calls kj4 (a0.extract 0 (x4_4 : Int).toNat) true _ A19.out).mono ?_);rintro e w' ⟨rfl, ⟨nd, rfl⟩⟩;refine ⟨_, rfl, ?_⟩)|(go_at_call 111;(with_reducible refine (wicketmanref08_Value.calls kj4 t200 true _ A21.out).mono ?_);rintro e w' ⟨rfl, ⟨nd, rfl⟩⟩;have hcz30_0 : w25.cell? ⟨gb199, 0, none⟩ = some (.string (⟨#[]⟩ : BA)) := (blk_cell BK199.out 0).trans rfl;have hcz30_1 : w25.cell? ⟨gb199, 1, none⟩ = some (.string (⟨#[]⟩ : BA)) := (blk_cell BK199.out 1).trans rfl;have hfz30_0 := blk_frozen BK199.out 0;have hfz30_1 := blk_frozen BK199.out 1))
           refine bodyPost_ret (results_ct rfl _ _ gb199 76 #[.string (a0.extract 0 (x4_4 : Int).toNat), .string t200] (0, 0) _ rfl (by (with_reducible repeat (first|refine blk_drewN ?_ _|refine blk_drew ?_|refine blk_alloc ?_ _));refine blk_put (cs := #[.string (a0.extract 0 (x4_4 : Int).toNat), .string (⟨#[]⟩ : BA)]) ?_ 1 _ rfl;(with_reducible repeat (first|refine blk_drewN ?_ _|refine blk_drew ?_|refine blk_alloc ?_ _));refine blk_put (cs := #[.string (⟨#[]⟩ : BA), .string (⟨#[]⟩ : BA)]) ?_ 0 _ rfl;(with_reducible repeat (first|refine blk_drewN ?_ _|refine blk_drew ?_|refine blk_alloc ?_ _));refine blk_far ?_ NB199_201.out _;(with_reducible repeat (first|refine blk_drewN ?_ _|refine blk_drew ?_|refine blk_alloc ?_ _));refine blk_far ?_ NB199_201.out _;(with_reducible repeat (first|refine blk_drewN ?_ _|refine blk_drew ?_|refine blk_alloc ?_ _));exact BK199.out) Tryz.underlying76 rfl (by kernel_rfl)) rfl ?_
           exact ⟨by first|rfl|(simp [errW_none, errW_some] <;> rfl)|(simp only [← hji15];first|rfl|(simp [errW_none, errW_some] <;> rfl))|(simp [*, errW_none, errW_some] <;> rfl), by repeat (first|(with_reducible first|apply bA|apply bN|apply bD|refine below_set ?_ GE199.out|refine below_set ?_ GE201.out)|exact HB.out)⟩
          ·replace c22 := Bool.eq_false_iff.mpr c22
           subst c22
           rw [if_neg (show ¬ (false = true) by decide)] at H
           simp only [Option.some.injEq, Prod.mk.injEq] at H
           obtain ⟨rfl, rfl, rfl⟩ := H
           try go_wp2
           have n0_ := aK (blk_drew BK199.out)
           have n1_ := aK (below_drew1 HB.out)
           clear BK199
           clear HB
           have BK199 := n0_
           have HB := n1_
           clear n0_ n1_
           refine start_ (n := 11) (S := fun w' => True) (ds := []) #[false, false, false, false, false, false, false, false, false, false, false] (by kernel_rfl) rfl rfl trivial (fun hHeld => ?_);refine with_tabW wicketmanref08_Field.tab8 wicketmanref08_Field.bits8 (fun HT_ HW_ => ?_)
           generalize wc.drew = w31 at BK199 HB hHeld ⊢
           refine pure_ (i := 0) (N := some 27) (v := ?_) (a' := ?_) #[true, false, false, false, false, false, false, false, false, false, false] rfl rfl (any_of HT_.out (by kernel_rfl)) (fun _ _ _ h => h) (Or.inl ⟨by rfl, ?_⟩) ?_ ?_
           rotate_left
           ·intro w'
            go_simp
            with_reducible rfl
           rotate_left
           ·simp only [Act.put, List.setIfInBounds_toArray, List.set_cons_zero, List.set_cons_succ, i64_w, i32_w]
            rfl
           refine pure_ (i := 1) (N := some 28) (v := ?_) (a' := ?_) #[true, true, false, false, false, false, false, false, false, false, false] rfl rfl (any_of HT_.out (by kernel_rfl)) (fun _ _ _ h => h) (Or.inl ⟨by rfl, ?_⟩) ?_ ?_
           rotate_left
           ·intro w'
            go_simp
            with_reducible rfl
           rotate_left
           ·simp only [Act.put, List.setIfInBounds_toArray, List.set_cons_zero, List.set_cons_succ, i64_w, i32_w]
            rfl
           refine pure_ (i := 2) (N := some 29) (v := ?_) (a' := ?_) #[true, true, true, false, false, false, false, false, false, false, false] rfl rfl (any_of HT_.out (by kernel_rfl)) (fun _ _ _ h => h) (Or.inl ⟨by rfl, ?_⟩) ?_ ?_
           rotate_left
           ·intro w'
            go_simp
            with_reducible rfl
           rotate_left
           ·simp only [Act.put, List.setIfInBounds_toArray, List.set_cons_zero, List.set_cons_succ, i64_w, i32_w]
            rfl
           refine pure_ (i := 3) (N := some 30) (v := ?_) (a' := ?_) #[true, true, true, true, false, false, false, false, false, false, false] rfl rfl (any_of HT_.out (by kernel_rfl)) (fun _ _ _ h => h) (Or.inl ⟨by rfl, ?_⟩) ?_ ?_
           rotate_left
           ·intro w'
            go_simp
            with_reducible rfl
           rotate_left
           ·simp only [Act.put, List.setIfInBounds_toArray, List.set_cons_zero, List.set_cons_succ, i64_w, i32_w]
            rfl
           refine pure_ (i := 4) (N := some 31) (v := ?_) (a' := ?_) #[true, true, true, true, true, false, false, false, false, false, false] rfl rfl (any_of HT_.out (by kernel_rfl)) (fun _ _ _ h => h) (Or.inl ⟨by rfl, ?_⟩) ?_ ?_
           rotate_left
           ·intro w'
            go_simp
            with_reducible rfl
           rotate_left
           ·simp only [Act.put, List.setIfInBounds_toArray, List.set_cons_zero, List.set_cons_succ, i64_w, i32_w]
            rfl
           refine pure_ (i := 5) (N := some 32) (v := ?_) (a' := ?_) #[true, true, true, true, true, true, false, false, false, false, false] rfl rfl (any_of HT_.out (by kernel_rfl)) (fun _ _ _ h => h) (Or.inl ⟨by rfl, ?_⟩) ?_ ?_
           rotate_left
           ·intro w'
            go_simp
            with_reducible rfl
           rotate_left
           ·simp only [Act.put, List.setIfInBounds_toArray, List.set_cons_zero, List.set_cons_succ, i64_w, i32_w]
            rfl
           refine pure_ (i := 6) (N := some 33) (v := ?_) (a' := ?_) #[true, true, true, true, true, true, true, false, false, false, false] rfl rfl (any_of HT_.out (by kernel_rfl)) (fun _ _ _ h => h) (Or.inl ⟨by rfl, ?_⟩) ?_ ?_
           rotate_left
           ·intro w'
            go_simp
            with_reducible rfl
           rotate_left
           ·simp only [Act.put, List.setIfInBounds_toArray, List.set_cons_zero, List.set_cons_succ, i64_w, i32_w]
            rfl
           refine join_ (σ := Nat) 1 #[true, true, true, true, true, true, true, true, true, true, false] (fun s_ => [(34, .string t200), (5, .pointer (some ⟨s_, 0, none⟩)), (35, .agg #[.string (a0.extract 0 (x4_4 : Int).toNat), .string t200])]) (fun s_ w' => (w'.heap[gb199]? = some (.cells #[.string (⟨#[]⟩ : BA), .string (⟨#[]⟩ : BA)] 76 (0, 0))) ∧ (w'.heap[s_]? = some (.cells #[.string (⟨#[]⟩ : BA), .string (⟨#[]⟩ : BA)] 76 (0, 0))) ∧ (w.heap.size ≤ s_) ∧ (w.heap.size ≤ s_) ∧ (gb199 ≠ s_) ∧ (s_ ≠ gb199) ∧ (Below w.heap.size w w')) ?_ ?_
           rotate_left
           ·intro hCont
            refine two_ (i := 7) (j := 9) (Ni := some 34) (Nj := some 5) #[true, true, true, true, true, true, true, true, false, false, false] #[true, true, true, true, true, true, true, false, false, true, false] rfl rfl rfl rfl (two_of HT_.out (by kernel_rfl)) (by decide) (by decide) (fun K hK => ?_) (fun K hK => ?_)
            ·skip
             refine goes_ Tryz.func109 (by kernel_rfl) rfl #[.string (a0.extract ((ji15) : Int).toNat a0.size)] (by rfl) rfl rfl (by (try simp only [List.map_toArray, List.map_cons, List.map_nil]);first|done|(simp only [hji15];rfl)|rfl|(simp only [List.length_drop, List.length_take];rfl)) ?_
             with_reducible refine (wicketmanref08_trim.calls kj4 (a0.extract ((ji15) : Int).toNat a0.size) t200 _ A18.out).mono ?_
             rintro e w' ⟨rfl, ⟨nd, rfl⟩⟩
             refine ⟨_, rfl, ?_⟩
             refine hK.out _ _ trivial (fun hHeld => ?_)
             clear hK K
             refine norm_ (a' := ?_) ?_ ?_
             rotate_left
             ·show Act.put _ (some 34) _ = _
              simp only [Act.put, List.setIfInBounds_toArray, List.set_cons_zero, List.set_cons_succ, i64_w, i32_w]
              rfl
             refine pure_ (i := 8) (N := some 35) (v := ?_) (a' := ?_) #[true, true, true, true, true, true, true, true, true, false, false] rfl rfl (any_of HT_.out (by kernel_rfl)) (fun _ _ _ h => h) (Or.inl ⟨by rfl, ?_⟩) ?_ ?_
             rotate_left
             ·intro w'
              go_simp
              with_reducible rfl
             rotate_left
             ·simp only [Act.put, List.setIfInBounds_toArray, List.set_cons_zero, List.set_cons_succ, i64_w, i32_w]
              rfl
             refine one_ (i := 9) (N := some 5) #[true, true, true, true, true, true, true, true, true, true, false] rfl rfl (one_of HT_.out (by kernel_rfl)) (by decide) (fun K hK => ?_)
             refine box_step ?hg (N := 5) ?hd (cs := #[.string (⟨#[]⟩ : BA), .string (⟨#[]⟩ : BA)]) (t := 76) ?hr ?_;(case hd => rfl);(case hg => rfl);(case hr => first|(go_simp;done)|(go_simp;rfl))
             intro gb201 hg w32 hbox hb
             have n0_ := aK (blk_below (g := gb199) (o := .cells #[.string (⟨#[]⟩ : BA), .string (⟨#[]⟩ : BA)] 76 (0, 0)) (by (with_reducible repeat (first|refine blk_drewN ?_ _|refine blk_drew ?_|refine blk_alloc ?_ _));exact BK199.out) hb)
             have n1_ := aK (below_step (by repeat (first|(with_reducible first|apply bA|apply bN|apply bD|refine below_set ?_ GE199.out)|exact HB.out)) hb)
             have n2_ := aK (hbox)
             have n3_ := aK ((by rw [hg];exact (below_size (by repeat (first|(with_reducible first|apply bA|apply bN|apply bD|refine below_set ?_ GE199.out)|exact HB.out))) : w.heap.size ≤ gb201))
             have n4_ := aK ((by rw [hg];exact (below_size (by repeat (first|(with_reducible first|apply bA|apply bN|apply bD|refine below_set ?_ GE199.out)|exact HB.out))) : w.heap.size ≤ gb201))
             have n5_ := aK ((by rw [hg];exact Nat.ne_of_lt (blk_lt (g := gb199) (o := .cells #[.string (⟨#[]⟩ : BA), .string (⟨#[]⟩ : BA)] 76 (0, 0)) (by (with_reducible repeat (first|refine blk_drewN ?_ _|refine blk_drew ?_|refine blk_alloc ?_ _));exact BK199.out)) : gb199 ≠ gb201))
             have n6_ := aK ((by rw [hg];exact Nat.ne_of_gt (blk_lt (g := gb199) (o := .cells #[.string (⟨#[]⟩ : BA), .string (⟨#[]⟩ : BA)] 76 (0, 0)) (by (with_reducible repeat (first|refine blk_drewN ?_ _|refine blk_drew ?_|refine blk_alloc ?_ _));exact BK199.out)) : gb201 ≠ gb199))
             clear BK199
             clear HB
             have BK199 := n0_
             have HB := n1_
             have BK201 := n2_
             have GW201 := n3_
             have GE201 := n4_
             have NB199_201 := n5_
             have NB201_199 := n6_
             clear n0_ n1_ n2_ n3_ n4_ n5_ n6_
             clear hb hbox hg
             refine hK.out _ _ trivial (fun hHeld => ?_)
             clear hK K
             refine norm_ (a' := ?_) ?_ ?_
             rotate_left
             ·show Act.put _ (some 5) _ = _
              simp only [Act.put, List.setIfInBounds_toArray, List.set_cons_zero, List.set_cons_succ, i64_w, i32_w]
              rfl
             exact norm_ (by simp only [putAll, Act.put, List.setIfInBounds_toArray, List.set_cons_zero, List.set_cons_succ]) (hCont (gb201) _ ⟨(by (with_reducible repeat (first|refine blk_drewN ?_ _|refine blk_drew ?_|refine blk_alloc ?_ _));exact BK199.out), (by (with_reducible repeat (first|refine blk_drewN ?_ _|refine blk_drew ?_|refine blk_alloc ?_ _));exact BK201.out), GW201.out, GE201.out, NB199_201.out, NB201_199.out, (by repeat (first|(with_reducible first|apply bA|apply bN|apply bD|refine below_set ?_ GE199.out|refine below_set ?_ GE201.out)|exact HB.out))⟩)
            ·skip
             refine box_step ?hg (N := 5) ?hd (cs := #[.string (⟨#[]⟩ : BA), .string (⟨#[]⟩ : BA)]) (t := 76) ?hr ?_;(case hd => rfl);(case hg => rfl);(case hr => first|(go_simp;done)|(go_simp;rfl))
             intro gb201 hg w32 hbox hb
             have n0_ := aK (blk_below (g := gb199) (o := .cells #[.string (⟨#[]⟩ : BA), .string (⟨#[]⟩ : BA)] 76 (0, 0)) (by (with_reducible repeat (first|refine blk_drewN ?_ _|refine blk_drew ?_|refine blk_alloc ?_ _));exact BK199.out) hb)
             have n1_ := aK (below_step (by repeat (first|(with_reducible first|apply bA|apply bN|apply bD|refine below_set ?_ GE199.out)|exact HB.out)) hb)
             have n2_ := aK (hbox)
             have n3_ := aK ((by rw [hg];exact (below_size (by repeat (first|(with_reducible first|apply bA|apply bN|apply bD|refine below_set ?_ GE199.out)|exact HB.out))) : w.heap.size ≤ gb201))
             have n4_ := aK ((by rw [hg];exact (below_size (by repeat (first|(with_reducible first|apply bA|apply bN|apply bD|refine below_set ?_ GE199.out)|exact HB.out))) : w.heap.size ≤ gb201))
             have n5_ := aK ((by rw [hg];exact Nat.ne_of_lt (blk_lt (g := gb199) (o := .cells #[.string (⟨#[]⟩ : BA), .string (⟨#[]⟩ : BA)] 76 (0, 0)) (by (with_reducible repeat (first|refine blk_drewN ?_ _|refine blk_drew ?_|refine blk_alloc ?_ _));exact BK199.out)) : gb199 ≠ gb201))
             have n6_ := aK ((by rw [hg];exact Nat.ne_of_gt (blk_lt (g := gb199) (o := .cells #[.string (⟨#[]⟩ : BA), .string (⟨#[]⟩ : BA)] 76 (0, 0)) (by (with_reducible repeat (first|refine blk_drewN ?_ _|refine blk_drew ?_|refine blk_alloc ?_ _));exact BK199.out)) : gb201 ≠ gb199))
             clear BK199
             clear HB
             have BK199 := n0_
             have HB := n1_
             have BK201 := n2_
             have GW201 := n3_
             have GE201 := n4_
             have NB199_201 := n5_
             have NB201_199 := n6_
             clear n0_ n1_ n2_ n3_ n4_ n5_ n6_
             clear hb hbox hg
             refine hK.out _ _ trivial (fun hHeld => ?_)
             clear hK K
             refine norm_ (a' := ?_) ?_ ?_
             rotate_left
             ·show Act.put _ (some 5) _ = _
              simp only [Act.put, List.setIfInBounds_toArray, List.set_cons_zero, List.set_cons_succ, i64_w, i32_w]
              rfl
             refine one_ (i := 7) (N := some 34) #[true, true, true, true, true, true, true, true, false, true, false] rfl rfl (one_of HT_.out (by kernel_rfl)) (by decide) (fun K hK => ?_)
             refine goes_ Tryz.func109 (by kernel_rfl) rfl #[.string (a0.extract ((ji15) : Int).toNat a0.size)] (by rfl) rfl rfl (by (try simp only [List.map_toArray, List.map_cons, List.map_nil]);first|done|(simp only [hji15];rfl)|rfl|(simp only [List.length_drop, List.length_take];rfl)) ?_
             with_reducible refine (wicketmanref08_trim.calls kj4 (a0.extract ((ji15) : Int).toNat a0.size) t200 _ A18.out).mono ?_
             rintro e w' ⟨rfl, ⟨nd, rfl⟩⟩
             refine ⟨_, rfl, ?_⟩
             refine hK.out _ _ trivial (fun hHeld => ?_)
             clear hK K
             refine norm_ (a' := ?_) ?_ ?_
             rotate_left
             ·show Act.put _ (some 34) _ = _
              simp only [Act.put, List.setIfInBounds_toArray, List.set_cons_zero, List.set_cons_succ, i64_w, i32_w]
              rfl
             refine pure_ (i := 8) (N := some 35) (v := ?_) (a' := ?_) #[true, true, true, true, true, true, true, true, true, true, false] rfl rfl (any_of HT_.out (by kernel_rfl)) (fun _ _ _ h => h) (Or.inl ⟨by rfl, ?_⟩) ?_ ?_
             rotate_left
             ·intro w'
              go_simp
              with_reducible rfl
             rotate_left
             ·simp only [Act.put, List.setIfInBounds_toArray, List.set_cons_zero, List.set_cons_succ, i64_w, i32_w]
              rfl
             exact norm_ (by simp only [putAll, Act.put, List.setIfInBounds_toArray, List.set_cons_zero, List.set_cons_succ]) (hCont (gb201) _ ⟨(by (with_reducible repeat (first|refine blk_drewN ?_ _|refine blk_drew ?_|refine blk_alloc ?_ _));exact BK199.out), (by (with_reducible repeat (first|refine blk_drewN ?_ _|refine blk_drew ?_|refine blk_alloc ?_ _));exact BK201.out), GW201.out, GE201.out, NB199_201.out, NB201_199.out, (by repeat (first|(with_reducible first|apply bA|apply bN|apply bD|refine below_set ?_ GE199.out|refine below_set ?_ GE201.out)|exact HB.out))⟩)
           rintro gb201 w33 ⟨h0_, h1_, h2_, h3_, h4_, h5_, h6_⟩
           have n0_ : Aside0 (w33.heap[gb199]? = some (.cells #[.string (⟨#[]⟩ : BA), .string (⟨#[]⟩ : BA)] 76 (0, 0))) := ⟨h0_⟩
           have n1_ : Aside0 (w33.heap[gb201]? = some (.cells #[.string (⟨#[]⟩ : BA), .string (⟨#[]⟩ : BA)] 76 (0, 0))) := ⟨h1_⟩
           have n2_ : Aside0 (w.heap.size ≤ gb201) := ⟨h2_⟩
           have n3_ : Aside0 (w.heap.size ≤ gb201) := ⟨h3_⟩
           have n4_ : Aside0 (gb199 ≠ gb201) := ⟨h4_⟩
           have n5_ : Aside0 (gb201 ≠ gb199) := ⟨h5_⟩
           have n6_ : Aside0 (Below w.heap.size w w33) := ⟨h6_⟩
           clear BK199
           clear HB
           clear h0_ h1_ h2_ h3_ h4_ h5_ h6_
           have BK199 := n0_
           have BK201 := n1_
           have GW201 := n2_
           have GE201 := n3_
           have NB199_201 := n4_
           have NB201_199 := n5_
           have HB := n6_
           clear n0_ n1_ n2_ n3_ n4_ n5_ n6_
           have hHeld := trivial
           refine norm_ (a' := ?_) ?_ ?_
           rotate_left
           ·simp only [putAll, Act.put, List.setIfInBounds_toArray, List.set_cons_zero, List.set_cons_succ]
            rfl
           refine one_ (i := 10) (N := none) #[true, true, true, true, true, true, true, true, true, true, true] rfl rfl (one_of HT_.out (by kernel_rfl)) (by decide) (fun K hK => ?_)
           have hs34 : w33.cell? ⟨gb201, 0, none⟩ = some (.string (⟨#[]⟩ : BA)) := (blk_cell BK201.out 0).trans rfl
           have hfs34 := blk_frozen BK201.out 0
           have hns34_0 := NB199_201.out
           have hms34_0 := NB201_199.out
           have hs35 : w33.cell? ⟨gb201, 1, none⟩ = some (.string (⟨#[]⟩ : BA)) := (blk_cell BK201.out 1).trans rfl
           have hfs35 := blk_frozen BK201.out 1
           have hns35_0 := NB199_201.out
           have hms35_0 := NB201_199.out
           refine skip_ (w1 := ?_) (by rfl) rfl ?_ ?_
           rotate_left
           ·go_simp
            rfl
           refine hK.out _ _ trivial (fun hHeld => ?_)
           clear hK K
           refine done_ (done_of HT_.out (by kernel_rfl)) ?_
           have hnb36 := NB201_199.out
           have hnc36 := NB199_201.out
           have hcz37_0 : w33.cell? ⟨gb201, 0, none⟩ = some (.string (⟨#[]⟩ : BA)) := (blk_cell BK201.out 0).trans rfl
           have hcz37_1 : w33.cell? ⟨gb201, 1, none⟩ = some (.string (⟨#[]⟩ : BA)) := (blk_cell BK201.out 1).trans rfl
           have hfz37_0 := blk_frozen BK201.out 0
           have hfz37_1 := blk_frozen BK201.out 1
           try go_wp2_with (first|((with_reducible refine gate_callee (f := 110) rfl ?_);refine goesL_ (some 38) rfl rfl Tryz.func110 (by kernel_rfl) rfl #[.string (a0.extract 0 (x4_4 : Int).toNat)] rfl (by (try simp only [List.map_toArray, List.map_cons, List.map_nil]);first|done|rfl|(simp only [List.length_drop, List.length_take];rfl)) ?_;(with_reducible refine (wicketmanref08_Token.calls kj4 (a0.extract 0 (x4_4 : Int).toNat) true _ A19.out).mono ?_);rintro e w' ⟨rfl, ⟨nd, rfl⟩⟩;refine ⟨_, rfl, ?_⟩)|(go_at_call 111;(with_reducible refine (wicketmanref08_Value.calls kj4 t200 false _ A21.out).mono ?_);rintro e w' ⟨rfl, ⟨nd, rfl⟩⟩;have hcz38_0 : w33.cell? ⟨gb199, 0, none⟩ = some (.string (⟨#[]⟩ : BA)) := (blk_cell BK199.out 0).trans rfl;have hcz38_1 : w33.cell? ⟨gb199, 1, none⟩ = some (.string (⟨#[]⟩ : BA)) := (blk_cell BK199.out 1).trans rfl;have hfz38_0 := blk_frozen BK199.out 0;have hfz38_1 := blk_frozen BK199.out 1))
           refine bodyPost_ret (results_ct rfl _ _ gb199 76 #[.string (⟨#[]⟩ : BA), .string (⟨#[]⟩ : BA)] (0, 0) _ rfl (by (with_reducible repeat (first|refine blk_drewN ?_ _|refine blk_drew ?_|refine blk_alloc ?_ _));refine blk_put (cs := #[.string (⟨#[]⟩ : BA), .string (⟨#[]⟩ : BA)]) ?_ 1 _ rfl;(with_reducible repeat (first|refine blk_drewN ?_ _|refine blk_drew ?_|refine blk_alloc ?_ _));refine blk_put (cs := #[.string (⟨#[]⟩ : BA), .string (⟨#[]⟩ : BA)]) ?_ 0 _ rfl;(with_reducible repeat (first|refine blk_drewN ?_ _|refine blk_drew ?_|refine blk_alloc ?_ _));refine blk_far ?_ NB199_201.out _;(with_reducible repeat (first|refine blk_drewN ?_ _|refine blk_drew ?_|refine blk_alloc ?_ _));refine blk_far ?_ NB199_201.out _;(with_reducible repeat (first|refine blk_drewN ?_ _|refine blk_drew ?_|refine blk_alloc ?_ _));exact BK199.out) Tryz.underlying76 rfl (by kernel_rfl)) rfl ?_
           exact ⟨by first|rfl|(simp [errW_none, errW_some] <;> rfl)|(simp only [← hji15];first|rfl|(simp [errW_none, errW_some] <;> rfl))|(simp [*, errW_none, errW_some] <;> rfl), by repeat (first|(with_reducible first|apply bA|apply bN|apply bD|refine below_set ?_ GE199.out|refine below_set ?_ GE201.out)|exact HB.out)⟩
         ·replace c20 := Bool.eq_false_iff.mpr c20
          subst c20
          rw [if_neg (show ¬ (false = true) by decide)] at H
          simp only [Option.some.injEq, Prod.mk.injEq] at H
          obtain ⟨rfl, rfl, rfl⟩ := H
          try go_wp2
          have n0_ := aK (blk_drew BK199.out)
          have n1_ := aK (below_drew1 HB.out)
          clear BK199
          clear HB
          have BK199 := n0_
          have HB := n1_
          clear n0_ n1_
          refine start_ (n := 11) (S := fun w' => True) (ds := []) #[false, false, false, false, false, false, false, false, false, false, false] (by kernel_rfl) rfl rfl trivial (fun hHeld => ?_);refine with_tabW wicketmanref08_Field.tab8 wicketmanref08_Field.bits8 (fun HT_ HW_ => ?_)
          generalize wc.drew = w39 at BK199 HB hHeld ⊢
          refine pure_ (i := 0) (N := some 27) (v := ?_) (a' := ?_) #[true, false, false, false, false, false, false, false, false, false, false] rfl rfl (any_of HT_.out (by kernel_rfl)) (fun _ _ _ h => h) (Or.inl ⟨by rfl, ?_⟩) ?_ ?_
          rotate_left
          ·intro w'
           go_simp
           with_reducible rfl
          rotate_left
          ·simp only [Act.put, List.setIfInBounds_toArray, List.set_cons_zero, List.set_cons_succ, i64_w, i32_w]
           rfl
          refine pure_ (i := 1) (N := some 28) (v := ?_) (a' := ?_) #[true, true, false, false, false, false, false, false, false, false, false] rfl rfl (any_of HT_.out (by kernel_rfl)) (fun _ _ _ h => h) (Or.inl ⟨by rfl, ?_⟩) ?_ ?_
          rotate_left
          ·intro w'
           go_simp
           with_reducible rfl
          rotate_left
          ·simp only [Act.put, List.setIfInBounds_toArray, List.set_cons_zero, List.set_cons_succ, i64_w, i32_w]
           rfl
          refine pure_ (i := 2) (N := some 29) (v := ?_) (a' := ?_) #[true, true, true, false, false, false, false, false, false, false, false] rfl rfl (any_of HT_.out (by kernel_rfl)) (fun _ _ _ h => h) (Or.inl ⟨by rfl, ?_⟩) ?_ ?_
          rotate_left
          ·intro w'
           go_simp
           with_reducible rfl
          rotate_left
          ·simp only [Act.put, List.setIfInBounds_toArray, List.set_cons_zero, List.set_cons_succ, i64_w, i32_w]
           rfl
          refine pure_ (i := 3) (N := some 30) (v := ?_) (a' := ?_) #[true, true, true, true, false, false, false, false, false, false, false] rfl rfl (any_of HT_.out (by kernel_rfl)) (fun _ _ _ h => h) (Or.inl ⟨by rfl, ?_⟩) ?_ ?_
          rotate_left
          ·intro w'
           go_simp
           with_reducible rfl
          rotate_left
          ·simp only [Act.put, List.setIfInBounds_toArray, List.set_cons_zero, List.set_cons_succ, i64_w, i32_w]
           rfl
          refine pure_ (i := 4) (N := some 31) (v := ?_) (a' := ?_) #[true, true, true, true, true, false, false, false, false, false, false] rfl rfl (any_of HT_.out (by kernel_rfl)) (fun _ _ _ h => h) (Or.inl ⟨by rfl, ?_⟩) ?_ ?_
          rotate_left
          ·intro w'
           go_simp
           with_reducible rfl
          rotate_left
          ·simp only [Act.put, List.setIfInBounds_toArray, List.set_cons_zero, List.set_cons_succ, i64_w, i32_w]
           rfl
          refine pure_ (i := 5) (N := some 32) (v := ?_) (a' := ?_) #[true, true, true, true, true, true, false, false, false, false, false] rfl rfl (any_of HT_.out (by kernel_rfl)) (fun _ _ _ h => h) (Or.inl ⟨by rfl, ?_⟩) ?_ ?_
          rotate_left
          ·intro w'
           go_simp
           with_reducible rfl
          rotate_left
          ·simp only [Act.put, List.setIfInBounds_toArray, List.set_cons_zero, List.set_cons_succ, i64_w, i32_w]
           rfl
          refine pure_ (i := 6) (N := some 33) (v := ?_) (a' := ?_) #[true, true, true, true, true, true, true, false, false, false, false] rfl rfl (any_of HT_.out (by kernel_rfl)) (fun _ _ _ h => h) (Or.inl ⟨by rfl, ?_⟩) ?_ ?_
          rotate_left
          ·intro w'
           go_simp
           with_reducible rfl
          rotate_left
          ·simp only [Act.put, List.setIfInBounds_toArray, List.set_cons_zero, List.set_cons_succ, i64_w, i32_w]
           rfl
          refine join_ (σ := Nat) 1 #[true, true, true, true, true, true, true, true, true, true, false] (fun s_ => [(34, .string t200), (5, .pointer (some ⟨s_, 0, none⟩)), (35, .agg #[.string (a0.extract 0 (x4_4 : Int).toNat), .string t200])]) (fun s_ w' => (w'.heap[gb199]? = some (.cells #[.string (⟨#[]⟩ : BA), .string (⟨#[]⟩ : BA)] 76 (0, 0))) ∧ (w'.heap[s_]? = some (.cells #[.string (⟨#[]⟩ : BA), .string (⟨#[]⟩ : BA)] 76 (0, 0))) ∧ (w.heap.size ≤ s_) ∧ (w.heap.size ≤ s_) ∧ (gb199 ≠ s_) ∧ (s_ ≠ gb199) ∧ (Below w.heap.size w w')) ?_ ?_
          rotate_left
          ·intro hCont
           refine two_ (i := 7) (j := 9) (Ni := some 34) (Nj := some 5) #[true, true, true, true, true, true, true, true, false, false, false] #[true, true, true, true, true, true, true, false, false, true, false] rfl rfl rfl rfl (two_of HT_.out (by kernel_rfl)) (by decide) (by decide) (fun K hK => ?_) (fun K hK => ?_)
           ·skip
            refine goes_ Tryz.func109 (by kernel_rfl) rfl #[.string (a0.extract ((ji15) : Int).toNat a0.size)] (by rfl) rfl rfl (by (try simp only [List.map_toArray, List.map_cons, List.map_nil]);first|done|(simp only [hji15];rfl)|rfl|(simp only [List.length_drop, List.length_take];rfl)) ?_
            with_reducible refine (wicketmanref08_trim.calls kj4 (a0.extract ((ji15) : Int).toNat a0.size) t200 _ A18.out).mono ?_
            rintro e w' ⟨rfl, ⟨nd, rfl⟩⟩
            refine ⟨_, rfl, ?_⟩
            refine hK.out _ _ trivial (fun hHeld => ?_)
            clear hK K
            refine norm_ (a' := ?_) ?_ ?_
            rotate_left
            ·show Act.put _ (some 34) _ = _
             simp only [Act.put, List.setIfInBounds_toArray, List.set_cons_zero, List.set_cons_succ, i64_w, i32_w]
             rfl
            refine pure_ (i := 8) (N := some 35) (v := ?_) (a' := ?_) #[true, true, true, true, true, true, true, true, true, false, false] rfl rfl (any_of HT_.out (by kernel_rfl)) (fun _ _ _ h => h) (Or.inl ⟨by rfl, ?_⟩) ?_ ?_
            rotate_left
            ·intro w'
             go_simp
             with_reducible rfl
            rotate_left
            ·simp only [Act.put, List.setIfInBounds_toArray, List.set_cons_zero, List.set_cons_succ, i64_w, i32_w]
             rfl
            refine one_ (i := 9) (N := some 5) #[true, true, true, true, true, true, true, true, true, true, false] rfl rfl (one_of HT_.out (by kernel_rfl)) (by decide) (fun K hK => ?_)
            refine box_step ?hg (N := 5) ?hd (cs := #[.string (⟨#[]⟩ : BA), .string (⟨#[]⟩ : BA)]) (t := 76) ?hr ?_;(case hd => rfl);(case hg => rfl);(case hr => first|(go_simp;done)|(go_simp;rfl))
            intro gb201 hg w40 hbox hb
            have n0_ := aK (blk_below (g := gb199) (o := .cells #[.string (⟨#[]⟩ : BA), .string (⟨#[]⟩ : BA)] 76 (0, 0)) (by (with_reducible repeat (first|refine blk_drewN ?_ _|refine blk_drew ?_|refine blk_alloc ?_ _));exact BK199.out) hb)
            have n1_ := aK (below_step (by repeat (first|(with_reducible first|apply bA|apply bN|apply bD|refine below_set ?_ GE199.out)|exact HB.out)) hb)
            have n2_ := aK (hbox)
            have n3_ := aK ((by rw [hg];exact (below_size (by repeat (first|(with_reducible first|apply bA|apply bN|apply bD|refine below_set ?_ GE199.out)|exact HB.out))) : w.heap.size ≤ gb201))
            have n4_ := aK ((by rw [hg];exact (below_size (by repeat (first|(with_reducible first|apply bA|apply bN|apply bD|refine below_set ?_ GE199.out)|exact HB.out))) : w.heap.size ≤ gb201))
            have n5_ := aK ((by rw [hg];exact Nat.ne_of_lt (blk_lt (g := gb199) (o := .cells #[.string (⟨#[]⟩ : BA), .string (⟨#[]⟩ : BA)] 76 (0, 0)) (by (with_reducible repeat (first|refine blk_drewN ?_ _|refine blk_drew ?_|refine blk_alloc ?_ _));exact BK199.out)) : gb199 ≠ gb201))
            have n6_ := aK ((by rw [hg];exact Nat.ne_of_gt (blk_lt (g := gb199) (o := .cells #[.string (⟨#[]⟩ : BA), .string (⟨#[]⟩ : BA)] 76 (0, 0)) (by (with_reducible repeat (first|refine blk_drewN ?_ _|refine blk_drew ?_|refine blk_alloc ?_ _));exact BK199.out)) : gb201 ≠ gb199))
            clear BK199
            clear HB
            have BK199 := n0_
            have HB := n1_
            have BK201 := n2_
            have GW201 := n3_
            have GE201 := n4_
            have NB199_201 := n5_
            have NB201_199 := n6_
            clear n0_ n1_ n2_ n3_ n4_ n5_ n6_
            clear hb hbox hg
            refine hK.out _ _ trivial (fun hHeld => ?_)
            clear hK K
            refine norm_ (a' := ?_) ?_ ?_
            rotate_left
            ·show Act.put _ (some 5) _ = _
             simp only [Act.put, List.setIfInBounds_toArray, List.set_cons_zero, List.set_cons_succ, i64_w, i32_w]
             rfl
            exact norm_ (by simp only [putAll, Act.put, List.setIfInBounds_toArray, List.set_cons_zero, List.set_cons_succ]) (hCont (gb201) _ ⟨(by (with_reducible repeat (first|refine blk_drewN ?_ _|refine blk_drew ?_|refine blk_alloc ?_ _));exact BK199.out), (by (with_reducible repeat (first|refine blk_drewN ?_ _|refine blk_drew ?_|refine blk_alloc ?_ _));exact BK201.out), GW201.out, GE201.out, NB199_201.out, NB201_199.out, (by repeat (first|(with_reducible first|apply bA|apply bN|apply bD|refine below_set ?_ GE199.out|refine below_set ?_ GE201.out)|exact HB.out))⟩)
           ·skip
            refine box_step ?hg (N := 5) ?hd (cs := #[.string (⟨#[]⟩ : BA), .string (⟨#[]⟩ : BA)]) (t := 76) ?hr ?_;(case hd => rfl);(case hg => rfl);(case hr => first|(go_simp;done)|(go_simp;rfl))
            intro gb201 hg w40 hbox hb
            have n0_ := aK (blk_below (g := gb199) (o := .cells #[.string (⟨#[]⟩ : BA), .string (⟨#[]⟩ : BA)] 76 (0, 0)) (by (with_reducible repeat (first|refine blk_drewN ?_ _|refine blk_drew ?_|refine blk_alloc ?_ _));exact BK199.out) hb)
            have n1_ := aK (below_step (by repeat (first|(with_reducible first|apply bA|apply bN|apply bD|refine below_set ?_ GE199.out)|exact HB.out)) hb)
            have n2_ := aK (hbox)
            have n3_ := aK ((by rw [hg];exact (below_size (by repeat (first|(with_reducible first|apply bA|apply bN|apply bD|refine below_set ?_ GE199.out)|exact HB.out))) : w.heap.size ≤ gb201))
            have n4_ := aK ((by rw [hg];exact (below_size (by repeat (first|(with_reducible first|apply bA|apply bN|apply bD|refine below_set ?_ GE199.out)|exact HB.out))) : w.heap.size ≤ gb201))
            have n5_ := aK ((by rw [hg];exact Nat.ne_of_lt (blk_lt (g := gb199) (o := .cells #[.string (⟨#[]⟩ : BA), .string (⟨#[]⟩ : BA)] 76 (0, 0)) (by (with_reducible repeat (first|refine blk_drewN ?_ _|refine blk_drew ?_|refine blk_alloc ?_ _));exact BK199.out)) : gb199 ≠ gb201))
            have n6_ := aK ((by rw [hg];exact Nat.ne_of_gt (blk_lt (g := gb199) (o := .cells #[.string (⟨#[]⟩ : BA), .string (⟨#[]⟩ : BA)] 76 (0, 0)) (by (with_reducible repeat (first|refine blk_drewN ?_ _|refine blk_drew ?_|refine blk_alloc ?_ _));exact BK199.out)) : gb201 ≠ gb199))
            clear BK199
            clear HB
            have BK199 := n0_
            have HB := n1_
            have BK201 := n2_
            have GW201 := n3_
            have GE201 := n4_
            have NB199_201 := n5_
            have NB201_199 := n6_
            clear n0_ n1_ n2_ n3_ n4_ n5_ n6_
            clear hb hbox hg
            refine hK.out _ _ trivial (fun hHeld => ?_)
            clear hK K
            refine norm_ (a' := ?_) ?_ ?_
            rotate_left
            ·show Act.put _ (some 5) _ = _
             simp only [Act.put, List.setIfInBounds_toArray, List.set_cons_zero, List.set_cons_succ, i64_w, i32_w]
             rfl
            refine one_ (i := 7) (N := some 34) #[true, true, true, true, true, true, true, true, false, true, false] rfl rfl (one_of HT_.out (by kernel_rfl)) (by decide) (fun K hK => ?_)
            refine goes_ Tryz.func109 (by kernel_rfl) rfl #[.string (a0.extract ((ji15) : Int).toNat a0.size)] (by rfl) rfl rfl (by (try simp only [List.map_toArray, List.map_cons, List.map_nil]);first|done|(simp only [hji15];rfl)|rfl|(simp only [List.length_drop, List.length_take];rfl)) ?_
            with_reducible refine (wicketmanref08_trim.calls kj4 (a0.extract ((ji15) : Int).toNat a0.size) t200 _ A18.out).mono ?_
            rintro e w' ⟨rfl, ⟨nd, rfl⟩⟩
            refine ⟨_, rfl, ?_⟩
            refine hK.out _ _ trivial (fun hHeld => ?_)
            clear hK K
            refine norm_ (a' := ?_) ?_ ?_
            rotate_left
            ·show Act.put _ (some 34) _ = _
             simp only [Act.put, List.setIfInBounds_toArray, List.set_cons_zero, List.set_cons_succ, i64_w, i32_w]
             rfl
            refine pure_ (i := 8) (N := some 35) (v := ?_) (a' := ?_) #[true, true, true, true, true, true, true, true, true, true, false] rfl rfl (any_of HT_.out (by kernel_rfl)) (fun _ _ _ h => h) (Or.inl ⟨by rfl, ?_⟩) ?_ ?_
            rotate_left
            ·intro w'
             go_simp
             with_reducible rfl
            rotate_left
            ·simp only [Act.put, List.setIfInBounds_toArray, List.set_cons_zero, List.set_cons_succ, i64_w, i32_w]
             rfl
            exact norm_ (by simp only [putAll, Act.put, List.setIfInBounds_toArray, List.set_cons_zero, List.set_cons_succ]) (hCont (gb201) _ ⟨(by (with_reducible repeat (first|refine blk_drewN ?_ _|refine blk_drew ?_|refine blk_alloc ?_ _));exact BK199.out), (by (with_reducible repeat (first|refine blk_drewN ?_ _|refine blk_drew ?_|refine blk_alloc ?_ _));exact BK201.out), GW201.out, GE201.out, NB199_201.out, NB201_199.out, (by repeat (first|(with_reducible first|apply bA|apply bN|apply bD|refine below_set ?_ GE199.out|refine below_set ?_ GE201.out)|exact HB.out))⟩)
          rintro gb201 w41 ⟨h0_, h1_, h2_, h3_, h4_, h5_, h6_⟩
          have n0_ : Aside0 (w41.heap[gb199]? = some (.cells #[.string (⟨#[]⟩ : BA), .string (⟨#[]⟩ : BA)] 76 (0, 0))) := ⟨h0_⟩
          have n1_ : Aside0 (w41.heap[gb201]? = some (.cells #[.string (⟨#[]⟩ : BA), .string (⟨#[]⟩ : BA)] 76 (0, 0))) := ⟨h1_⟩
          have n2_ : Aside0 (w.heap.size ≤ gb201) := ⟨h2_⟩
          have n3_ : Aside0 (w.heap.size ≤ gb201) := ⟨h3_⟩
          have n4_ : Aside0 (gb199 ≠ gb201) := ⟨h4_⟩
          have n5_ : Aside0 (gb201 ≠ gb199) := ⟨h5_⟩
          have n6_ : Aside0 (Below w.heap.size w w41) := ⟨h6_⟩
          clear BK199
          clear HB
          clear h0_ h1_ h2_ h3_ h4_ h5_ h6_
          have BK199 := n0_
          have BK201 := n1_
          have GW201 := n2_
          have GE201 := n3_
          have NB199_201 := n4_
          have NB201_199 := n5_
          have HB := n6_
          clear n0_ n1_ n2_ n3_ n4_ n5_ n6_
          have hHeld := trivial
          refine norm_ (a' := ?_) ?_ ?_
          rotate_left
          ·simp only [putAll, Act.put, List.setIfInBounds_toArray, List.set_cons_zero, List.set_cons_succ]
           rfl
          refine one_ (i := 10) (N := none) #[true, true, true, true, true, true, true, true, true, true, true] rfl rfl (one_of HT_.out (by kernel_rfl)) (by decide) (fun K hK => ?_)
          have hs42 : w41.cell? ⟨gb201, 0, none⟩ = some (.string (⟨#[]⟩ : BA)) := (blk_cell BK201.out 0).trans rfl
          have hfs42 := blk_frozen BK201.out 0
          have hns42_0 := NB199_201.out
          have hms42_0 := NB201_199.out
          have hs43 : w41.cell? ⟨gb201, 1, none⟩ = some (.string (⟨#[]⟩ : BA)) := (blk_cell BK201.out 1).trans rfl
          have hfs43 := blk_frozen BK201.out 1
          have hns43_0 := NB199_201.out
          have hms43_0 := NB201_199.out
          refine skip_ (w1 := ?_) (by rfl) rfl ?_ ?_
          rotate_left
          ·go_simp
           rfl
          refine hK.out _ _ trivial (fun hHeld => ?_)
          clear hK K
          refine done_ (done_of HT_.out (by kernel_rfl)) ?_
          have hnb44 := NB201_199.out
          have hnc44 := NB199_201.out
          have hcz45_0 : w41.cell? ⟨gb201, 0, none⟩ = some (.string (⟨#[]⟩ : BA)) := (blk_cell BK201.out 0).trans rfl
          have hcz45_1 : w41.cell? ⟨gb201, 1, none⟩ = some (.string (⟨#[]⟩ : BA)) := (blk_cell BK201.out 1).trans rfl
          have hfz45_0 := blk_frozen BK201.out 0
          have hfz45_1 := blk_frozen BK201.out 1
          try go_wp2_with (first|((with_reducible refine gate_callee (f := 110) rfl ?_);refine goesL_ (some 38) rfl rfl Tryz.func110 (by kernel_rfl) rfl #[.string (a0.extract 0 (x4_4 : Int).toNat)] rfl (by (try simp only [List.map_toArray, List.map_cons, List.map_nil]);first|done|rfl|(simp only [List.length_drop, List.length_take];rfl)) ?_;(with_reducible refine (wicketmanref08_Token.calls kj4 (a0.extract 0 (x4_4 : Int).toNat) false _ A19.out).mono ?_);rintro e w' ⟨rfl, ⟨nd, rfl⟩⟩;refine ⟨_, rfl, ?_⟩;have hcz46_0 : w41.cell? ⟨gb199, 0, none⟩ = some (.string (⟨#[]⟩ : BA)) := (blk_cell BK199.out 0).trans rfl;have hcz46_1 : w41.cell? ⟨gb199, 1, none⟩ = some (.string (⟨#[]⟩ : BA)) := (blk_cell BK199.out 1).trans rfl;have hfz46_0 := blk_frozen BK199.out 0;have hfz46_1 := blk_frozen BK199.out 1))
          refine bodyPost_ret (results_ct rfl _ _ gb199 76 #[.string (⟨#[]⟩ : BA), .string (⟨#[]⟩ : BA)] (0, 0) _ rfl (by (with_reducible repeat (first|refine blk_drewN ?_ _|refine blk_drew ?_|refine blk_alloc ?_ _));refine blk_put (cs := #[.string (⟨#[]⟩ : BA), .string (⟨#[]⟩ : BA)]) ?_ 1 _ rfl;(with_reducible repeat (first|refine blk_drewN ?_ _|refine blk_drew ?_|refine blk_alloc ?_ _));refine blk_put (cs := #[.string (⟨#[]⟩ : BA), .string (⟨#[]⟩ : BA)]) ?_ 0 _ rfl;(with_reducible repeat (first|refine blk_drewN ?_ _|refine blk_drew ?_|refine blk_alloc ?_ _));refine blk_far ?_ NB199_201.out _;(with_reducible repeat (first|refine blk_drewN ?_ _|refine blk_drew ?_|refine blk_alloc ?_ _));refine blk_far ?_ NB199_201.out _;(with_reducible repeat (first|refine blk_drewN ?_ _|refine blk_drew ?_|refine blk_alloc ?_ _));exact BK199.out) Tryz.underlying76 rfl (by kernel_rfl)) rfl ?_
          exact ⟨by first|rfl|(simp [errW_none, errW_some] <;> rfl)|(simp only [← hji15];first|rfl|(simp [errW_none, errW_some] <;> rfl))|(simp [*, errW_none, errW_some] <;> rfl), by repeat (first|(with_reducible first|apply bA|apply bN|apply bD|refine below_set ?_ GE199.out|refine below_set ?_ GE201.out)|exact HB.out)⟩
        ·rw [if_neg c17] at H
         exact absurd H (by simp)
       ·rw [if_neg c16] at H
        exact absurd H (by simp)
      ·rw [if_neg c14] at H
       exact absurd H (by simp)
     ·rw [if_neg c13] at H
      exact absurd H (by simp)
end Go.Proofs.YthdiiiopjkaifaaGreatDoor.Pall

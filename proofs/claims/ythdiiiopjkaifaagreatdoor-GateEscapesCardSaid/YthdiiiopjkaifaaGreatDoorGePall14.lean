import Derived.Test.YthdiiiopjkaifaaGreatDoorGePall0
import Derived.Test.YthdiiiopjkaifaaGreatDoorGePall13
namespace Go.Proofs.YthdiiiopjkaifaaGreatDoor.Pall
open Go.RowKit Go.Proofs.YthdiiiopjkaifaaGreatDoorW.PrintWords Go.Proofs.YthdiiiopjkaifaaGreatDoorW.PrintLast Go.Proofs.YthdiiiopjkaifaaGreatDoorW.PrintMore
attribute [local go_sem] max2_int min2_int max_two min_two
set_option linter.unusedVariables false
set_option linter.unusedSimpArgs false
mutual
def wicketmanref06_One.j0 : Nat → ByteArray → Bool → Option (Int × Int)
 | 0, _, _ => none
 | k + 1, x0, x23 => if x23 = true then (some (0, 0)) else (if 0 < (x0.size : Int) then ((wicketmanref06_more.f k (bt x0 0)).bind fun t266 => (if t266 > 0 then (if 0 ≤ (IntKind.u64.wrap (t266)) then (if (shr .i64 64 (IntKind.u64.wrap (t266))) = 0 then (none) else (wicketmanref06_One.j1 k x0 t266 (Int.tmod (wrap64 (bt x0 0)) (shr .i64 64 (IntKind.u64.wrap (t266)))))) else (none)) else (wicketmanref06_One.j1 k x0 t266 (wrap64 (bt x0 0))))) else (none))
def wicketmanref06_One.j1 : Nat → ByteArray → Int → Int → Option (Int × Int)
 | 0, _, _, _ => none
 | k + 1, x0, x4, x5 => wicketmanref06_One.l0 k x0 x4 x5 1
def wicketmanref06_One.l0 : Nat → ByteArray → Int → Int → Int → Option (Int × Int)
 | 0, _, _, _, _ => none
 | k + 1, x0, x4, x5, x6 => if x6 ≤ x4 then (if 0 ≤ x6 then (if x6 < (x0.size : Int) then (if (bt x0 x6) < 128 then (some (0, 0)) else (if (bt x0 x6) > 191 then (some (0, 0)) else (wicketmanref06_One.l0 k x0 x4 (wrap64 ((wrap64 (64 * x5)) + (wrap64 (Int.tmod (bt x0 x6) 64)))) (wrap64 (x6 + 1))))) else (none)) else (none)) else ((some (([0, 128, 2048, 65536] : List Int) : List Int)).bind fun y267 => (if 0 ≤ x4 then (if x4 < (y267.length : Int) then (if x5 < (rd y267 x4) then (some (0, 0)) else (if x5 ≥ 55296 then (if x5 ≤ 57343 then (some (0, 0)) else (if x5 > 1114111 then (some (0, 0)) else (some (x5, wrap64 (x4 + 1))))) else (if x5 > 1114111 then (some (0, 0)) else (some (x5, wrap64 (x4 + 1)))))) else (none)) else (none)))
end
def wicketmanref06_One.f (k : Nat) (a0 : ByteArray) : Option (Int × Int) := if a0.toList = ([] : List UInt8) then (wicketmanref06_One.j0 k a0 true) else (if 0 < (a0.size : Int) then ((wicketmanref06_more.f k (bt a0 0)).bind fun t264 => (if t264 < 0 then (wicketmanref06_One.j0 k a0 true) else ((wicketmanref06_more.f k (bt a0 0)).bind fun t265 => (wicketmanref06_One.j0 k a0 (decide (t265 ≥ (a0.size : Int))))))) else (none))
theorem wicketmanref06_One.mono_l : ∀ k, (∀ y0 y1, LeO (wicketmanref06_One.j0 k y0 y1) (wicketmanref06_One.j0 (k + 1) y0 y1)) ∧ (∀ y0 y1 y2, LeO (wicketmanref06_One.j1 k y0 y1 y2) (wicketmanref06_One.j1 (k + 1) y0 y1 y2)) ∧ (∀ y0 y1 y2 y3, LeO (wicketmanref06_One.l0 k y0 y1 y2 y3) (wicketmanref06_One.l0 (k + 1) y0 y1 y2 y3))
 | 0 => ⟨fun _ _ r h => by simp [wicketmanref06_One.j0] at h, fun _ _ _ r h => by simp [wicketmanref06_One.j1] at h, fun _ _ _ _ r h => by simp [wicketmanref06_One.l0] at h⟩
 | k + 1 => by
  obtain ⟨ih0, ih1, ih2⟩ := wicketmanref06_One.mono_l k
  refine ⟨?_, ?_, ?_⟩
  ·intro y0 y1
   unfold wicketmanref06_One.j0
   repeat' first|(with_reducible first|exact ih0 _ _|exact ih1 _ _ _|exact ih2 _ _ _ _|exact wicketmanref06_more.mono _ _|exact LeO.refl _|exact LeO.none _|refine LeO.ite ?_ ?_|refine LeO.bind ?_ (fun _ => ?_))|exact LeO.none _|refine LeO.ite ?_ ?_|refine LeO.bind ?_ (fun _ => ?_)
  ·intro y0 y1 y2
   unfold wicketmanref06_One.j1
   repeat' first|(with_reducible first|exact ih0 _ _|exact ih1 _ _ _|exact ih2 _ _ _ _|exact wicketmanref06_more.mono _ _|exact LeO.refl _|exact LeO.none _|refine LeO.ite ?_ ?_|refine LeO.bind ?_ (fun _ => ?_))|exact LeO.none _|refine LeO.ite ?_ ?_|refine LeO.bind ?_ (fun _ => ?_)
  ·intro y0 y1 y2 y3
   unfold wicketmanref06_One.l0
   repeat' first|(with_reducible first|exact ih0 _ _|exact ih1 _ _ _|exact ih2 _ _ _ _|exact wicketmanref06_more.mono _ _|exact LeO.refl _|exact LeO.none _|refine LeO.ite ?_ ?_|refine LeO.bind ?_ (fun _ => ?_))|exact LeO.none _|refine LeO.ite ?_ ?_|refine LeO.bind ?_ (fun _ => ?_)
theorem wicketmanref06_One.mono : ∀ a0 k, LeO (wicketmanref06_One.f k a0) (wicketmanref06_One.f (k + 1) a0) := by
 intro a0 k
 obtain ⟨ih0, ih1, ih2⟩ := wicketmanref06_One.mono_l k
 unfold wicketmanref06_One.f
 repeat' first|(with_reducible first|exact ih0 _ _|exact ih1 _ _ _|exact ih2 _ _ _ _|exact wicketmanref06_more.mono _ _|exact LeO.refl _|exact LeO.none _|refine LeO.ite ?_ ?_|refine LeO.bind ?_ (fun _ => ?_))|exact LeO.none _|refine LeO.ite ?_ ?_|refine LeO.bind ?_ (fun _ => ?_)
set_option maxHeartbeats 8000000 in
set_option maxRecDepth 100000 in
theorem wicketmanref06_One.calls (k : Nat) (a0 : ByteArray) (r1 : Int) (r2 : Int) (w : World) (h : wicketmanref06_One.f k a0 = some (r1, r2)) :
  Calls Tryz.prog 134 #[.string a0] w fun e w' => e = .returned (.tuple #[.int .i64 r1, .int .i64 r2]) ∧ Below w.heap.size w w' := by
 have HB := aK (Below.refl w.heap.size w)
 have H : (if a0.toList = ([] : List UInt8) then (wicketmanref06_One.j0 k a0 true) else (if 0 < (a0.size : Int) then ((wicketmanref06_more.f k (bt a0 0)).bind fun t264 => (if t264 < 0 then (wicketmanref06_One.j0 k a0 true) else ((wicketmanref06_more.f k (bt a0 0)).bind fun t265 => (wicketmanref06_One.j0 k a0 (decide (t265 ≥ (a0.size : Int))))))) else (none))) = some (r1, r2) := h
 clear h
 have HC2 := aK H
 clear H
 go_enter Tryz.func134, Tryz.ntmps134
 go_upto_region 1 with (fail)
 go_cut [23] (fun v23 wc => ∃ (kq : Nat) (x23_1 : Bool), v23 = .bool x23_1 ∧ Aside0 (wicketmanref06_One.j0 kq a0 x23_1 = some (r1, r2)) ∧ Aside0 (kq ≤ k) ∧ Aside0 (Below w.heap.size w wc))
 case first =>
  have H := HC2.out
  clear HC2
  by_cases c3 : a0.toList = ([] : List UInt8)
  ·rw [if_pos c3] at H
   have c3b0 : (a0.toList == ([] : List UInt8)) = true := beq_iff_eq.mpr c3
   have c3b1 : (a0.toList != ([] : List UInt8)) = false := bne_eq_false_iff_eq.mpr c3
   clear c3
   (first|rw [c3b0]|(simp only [i64_w, i32_w];rw [c3b0])|skip)
   have H' := aK H
   clear H
   go_wp2
   go_meet
   case rel => exact ⟨_, (true), (by first|rfl|(simp;done)|(simp [*];done)), H', ⟨by first|omega|exact Nat.le_refl _⟩, ⟨by repeat (first|(with_reducible first|apply bA|apply bN|apply bD)|exact HB.out)⟩⟩
  ·rw [if_neg c3] at H
   have c3b0 : (a0.toList == ([] : List UInt8)) = false := beq_eq_false_iff_ne.mpr c3
   have c3b1 : (a0.toList != ([] : List UInt8)) = true := bne_iff_ne.mpr c3
   (first|rw [c3b0]|(simp only [i64_w, i32_w];rw [c3b0])|skip)
   by_cases c4 : 0 < (a0.size : Int)
   ·rw [if_pos c4] at H
    have c4b0 : decide (0 < (a0.size : Int)) = true := decide_eq_true c4
    have c4b1 : decide (0 < a0.size) = true := decide_eq_true (by omega)
    clear c4
    replace H := Option.bind_eq_some_iff.mp H
    obtain ⟨t264, A60, H⟩ := H
    try dsimp only at H
    have A6 := aK A60
    clear A60
    by_cases c7 : t264 < 0
    ·rw [if_pos c7] at H
     have c7b0 : decide (t264 < 0) = true := decide_eq_true c7
     clear c7
     have H' := aK H
     clear H
     have p5 : 0 ≤ (0 : Int) := (by omega)
     have q5 : 0 < a0.size := (by have : (0 : Int) < (a0.size : Int) := of_decide_eq_true (by first|(with_reducible assumption)|assumption);omega)
     have hx5 : ∀ h : 0 < a0.size, ((a0[0]'h).toNat : Int) = bt a0 0 := bt_at a0 0
     clear p5
     have qi5 : (0 < (a0.size : Int)) = True := eq_true (of_decide_eq_true (by first|(with_reducible assumption)|assumption))
     replace q5 := eq_true q5
     go_wp2_with (first|(go_at_call 183;(with_reducible refine (wicketmanref06_more.calls k (bt a0 0) t264 _ A6.out).mono ?_);rintro e w' ⟨rfl, ⟨nd, rfl⟩⟩))
     go_meet
     case rel => exact ⟨_, (true), (by first|rfl|(simp;done)|(simp [*];done)), H', ⟨by first|omega|exact Nat.le_refl _⟩, ⟨by repeat (first|(with_reducible first|apply bA|apply bN|apply bD)|exact HB.out)⟩⟩
    ·rw [if_neg c7] at H
     have c7b0 : decide (t264 < 0) = false := decide_eq_false c7
     clear c7
     replace H := Option.bind_eq_some_iff.mp H
     obtain ⟨t265, A90, H⟩ := H
     try dsimp only at H
     obtain rfl : t265 = t264 := Option.some.inj (A90.symm.trans A6.out)
     have A9 := aK A90
     clear A90
     have H' := aK H
     clear H
     have p5 : 0 ≤ (0 : Int) := (by omega)
     have q5 : 0 < a0.size := (by have : (0 : Int) < (a0.size : Int) := of_decide_eq_true (by first|(with_reducible assumption)|assumption);omega)
     have hx5 : ∀ h : 0 < a0.size, ((a0[0]'h).toNat : Int) = bt a0 0 := bt_at a0 0
     clear p5
     have qi5 : (0 < (a0.size : Int)) = True := eq_true (of_decide_eq_true (by first|(with_reducible assumption)|assumption))
     replace q5 := eq_true q5
     go_wp2_with (first|(go_at_call 183;(with_reducible refine (wicketmanref06_more.calls k (bt a0 0) t264 _ A6.out).mono ?_);rintro e w' ⟨rfl, ⟨nd, rfl⟩⟩;have p8 : 0 ≤ (0 : Int) := (by omega);have q8 : 0 < a0.size := (by have : (0 : Int) < (a0.size : Int) := of_decide_eq_true (by first|(with_reducible assumption)|assumption);omega);have hx8 : ∀ h : 0 < a0.size, ((a0[0]'h).toNat : Int) = bt a0 0 := bt_at a0 0;clear p8;have qi8 : (0 < (a0.size : Int)) = True := eq_true (of_decide_eq_true (by first|(with_reducible assumption)|assumption));replace q8 := eq_true q8)|(go_at_call 183;(with_reducible refine (wicketmanref06_more.calls k (bt a0 0) t265 _ A9.out).mono ?_);rintro e w' ⟨rfl, ⟨nd, rfl⟩⟩))
     go_meet
     case rel => exact ⟨_, (decide (t265 ≥ (a0.size : Int))), (by first|rfl|(simp;done)|(simp [*];done)), H', ⟨by first|omega|exact Nat.le_refl _⟩, ⟨by repeat (first|(with_reducible first|apply bA|apply bN|apply bD)|exact HB.out)⟩⟩
   ·rw [if_neg c4] at H
    exact absurd H (by simp)
 case rest =>
  clear HC2
  try clear c1
  try clear p2
  try clear c3
  try clear c3b0
  try clear c3b1
  try clear c4
  try clear c4b0
  try clear c4b1
  try clear p5
  try clear q5
  try clear hx5
  try clear qi5
  try clear c7
  try clear c7b0
  try clear p8
  try clear q8
  try clear hx8
  try clear qi8
  try clear p5
  try clear p8
  try clear q5
  try clear q8
  obtain ⟨kq, x23_1, rfl, HA, HJ1, HB⟩ := hcut
  cases kq with
  | zero => exact absurd HA.out (by simp [wicketmanref06_One.j0])
  | succ kj1 =>
   have H := HA.out
   clear HA
   simp only [wicketmanref06_One.j0] at H
   by_cases c10 : x23_1 = true
   ·subst c10
    rw [if_pos rfl] at H
    simp only [Option.some.injEq, Prod.mk.injEq] at H
    obtain ⟨rfl, rfl⟩ := H
    go_wp2
    go_ret2
    exact ⟨by first|rfl|(simp [errW_none, errW_some] <;> rfl)|(simp [*, errW_none, errW_some] <;> rfl), by repeat (first|(with_reducible first|apply bA|apply bN|apply bD)|exact HB.out)⟩
   ·replace c10 := Bool.eq_false_iff.mpr c10
    subst c10
    rw [if_neg (show ¬ (false = true) by decide)] at H
    by_cases c11 : 0 < (a0.size : Int)
    ·rw [if_pos c11] at H
     have c11b0 : decide (0 < (a0.size : Int)) = true := decide_eq_true c11
     have c11b1 : decide (0 < a0.size) = true := decide_eq_true (by omega)
     clear c11
     replace H := Option.bind_eq_some_iff.mp H
     obtain ⟨t266, A130, H⟩ := H
     try dsimp only at H
     have A13 := aK A130
     clear A130
     have HC15 := aK H
     clear H
     have p12 : 0 ≤ (0 : Int) := (by omega)
     have q12 : 0 < a0.size := (by have : (0 : Int) < (a0.size : Int) := of_decide_eq_true (by first|(with_reducible assumption)|assumption);omega)
     have hx12 : ∀ h : 0 < a0.size, ((a0[0]'h).toNat : Int) = bt a0 0 := bt_at a0 0
     clear p12
     have qi12 : (0 < (a0.size : Int)) = True := eq_true (of_decide_eq_true (by first|(with_reducible assumption)|assumption))
     replace q12 := eq_true q12
     go_upto_if 31 with (first|((with_reducible refine gate_callee (f := 183) rfl ?_);refine goesL_ (some 26) rfl rfl Tryz.func183 (by kernel_rfl) rfl #[.int .u8 (bt a0 0)] rfl (by (try simp only [List.map_toArray, List.map_cons, List.map_nil]);first|done|rfl|(simp only [List.length_drop, List.length_take];rfl)) ?_;(with_reducible refine (wicketmanref06_more.calls kj1 (bt a0 0) t266 _ A13.out).mono ?_);rintro e w' ⟨rfl, ⟨nd, rfl⟩⟩;refine ⟨_, rfl, ?_⟩;have p14 : 0 ≤ (0 : Int) := (by omega);have q14 : 0 < a0.size := (by have : (0 : Int) < (a0.size : Int) := of_decide_eq_true (by first|(with_reducible assumption)|assumption);omega);have hx14 : ∀ h : 0 < a0.size, ((a0[0]'h).toNat : Int) = bt a0 0 := bt_at a0 0;clear p14;have qi14 : (0 < (a0.size : Int)) = True := eq_true (of_decide_eq_true (by first|(with_reducible assumption)|assumption));replace q14 := eq_true q14))
     (try simp only [Act.put, List.setIfInBounds_toArray, List.set_cons_zero, List.set_cons_succ])
     go_cut [5] (fun v5 wc => ∃ (kq : Nat) (x5_14 : Int), v5 = .int .i64 x5_14 ∧ Aside0 (wicketmanref06_One.j1 kq a0 t266 x5_14 = some (r1, r2)) ∧ Aside0 (kq ≤ kj1) ∧ Aside0 (Below w.heap.size w wc))
     case first =>
      have H := HC15.out
      clear HC15
      by_cases c16 : t266 > 0
      ·rw [if_pos c16] at H
       have c16b0 : decide (0 < t266) = true := decide_eq_true c16
       clear c16
       (first|rw [c16b0]|(simp only [i64_w, i32_w];rw [c16b0])|skip)
       obtain ⟨ji17, hji17⟩ : ∃ j_ : Int, (IntKind.u64.wrap (t266)) = j_ := ⟨_, rfl⟩
       replace H : (if 0 ≤ (ji17) then (if (shr .i64 64 (ji17)) = 0 then (none) else (wicketmanref06_One.j1 kj1 a0 t266 (Int.tmod (wrap64 (bt a0 0)) (shr .i64 64 (ji17))))) else (none)) = some (r1, r2) := by first|(rw [hji17] at H;exact H)|(simp only [hji17] at H ⊢;exact H)
       by_cases c18 : 0 ≤ (ji17)
       ·rw [if_pos c18] at H
        have c18b0 := eq_true c18
        have c18b1 : decide (0 ≤ (ji17)) = true := decide_eq_true c18
        clear c18
        obtain ⟨ji19, hji19⟩ : ∃ j_ : Int, (shr .i64 64 (ji17)) = j_ := ⟨_, rfl⟩
        replace H : (if (ji19) = 0 then (none) else (wicketmanref06_One.j1 kj1 a0 t266 (Int.tmod (wrap64 (bt a0 0)) (ji19)))) = some (r1, r2) := by first|(rw [hji19] at H;exact H)|(simp only [hji19] at H ⊢;exact H)
        have hji19_ : (64 / 2 ^ min (ji17).toNat 64) = ji19 := hji19
        have hji19z : (ji17) ≤ 64 → (64 / 2 ^ (ji17).toNat) = ji19 := shr_small hji19
        by_cases c20 : (ji19) = 0
        ·rw [if_pos c20] at H
         exact absurd H (by simp)
        ·rw [if_neg c20] at H
         have c20b0 : ((ji19) == 0) = false := beq_eq_false_iff_ne.mpr c20
         have c20b1 : ((ji19) != 0) = true := bne_iff_ne.mpr c20
         have H' := aK H
         clear H
         go_wp2
         go_meet
         case rel => exact ⟨_, (Int.tmod (wrap64 (bt a0 0)) (ji19)), (by first|rfl|(simp;done)|(simp only [← hji19] <;> (first|rfl|simp))|(simp [*];done)), H', ⟨by have := HJ1.out;first|omega|exact Nat.le_refl _⟩, ⟨by repeat (first|(with_reducible first|apply bA|apply bN|apply bD)|exact HB.out)⟩⟩
       ·rw [if_neg c18] at H
        exact absurd H (by simp)
      ·rw [if_neg c16] at H
       have c16b0 : decide (0 < t266) = false := decide_eq_false c16
       clear c16
       (first|rw [c16b0]|(simp only [i64_w, i32_w];rw [c16b0])|skip)
       have H' := aK H
       clear H
       go_wp2
       go_meet
       case rel => exact ⟨_, (wrap64 (bt a0 0)), (by first|rfl|(simp;done)|(simp [*];done)), H', ⟨by have := HJ1.out;first|omega|exact Nat.le_refl _⟩, ⟨by repeat (first|(with_reducible first|apply bA|apply bN|apply bD)|exact HB.out)⟩⟩
     case rest =>
      clear HC15
      try clear c1
      try clear p1
      try clear q1
      try clear hx1
      try clear qi1
      try clear c2
      try clear p2
      try clear c3
      try clear c3b0
      try clear c3b1
      try clear c4
      try clear c4b0
      try clear c4b1
      try clear p5
      try clear q5
      try clear hx5
      try clear qi5
      try clear p6
      try clear c7
      try clear c7b0
      try clear p8
      try clear q8
      try clear hx8
      try clear qi8
      try clear c10
      try clear c11
      try clear c11b0
      try clear c11b1
      try clear p12
      try clear q12
      try clear hx12
      try clear qi12
      try clear c13
      try clear p14
      try clear q14
      try clear hx14
      try clear qi14
      try clear c16
      try clear c16b0
      try clear c18
      try clear c18b0
      try clear c18b1
      try clear c20
      try clear c20b0
      try clear c20b1
      try clear p12
      try clear p14
      try clear p2
      try clear p5
      try clear p8
      try clear q12
      try clear q14
      try clear q5
      try clear q8
      obtain ⟨kq, x5_14, rfl, HA, HJ14, HB⟩ := hcut
      cases kq with
      | zero => exact absurd HA.out (by simp [wicketmanref06_One.j1])
      | succ kj14 =>
       have H := HA.out
       clear HA
       simp only [wicketmanref06_One.j1] at H
       have H' := aK H
       clear H
       go_wp2
       go_loopg [5, 6] kj14 (fun kq v5 v6 w' => ∃ (x5_3 : Int) (x6_3 : Int), v5 = .int .i64 x5_3 ∧ v6 = .int .i64 x6_3 ∧ Aside0 (wicketmanref06_One.l0 kq a0 t266 x5_3 x6_3 = some (r1, r2)) ∧ Aside0 (kq ≤ kj14) ∧ Aside0 (Below w.heap.size w w'))
       case atStart => exact ⟨(x5_14), (1), (by first|rfl|(simp;done)|(simp [*];done)), (by first|rfl|(simp;done)|(simp [*];done)), H', ⟨Nat.le_refl _⟩, ⟨by repeat (first|(with_reducible first|apply bA|apply bN|apply bD)|exact HB.out)⟩⟩
       case round =>
        clear H'
        try clear c1
        try clear p1
        try clear q1
        try clear hx1
        try clear qi1
        try clear c2
        try clear p2
        try clear c3
        try clear c3b0
        try clear c3b1
        try clear c4
        try clear c4b0
        try clear c4b1
        try clear p5
        try clear q5
        try clear hx5
        try clear qi5
        try clear p6
        try clear c7
        try clear c7b0
        try clear p8
        try clear q8
        try clear hx8
        try clear qi8
        try clear c10
        try clear c11
        try clear c11b0
        try clear c11b1
        try clear p12
        try clear q12
        try clear hx12
        try clear qi12
        try clear c13
        try clear p14
        try clear q14
        try clear hx14
        try clear qi14
        try clear c16
        try clear c16b0
        try clear c18
        try clear c18b0
        try clear c18b1
        try clear c20
        try clear c20b0
        try clear c20b1
        try clear p1
        try clear p12
        try clear p14
        try clear p2
        try clear p5
        try clear p6
        try clear p8
        try clear q1
        try clear q12
        try clear q14
        try clear q5
        try clear q8
        obtain ⟨x5_3, x6_3, rfl, rfl, HA, HK3, HB⟩ := hrel
        cases gk with
        | zero => exact absurd HA.out (by simp [wicketmanref06_One.l0])
        | succ k3 =>
         have H := HA.out
         clear HA
         simp only [wicketmanref06_One.l0] at H
         by_cases c21 : x6_3 ≤ t266
         ·rw [if_pos c21] at H
          have c21b0 : decide (x6_3 ≤ t266) = true := decide_eq_true c21
          clear c21
          by_cases c22 : 0 ≤ x6_3
          ·rw [if_pos c22] at H
           have c22b0 : decide (0 ≤ x6_3) = true := decide_eq_true c22
           clear c22
           by_cases c23 : x6_3 < (a0.size : Int)
           ·rw [if_pos c23] at H
            have c23b0 : decide (x6_3 < (a0.size : Int)) = true := decide_eq_true c23
            clear c23
            by_cases c25 : (bt a0 x6_3) < 128
            ·rw [if_pos c25] at H
             have c25b0 : decide ((bt a0 x6_3) < 128) = true := decide_eq_true c25
             clear c25
             simp only [Option.some.injEq, Prod.mk.injEq] at H
             obtain ⟨rfl, rfl⟩ := H
             have p24 : 0 ≤ (x6_3 : Int) := of_decide_eq_true (by first|(with_reducible assumption)|assumption)
             have q24 : x6_3 < (a0.size : Int) := of_decide_eq_true (by first|(with_reducible assumption)|assumption)
             have hx24 := bt_at a0 x6_3
             replace p24 := eq_true p24
             replace q24 := eq_true q24
             go_wp2
             go_ret2
             exact ⟨by first|rfl|(simp [errW_none, errW_some] <;> rfl)|(simp [*, errW_none, errW_some] <;> rfl), by repeat (first|(with_reducible first|apply bA|apply bN|apply bD)|exact HB.out)⟩
            ·rw [if_neg c25] at H
             have c25b0 : decide ((bt a0 x6_3) < 128) = false := decide_eq_false c25
             clear c25
             by_cases c27 : (bt a0 x6_3) > 191
             ·rw [if_pos c27] at H
              have c27b0 : decide (191 < (bt a0 x6_3)) = true := decide_eq_true c27
              clear c27
              simp only [Option.some.injEq, Prod.mk.injEq] at H
              obtain ⟨rfl, rfl⟩ := H
              have p24 : 0 ≤ (x6_3 : Int) := of_decide_eq_true (by first|(with_reducible assumption)|assumption)
              have q24 : x6_3 < (a0.size : Int) := of_decide_eq_true (by first|(with_reducible assumption)|assumption)
              have hx24 := bt_at a0 x6_3
              replace p24 := eq_true p24
              replace q24 := eq_true q24
              have p26 : 0 ≤ (x6_3 : Int) := of_decide_eq_true (by first|(with_reducible assumption)|assumption)
              have q26 : x6_3 < (a0.size : Int) := of_decide_eq_true (by first|(with_reducible assumption)|assumption)
              have hx26 := bt_at a0 x6_3
              replace p26 := eq_true p26
              replace q26 := eq_true q26
              go_wp2
              go_ret2
              exact ⟨by first|rfl|(simp [errW_none, errW_some] <;> rfl)|(simp [*, errW_none, errW_some] <;> rfl), by repeat (first|(with_reducible first|apply bA|apply bN|apply bD)|exact HB.out)⟩
             ·rw [if_neg c27] at H
              have c27b0 : decide (191 < (bt a0 x6_3)) = false := decide_eq_false c27
              clear c27
              have H' := aK H
              clear H
              have p24 : 0 ≤ (x6_3 : Int) := of_decide_eq_true (by first|(with_reducible assumption)|assumption)
              have q24 : x6_3 < (a0.size : Int) := of_decide_eq_true (by first|(with_reducible assumption)|assumption)
              have hx24 := bt_at a0 x6_3
              replace p24 := eq_true p24
              replace q24 := eq_true q24
              have p26 : 0 ≤ (x6_3 : Int) := of_decide_eq_true (by first|(with_reducible assumption)|assumption)
              have q26 : x6_3 < (a0.size : Int) := of_decide_eq_true (by first|(with_reducible assumption)|assumption)
              have hx26 := bt_at a0 x6_3
              replace p26 := eq_true p26
              replace q26 := eq_true q26
              have p28 : 0 ≤ (x6_3 : Int) := of_decide_eq_true (by first|(with_reducible assumption)|assumption)
              have q28 : x6_3 < (a0.size : Int) := of_decide_eq_true (by first|(with_reducible assumption)|assumption)
              have hx28 := bt_at a0 x6_3
              replace p28 := eq_true p28
              replace q28 := eq_true q28
              go_wp2
              go_roundg k3
              case measure => have := HJ1.out;have := HJ14.out;have := HK3.out;omega
              case rel => exact ⟨(wrap64 ((wrap64 (64 * x5_3)) + (wrap64 (Int.tmod (bt a0 x6_3) 64)))), (wrap64 (x6_3 + 1)), (by first|rfl|(simp;done)|(simp [*];done)), (by first|rfl|(simp;done)|(simp [*];done)), H', ⟨by have := HJ1.out;have := HJ14.out;have := HK3.out;omega⟩, ⟨by repeat (first|(with_reducible first|apply bA|apply bN|apply bD)|exact HB.out)⟩⟩
           ·rw [if_neg c23] at H
            exact absurd H (by simp)
          ·rw [if_neg c22] at H
           exact absurd H (by simp)
         ·rw [if_neg c21] at H
          have c21b0 : decide (x6_3 ≤ t266) = false := decide_eq_false c21
          clear c21
          obtain ⟨y267, hy267⟩ : ∃ y_ : List Int, y_ = (([0, 128, 2048, 65536] : List Int)) := ⟨_, rfl⟩
          replace H : (if 0 ≤ t266 then (if t266 < (y267.length : Int) then (if x5_3 < (rd y267 t266) then (some (0, 0)) else (if x5_3 ≥ 55296 then (if x5_3 ≤ 57343 then (some (0, 0)) else (if x5_3 > 1114111 then (some (0, 0)) else (some (x5_3, wrap64 (t266 + 1))))) else (if x5_3 > 1114111 then (some (0, 0)) else (some (x5_3, wrap64 (t266 + 1)))))) else (none)) else (none)) = some (r1, r2) := by first|(rw [hy267];with_reducible exact H)|(have H2_ := (Option.bind_some _ _).symm.trans H;rw [hy267];with_reducible exact H2_)|(have H2_ := (Option.bind_some _ _).symm.trans H;with_reducible exact H2_)|with_reducible exact H|(rw [hy267];exact H)|exact H
          have Ny267 := aK hy267
          clear hy267
          by_cases c29 : 0 ≤ t266
          ·rw [if_pos c29] at H
           have c29b0 : decide (0 ≤ t266) = true := decide_eq_true c29
           clear c29
           by_cases c30 : t266 < (y267.length : Int)
           ·rw [if_pos c30] at H
            have c30b0 : decide (t266 < (y267.length : Int)) = true := decide_eq_true c30
            clear c30
            by_cases c31 : x5_3 < (rd y267 t266)
            ·rw [if_pos c31] at H
             have c31b0 : decide (x5_3 < (rd y267 t266)) = true := decide_eq_true c31
             clear c31
             simp only [Option.some.injEq, Prod.mk.injEq] at H
             obtain ⟨rfl, rfl⟩ := H
             go_wp2_with (first|((with_reducible refine gate_dst (N := 60) rfl ?_);(try (refine gate_guard (by rfl) ?_;dsimp only));refine Kd.R_lit (Kd.int .i64) _ 3 ?hg (N := 60) ?hd (xs := ([0, 128, 2048, 65536] : List Int)) (inner := [.int .i64 0, .int .i64 128, .int .i64 2048, .int .i64 65536]) (ok := fun _ => True) (okp := fun _ => True) ?hr ?hp (fun _ hk => hk) trivial (Below.refl _ _) (Nat.le_refl _) (by simp) ?_;(case hd => rfl);(case hg => rfl);(case hr => first|(go_simp;done)|(go_simp;rfl));(case hp => exact (Reps.one (show Kd.M (Kd.int .i64) _ _ _ 0 [.int .i64 0] from rfl) (Reps.one (show Kd.M (Kd.int .i64) _ _ _ 128 [.int .i64 128] from rfl) (Reps.one (show Kd.M (Kd.int .i64) _ _ _ 2048 [.int .i64 2048] from rfl) (Reps.one (show Kd.M (Kd.int .i64) _ _ _ 65536 [.int .i64 65536] from rfl) (Reps.none _ _))))));intro v268 w32 ho33 hb hg_ hnew_;clear hg_ hnew_;(first|rw [← Ny267.out] at ho33|(simp only [Int.reduceToNat] at ho33;rw [← Ny267.out] at ho33));have n0_ := aK (Kd.R_lower ho33 (below_size (by repeat (first|(with_reducible first|apply bA|apply bN|apply bD)|exact HB.out))));have n1_ := aK (below_step (by repeat (first|(with_reducible first|apply bA|apply bN|apply bD)|exact HB.out)) hb);clear HB;have HO269 := n0_;have HB := n1_;clear n0_ n1_;clear hb ho33;obtain ⟨Ao34, co34, eo34⟩ := Kd.R_slice HO269.out;subst eo34;have p270 : 0 ≤ (t266 : Int) := of_decide_eq_true (by first|(with_reducible assumption)|assumption);have q270 : t266 < (y267.length : Int) := of_decide_eq_true (by first|(with_reducible assumption)|assumption);obtain ⟨ad270, e270, hx270_0⟩ := Kd.at_int (Kd.R_reads' HO269.out).2.2 t266 p270 q270;cases e270;replace p270 := eq_true p270;replace q270 := eq_true q270))
             go_ret2
             exact ⟨by first|rfl|(simp [errW_none, errW_some] <;> rfl)|(simp [*, errW_none, errW_some] <;> rfl), by repeat (first|(with_reducible first|apply bA|apply bN|apply bD)|exact HB.out)⟩
            ·rw [if_neg c31] at H
             have c31b0 : decide (x5_3 < (rd y267 t266)) = false := decide_eq_false c31
             clear c31
             by_cases c35 : x5_3 ≥ 55296
             ·rw [if_pos c35] at H
              have c35b0 : decide (55296 ≤ x5_3) = true := decide_eq_true c35
              clear c35
              by_cases c36 : x5_3 ≤ 57343
              ·rw [if_pos c36] at H
               have c36b0 : decide (x5_3 ≤ 57343) = true := decide_eq_true c36
               clear c36
               simp only [Option.some.injEq, Prod.mk.injEq] at H
               obtain ⟨rfl, rfl⟩ := H
               go_wp2_with (first|((with_reducible refine gate_dst (N := 60) rfl ?_);(try (refine gate_guard (by rfl) ?_;dsimp only));refine Kd.R_lit (Kd.int .i64) _ 3 ?hg (N := 60) ?hd (xs := ([0, 128, 2048, 65536] : List Int)) (inner := [.int .i64 0, .int .i64 128, .int .i64 2048, .int .i64 65536]) (ok := fun _ => True) (okp := fun _ => True) ?hr ?hp (fun _ hk => hk) trivial (Below.refl _ _) (Nat.le_refl _) (by simp) ?_;(case hd => rfl);(case hg => rfl);(case hr => first|(go_simp;done)|(go_simp;rfl));(case hp => exact (Reps.one (show Kd.M (Kd.int .i64) _ _ _ 0 [.int .i64 0] from rfl) (Reps.one (show Kd.M (Kd.int .i64) _ _ _ 128 [.int .i64 128] from rfl) (Reps.one (show Kd.M (Kd.int .i64) _ _ _ 2048 [.int .i64 2048] from rfl) (Reps.one (show Kd.M (Kd.int .i64) _ _ _ 65536 [.int .i64 65536] from rfl) (Reps.none _ _))))));intro v268 w37 ho38 hb hg_ hnew_;clear hg_ hnew_;(first|rw [← Ny267.out] at ho38|(simp only [Int.reduceToNat] at ho38;rw [← Ny267.out] at ho38));have n0_ := aK (Kd.R_lower ho38 (below_size (by repeat (first|(with_reducible first|apply bA|apply bN|apply bD)|exact HB.out))));have n1_ := aK (below_step (by repeat (first|(with_reducible first|apply bA|apply bN|apply bD)|exact HB.out)) hb);clear HB;have HO269 := n0_;have HB := n1_;clear n0_ n1_;clear hb ho38;obtain ⟨Ao39, co39, eo39⟩ := Kd.R_slice HO269.out;subst eo39;have p270 : 0 ≤ (t266 : Int) := of_decide_eq_true (by first|(with_reducible assumption)|assumption);have q270 : t266 < (y267.length : Int) := of_decide_eq_true (by first|(with_reducible assumption)|assumption);obtain ⟨ad270, e270, hx270_0⟩ := Kd.at_int (Kd.R_reads' HO269.out).2.2 t266 p270 q270;cases e270;replace p270 := eq_true p270;replace q270 := eq_true q270))
               go_ret2
               exact ⟨by first|rfl|(simp [errW_none, errW_some] <;> rfl)|(simp [*, errW_none, errW_some] <;> rfl), by repeat (first|(with_reducible first|apply bA|apply bN|apply bD)|exact HB.out)⟩
              ·rw [if_neg c36] at H
               have c36b0 : decide (x5_3 ≤ 57343) = false := decide_eq_false c36
               clear c36
               by_cases c40 : x5_3 > 1114111
               ·rw [if_pos c40] at H
                have c40b0 : decide (1114111 < x5_3) = true := decide_eq_true c40
                clear c40
                simp only [Option.some.injEq, Prod.mk.injEq] at H
                obtain ⟨rfl, rfl⟩ := H
                go_wp2_with (first|((with_reducible refine gate_dst (N := 60) rfl ?_);(try (refine gate_guard (by rfl) ?_;dsimp only));refine Kd.R_lit (Kd.int .i64) _ 3 ?hg (N := 60) ?hd (xs := ([0, 128, 2048, 65536] : List Int)) (inner := [.int .i64 0, .int .i64 128, .int .i64 2048, .int .i64 65536]) (ok := fun _ => True) (okp := fun _ => True) ?hr ?hp (fun _ hk => hk) trivial (Below.refl _ _) (Nat.le_refl _) (by simp) ?_;(case hd => rfl);(case hg => rfl);(case hr => first|(go_simp;done)|(go_simp;rfl));(case hp => exact (Reps.one (show Kd.M (Kd.int .i64) _ _ _ 0 [.int .i64 0] from rfl) (Reps.one (show Kd.M (Kd.int .i64) _ _ _ 128 [.int .i64 128] from rfl) (Reps.one (show Kd.M (Kd.int .i64) _ _ _ 2048 [.int .i64 2048] from rfl) (Reps.one (show Kd.M (Kd.int .i64) _ _ _ 65536 [.int .i64 65536] from rfl) (Reps.none _ _))))));intro v268 w41 ho42 hb hg_ hnew_;clear hg_ hnew_;(first|rw [← Ny267.out] at ho42|(simp only [Int.reduceToNat] at ho42;rw [← Ny267.out] at ho42));have n0_ := aK (Kd.R_lower ho42 (below_size (by repeat (first|(with_reducible first|apply bA|apply bN|apply bD)|exact HB.out))));have n1_ := aK (below_step (by repeat (first|(with_reducible first|apply bA|apply bN|apply bD)|exact HB.out)) hb);clear HB;have HO269 := n0_;have HB := n1_;clear n0_ n1_;clear hb ho42;obtain ⟨Ao43, co43, eo43⟩ := Kd.R_slice HO269.out;subst eo43;have p270 : 0 ≤ (t266 : Int) := of_decide_eq_true (by first|(with_reducible assumption)|assumption);have q270 : t266 < (y267.length : Int) := of_decide_eq_true (by first|(with_reducible assumption)|assumption);obtain ⟨ad270, e270, hx270_0⟩ := Kd.at_int (Kd.R_reads' HO269.out).2.2 t266 p270 q270;cases e270;replace p270 := eq_true p270;replace q270 := eq_true q270))
                go_ret2
                exact ⟨by first|rfl|(simp [errW_none, errW_some] <;> rfl)|(simp [*, errW_none, errW_some] <;> rfl), by repeat (first|(with_reducible first|apply bA|apply bN|apply bD)|exact HB.out)⟩
               ·rw [if_neg c40] at H
                have c40b0 : decide (1114111 < x5_3) = false := decide_eq_false c40
                clear c40
                simp only [Option.some.injEq, Prod.mk.injEq] at H
                obtain ⟨rfl, rfl⟩ := H
                go_wp2_with (first|((with_reducible refine gate_dst (N := 60) rfl ?_);(try (refine gate_guard (by rfl) ?_;dsimp only));refine Kd.R_lit (Kd.int .i64) _ 3 ?hg (N := 60) ?hd (xs := ([0, 128, 2048, 65536] : List Int)) (inner := [.int .i64 0, .int .i64 128, .int .i64 2048, .int .i64 65536]) (ok := fun _ => True) (okp := fun _ => True) ?hr ?hp (fun _ hk => hk) trivial (Below.refl _ _) (Nat.le_refl _) (by simp) ?_;(case hd => rfl);(case hg => rfl);(case hr => first|(go_simp;done)|(go_simp;rfl));(case hp => exact (Reps.one (show Kd.M (Kd.int .i64) _ _ _ 0 [.int .i64 0] from rfl) (Reps.one (show Kd.M (Kd.int .i64) _ _ _ 128 [.int .i64 128] from rfl) (Reps.one (show Kd.M (Kd.int .i64) _ _ _ 2048 [.int .i64 2048] from rfl) (Reps.one (show Kd.M (Kd.int .i64) _ _ _ 65536 [.int .i64 65536] from rfl) (Reps.none _ _))))));intro v268 w44 ho45 hb hg_ hnew_;clear hg_ hnew_;(first|rw [← Ny267.out] at ho45|(simp only [Int.reduceToNat] at ho45;rw [← Ny267.out] at ho45));have n0_ := aK (Kd.R_lower ho45 (below_size (by repeat (first|(with_reducible first|apply bA|apply bN|apply bD)|exact HB.out))));have n1_ := aK (below_step (by repeat (first|(with_reducible first|apply bA|apply bN|apply bD)|exact HB.out)) hb);clear HB;have HO269 := n0_;have HB := n1_;clear n0_ n1_;clear hb ho45;obtain ⟨Ao46, co46, eo46⟩ := Kd.R_slice HO269.out;subst eo46;have p270 : 0 ≤ (t266 : Int) := of_decide_eq_true (by first|(with_reducible assumption)|assumption);have q270 : t266 < (y267.length : Int) := of_decide_eq_true (by first|(with_reducible assumption)|assumption);obtain ⟨ad270, e270, hx270_0⟩ := Kd.at_int (Kd.R_reads' HO269.out).2.2 t266 p270 q270;cases e270;replace p270 := eq_true p270;replace q270 := eq_true q270))
                go_ret2
                exact ⟨by first|rfl|(simp [errW_none, errW_some] <;> rfl)|(simp [*, errW_none, errW_some] <;> rfl), by repeat (first|(with_reducible first|apply bA|apply bN|apply bD)|exact HB.out)⟩
             ·rw [if_neg c35] at H
              have c35b0 : decide (55296 ≤ x5_3) = false := decide_eq_false c35
              clear c35
              by_cases c47 : x5_3 > 1114111
              ·rw [if_pos c47] at H
               have c47b0 : decide (1114111 < x5_3) = true := decide_eq_true c47
               clear c47
               simp only [Option.some.injEq, Prod.mk.injEq] at H
               obtain ⟨rfl, rfl⟩ := H
               go_wp2_with (first|((with_reducible refine gate_dst (N := 60) rfl ?_);(try (refine gate_guard (by rfl) ?_;dsimp only));refine Kd.R_lit (Kd.int .i64) _ 3 ?hg (N := 60) ?hd (xs := ([0, 128, 2048, 65536] : List Int)) (inner := [.int .i64 0, .int .i64 128, .int .i64 2048, .int .i64 65536]) (ok := fun _ => True) (okp := fun _ => True) ?hr ?hp (fun _ hk => hk) trivial (Below.refl _ _) (Nat.le_refl _) (by simp) ?_;(case hd => rfl);(case hg => rfl);(case hr => first|(go_simp;done)|(go_simp;rfl));(case hp => exact (Reps.one (show Kd.M (Kd.int .i64) _ _ _ 0 [.int .i64 0] from rfl) (Reps.one (show Kd.M (Kd.int .i64) _ _ _ 128 [.int .i64 128] from rfl) (Reps.one (show Kd.M (Kd.int .i64) _ _ _ 2048 [.int .i64 2048] from rfl) (Reps.one (show Kd.M (Kd.int .i64) _ _ _ 65536 [.int .i64 65536] from rfl) (Reps.none _ _))))));intro v268 w48 ho49 hb hg_ hnew_;clear hg_ hnew_;(first|rw [← Ny267.out] at ho49|(simp only [Int.reduceToNat] at ho49;rw [← Ny267.out] at ho49));have n0_ := aK (Kd.R_lower ho49 (below_size (by repeat (first|(with_reducible first|apply bA|apply bN|apply bD)|exact HB.out))));have n1_ := aK (below_step (by repeat (first|(with_reducible first|apply bA|apply bN|apply bD)|exact HB.out)) hb);clear HB;have HO269 := n0_;have HB := n1_;clear n0_ n1_;clear hb ho49;obtain ⟨Ao50, co50, eo50⟩ := Kd.R_slice HO269.out;subst eo50;have p270 : 0 ≤ (t266 : Int) := of_decide_eq_true (by first|(with_reducible assumption)|assumption);have q270 : t266 < (y267.length : Int) := of_decide_eq_true (by first|(with_reducible assumption)|assumption);obtain ⟨ad270, e270, hx270_0⟩ := Kd.at_int (Kd.R_reads' HO269.out).2.2 t266 p270 q270;cases e270;replace p270 := eq_true p270;replace q270 := eq_true q270))
               go_ret2
               exact ⟨by first|rfl|(simp [errW_none, errW_some] <;> rfl)|(simp [*, errW_none, errW_some] <;> rfl), by repeat (first|(with_reducible first|apply bA|apply bN|apply bD)|exact HB.out)⟩
              ·rw [if_neg c47] at H
               have c47b0 : decide (1114111 < x5_3) = false := decide_eq_false c47
               clear c47
               simp only [Option.some.injEq, Prod.mk.injEq] at H
               obtain ⟨rfl, rfl⟩ := H
               go_wp2_with (first|((with_reducible refine gate_dst (N := 60) rfl ?_);(try (refine gate_guard (by rfl) ?_;dsimp only));refine Kd.R_lit (Kd.int .i64) _ 3 ?hg (N := 60) ?hd (xs := ([0, 128, 2048, 65536] : List Int)) (inner := [.int .i64 0, .int .i64 128, .int .i64 2048, .int .i64 65536]) (ok := fun _ => True) (okp := fun _ => True) ?hr ?hp (fun _ hk => hk) trivial (Below.refl _ _) (Nat.le_refl _) (by simp) ?_;(case hd => rfl);(case hg => rfl);(case hr => first|(go_simp;done)|(go_simp;rfl));(case hp => exact (Reps.one (show Kd.M (Kd.int .i64) _ _ _ 0 [.int .i64 0] from rfl) (Reps.one (show Kd.M (Kd.int .i64) _ _ _ 128 [.int .i64 128] from rfl) (Reps.one (show Kd.M (Kd.int .i64) _ _ _ 2048 [.int .i64 2048] from rfl) (Reps.one (show Kd.M (Kd.int .i64) _ _ _ 65536 [.int .i64 65536] from rfl) (Reps.none _ _))))));intro v268 w51 ho52 hb hg_ hnew_;clear hg_ hnew_;(first|rw [← Ny267.out] at ho52|(simp only [Int.reduceToNat] at ho52;rw [← Ny267.out] at ho52));have n0_ := aK (Kd.R_lower ho52 (below_size (by repeat (first|(with_reducible first|apply bA|apply bN|apply bD)|exact HB.out))));have n1_ := aK (below_step (by repeat (first|(with_reducible first|apply bA|apply bN|apply bD)|exact HB.out)) hb);clear HB;have HO269 := n0_;have HB := n1_;clear n0_ n1_;clear hb ho52;obtain ⟨Ao53, co53, eo53⟩ := Kd.R_slice HO269.out;subst eo53;have p270 : 0 ≤ (t266 : Int) := of_decide_eq_true (by first|(with_reducible assumption)|assumption);have q270 : t266 < (y267.length : Int) := of_decide_eq_true (by first|(with_reducible assumption)|assumption);obtain ⟨ad270, e270, hx270_0⟩ := Kd.at_int (Kd.R_reads' HO269.out).2.2 t266 p270 q270;cases e270;replace p270 := eq_true p270;replace q270 := eq_true q270))
               go_ret2
               exact ⟨by first|rfl|(simp [errW_none, errW_some] <;> rfl)|(simp [*, errW_none, errW_some] <;> rfl), by repeat (first|(with_reducible first|apply bA|apply bN|apply bD)|exact HB.out)⟩
           ·rw [if_neg c30] at H
            exact absurd H (by simp)
          ·rw [if_neg c29] at H
           exact absurd H (by simp)
    ·rw [if_neg c11] at H
     exact absurd H (by simp)
def wicketmanref06_Escape.l0 : Nat → ByteArray → ByteArray → Option (ByteArray)
 | 0, _, _ => none
 | k + 1, x0, x3 => if x0.toList = ([] : List UInt8) then (some x3) else ((wicketmanref06_One.f k x0).bind fun bt271 => (if 0 ≤ (mx bt271.2 1) then (if (mx bt271.2 1) ≤ (x0.size : Int) then (if 0 < (x0.size : Int) then (if (bt x0 0) = 38 then (if bt271.2 = 0 then (if x3.size + 1 ≤ 9223372036854775807 then (wicketmanref06_Escape.l0 k (x0.extract ((mx bt271.2 1) : Int).toNat x0.size) (x3 ++ (⟨#[63]⟩ : BA))) else (none)) else (if x3.size + 5 ≤ 9223372036854775807 then (wicketmanref06_Escape.l0 k (x0.extract ((mx bt271.2 1) : Int).toNat x0.size) (x3 ++ (⟨#[38, 97, 109, 112, 59]⟩ : BA))) else (none))) else (if (bt x0 0) = 60 then (if bt271.2 = 0 then (if x3.size + 1 ≤ 9223372036854775807 then (wicketmanref06_Escape.l0 k (x0.extract ((mx bt271.2 1) : Int).toNat x0.size) (x3 ++ (⟨#[63]⟩ : BA))) else (none)) else (if x3.size + 4 ≤ 9223372036854775807 then (wicketmanref06_Escape.l0 k (x0.extract ((mx bt271.2 1) : Int).toNat x0.size) (x3 ++ (⟨#[38, 108, 116, 59]⟩ : BA))) else (none))) else (if (bt x0 0) = 62 then (if bt271.2 = 0 then (if x3.size + 1 ≤ 9223372036854775807 then (wicketmanref06_Escape.l0 k (x0.extract ((mx bt271.2 1) : Int).toNat x0.size) (x3 ++ (⟨#[63]⟩ : BA))) else (none)) else (if x3.size + 4 ≤ 9223372036854775807 then (wicketmanref06_Escape.l0 k (x0.extract ((mx bt271.2 1) : Int).toNat x0.size) (x3 ++ (⟨#[38, 103, 116, 59]⟩ : BA))) else (none))) else (if (bt x0 0) = 34 then (if bt271.2 = 0 then (if x3.size + 1 ≤ 9223372036854775807 then (wicketmanref06_Escape.l0 k (x0.extract ((mx bt271.2 1) : Int).toNat x0.size) (x3 ++ (⟨#[63]⟩ : BA))) else (none)) else (if x3.size + 5 ≤ 9223372036854775807 then (wicketmanref06_Escape.l0 k (x0.extract ((mx bt271.2 1) : Int).toNat x0.size) (x3 ++ (⟨#[38, 35, 51, 52, 59]⟩ : BA))) else (none))) else (if (bt x0 0) = 39 then (if bt271.2 = 0 then (if x3.size + 1 ≤ 9223372036854775807 then (wicketmanref06_Escape.l0 k (x0.extract ((mx bt271.2 1) : Int).toNat x0.size) (x3 ++ (⟨#[63]⟩ : BA))) else (none)) else (if x3.size + 5 ≤ 9223372036854775807 then (wicketmanref06_Escape.l0 k (x0.extract ((mx bt271.2 1) : Int).toNat x0.size) (x3 ++ (⟨#[38, 35, 51, 57, 59]⟩ : BA))) else (none))) else (if bt271.2 = 0 then (if x3.size + 1 ≤ 9223372036854775807 then (wicketmanref06_Escape.l0 k (x0.extract ((mx bt271.2 1) : Int).toNat x0.size) (x3 ++ (⟨#[63]⟩ : BA))) else (none)) else (if x3.size + (x0.extract 0 ((mx bt271.2 1) : Int).toNat).size ≤ 9223372036854775807 then (wicketmanref06_Escape.l0 k (x0.extract ((mx bt271.2 1) : Int).toNat x0.size) (x3 ++ (x0.extract 0 ((mx bt271.2 1) : Int).toNat))) else (none)))))))) else (none)) else (none)) else (none)))
def wicketmanref06_Escape.f (k : Nat) (a0 : ByteArray) : Option (ByteArray) := wicketmanref06_Escape.l0 k a0 (⟨#[]⟩ : BA)
theorem wicketmanref06_Escape.mono_l : ∀ k, (∀ y0 y1, LeO (wicketmanref06_Escape.l0 k y0 y1) (wicketmanref06_Escape.l0 (k + 1) y0 y1))
 | 0 => fun _ _ r h => by simp [wicketmanref06_Escape.l0] at h
 | k + 1 => by
  have ih0 := wicketmanref06_Escape.mono_l k
  ·intro y0 y1
   unfold wicketmanref06_Escape.l0
   repeat' first|(with_reducible first|exact ih0 _ _|exact wicketmanref06_One.mono _ _|exact LeO.refl _|exact LeO.none _|refine LeO.ite ?_ ?_|refine LeO.bind ?_ (fun _ => ?_))|exact LeO.none _|refine LeO.ite ?_ ?_|refine LeO.bind ?_ (fun _ => ?_)
theorem wicketmanref06_Escape.mono : ∀ a0 k, LeO (wicketmanref06_Escape.f k a0) (wicketmanref06_Escape.f (k + 1) a0) := by
 intro a0 k
 have ih0 := wicketmanref06_Escape.mono_l k
 unfold wicketmanref06_Escape.f
 repeat' first|(with_reducible first|exact ih0 _ _|exact wicketmanref06_One.mono _ _|exact LeO.refl _|exact LeO.none _|refine LeO.ite ?_ ?_|refine LeO.bind ?_ (fun _ => ?_))|exact LeO.none _|refine LeO.ite ?_ ?_|refine LeO.bind ?_ (fun _ => ?_)
set_option maxHeartbeats 8000000 in
set_option maxRecDepth 100000 in
theorem wicketmanref06_Escape.calls (k : Nat) (a0 : ByteArray) (r : ByteArray) (w : World) (h : wicketmanref06_Escape.f k a0 = some r) :
  Calls Tryz.prog 90 #[.string a0] w fun e w' => e = .returned (.string r) ∧ Below w.heap.size w w' := by
 have HB := aK (Below.refl w.heap.size w)
 have H : (wicketmanref06_Escape.l0 k a0 (⟨#[]⟩ : BA)) = some r := h
 clear h
 have H' := aK H
 clear H
 go_enter Tryz.func90, Tryz.ntmps90
 go_wp2
 go_loopg [0, 3] k (fun kq v0 v3 w' => ∃ (x0_1 : ByteArray) (x3_1 : ByteArray), v0 = .string x0_1 ∧ v3 = .string x3_1 ∧ Aside0 (wicketmanref06_Escape.l0 kq x0_1 x3_1 = some r) ∧ Aside0 (kq ≤ k) ∧ Aside0 (Below w.heap.size w w'))
 case atStart => exact ⟨(a0), ((⟨#[]⟩ : BA)), (by first|rfl|(simp;done)|(simp [*];done)), (by first|rfl|(simp;done)|(simp [*];done)), H', ⟨Nat.le_refl _⟩, ⟨by repeat (first|(with_reducible first|apply bA|apply bN|apply bD)|exact HB.out)⟩⟩
 case round =>
  clear H'
  obtain ⟨x0_1, x3_1, rfl, rfl, HA, HK1, HB⟩ := hrel
  cases gk with
  | zero => exact absurd HA.out (by simp [wicketmanref06_Escape.l0])
  | succ k1 =>
   have H := HA.out
   clear HA
   simp only [wicketmanref06_Escape.l0] at H
   by_cases c2 : x0_1.toList = ([] : List UInt8)
   ·rw [if_pos c2] at H
    have c2b0 : (x0_1.toList == ([] : List UInt8)) = true := beq_iff_eq.mpr c2
    have c2b1 : (x0_1.toList != ([] : List UInt8)) = false := bne_eq_false_iff_eq.mpr c2
    clear c2
    obtain rfl := Option.some.inj H
    go_wp2
    go_ret
    exact ⟨by first|rfl|(simp [errW_none, errW_some] <;> rfl)|(simp [*, errW_none, errW_some] <;> rfl), by repeat (first|(with_reducible first|apply bA|apply bN|apply bD)|exact HB.out)⟩
   ·rw [if_neg c2] at H
    have c2b0 : (x0_1.toList == ([] : List UInt8)) = false := beq_eq_false_iff_ne.mpr c2
    have c2b1 : (x0_1.toList != ([] : List UInt8)) = true := bne_iff_ne.mpr c2
    replace H := Option.bind_eq_some_iff.mp H
    obtain ⟨⟨t271, t272⟩, A30, H⟩ := H
    try dsimp only at H
    have A3 := aK A30
    clear A30
    obtain ⟨ji4, hji4⟩ : ∃ j_ : Int, (mx t272 1) = j_ := ⟨_, rfl⟩
    replace H : (if 0 ≤ (ji4) then (if (ji4) ≤ (x0_1.size : Int) then (if 0 < (x0_1.size : Int) then (if (bt x0_1 0) = 38 then (if t272 = 0 then (if x3_1.size + 1 ≤ 9223372036854775807 then (wicketmanref06_Escape.l0 k1 (x0_1.extract ((ji4) : Int).toNat x0_1.size) (x3_1 ++ (⟨#[63]⟩ : BA))) else (none)) else (if x3_1.size + 5 ≤ 9223372036854775807 then (wicketmanref06_Escape.l0 k1 (x0_1.extract ((ji4) : Int).toNat x0_1.size) (x3_1 ++ (⟨#[38, 97, 109, 112, 59]⟩ : BA))) else (none))) else (if (bt x0_1 0) = 60 then (if t272 = 0 then (if x3_1.size + 1 ≤ 9223372036854775807 then (wicketmanref06_Escape.l0 k1 (x0_1.extract ((ji4) : Int).toNat x0_1.size) (x3_1 ++ (⟨#[63]⟩ : BA))) else (none)) else (if x3_1.size + 4 ≤ 9223372036854775807 then (wicketmanref06_Escape.l0 k1 (x0_1.extract ((ji4) : Int).toNat x0_1.size) (x3_1 ++ (⟨#[38, 108, 116, 59]⟩ : BA))) else (none))) else (if (bt x0_1 0) = 62 then (if t272 = 0 then (if x3_1.size + 1 ≤ 9223372036854775807 then (wicketmanref06_Escape.l0 k1 (x0_1.extract ((ji4) : Int).toNat x0_1.size) (x3_1 ++ (⟨#[63]⟩ : BA))) else (none)) else (if x3_1.size + 4 ≤ 9223372036854775807 then (wicketmanref06_Escape.l0 k1 (x0_1.extract ((ji4) : Int).toNat x0_1.size) (x3_1 ++ (⟨#[38, 103, 116, 59]⟩ : BA))) else (none))) else (if (bt x0_1 0) = 34 then (if t272 = 0 then (if x3_1.size + 1 ≤ 9223372036854775807 then (wicketmanref06_Escape.l0 k1 (x0_1.extract ((ji4) : Int).toNat x0_1.size) (x3_1 ++ (⟨#[63]⟩ : BA))) else (none)) else (if x3_1.size + 5 ≤ 9223372036854775807 then (wicketmanref06_Escape.l0 k1 (x0_1.extract ((ji4) : Int).toNat x0_1.size) (x3_1 ++ (⟨#[38, 35, 51, 52, 59]⟩ : BA))) else (none))) else (if (bt x0_1 0) = 39 then (if t272 = 0 then (if x3_1.size + 1 ≤ 9223372036854775807 then (wicketmanref06_Escape.l0 k1 (x0_1.extract ((ji4) : Int).toNat x0_1.size) (x3_1 ++ (⟨#[63]⟩ : BA))) else (none)) else (if x3_1.size + 5 ≤ 9223372036854775807 then (wicketmanref06_Escape.l0 k1 (x0_1.extract ((ji4) : Int).toNat x0_1.size) (x3_1 ++ (⟨#[38, 35, 51, 57, 59]⟩ : BA))) else (none))) else (if t272 = 0 then (if x3_1.size + 1 ≤ 9223372036854775807 then (wicketmanref06_Escape.l0 k1 (x0_1.extract ((ji4) : Int).toNat x0_1.size) (x3_1 ++ (⟨#[63]⟩ : BA))) else (none)) else (if x3_1.size + (x0_1.extract 0 ((ji4) : Int).toNat).size ≤ 9223372036854775807 then (wicketmanref06_Escape.l0 k1 (x0_1.extract ((ji4) : Int).toNat x0_1.size) (x3_1 ++ (x0_1.extract 0 ((ji4) : Int).toNat))) else (none)))))))) else (none)) else (none)) else (none)) = some r := by first|(rw [hji4] at H;exact H)|(simp only [hji4] at H ⊢;exact H)
    (try rw [hji4] at A3)
    (try (have hji4l : 1 ≤ ji4 := by (rw [← hji4];unfold mx;(repeat' split) <;> omega)))
    (try (have hji4m : 0 ≤ ji4 := by omega))
    have hji4_ : (if t272 < 1 then 1 else t272) = ji4 := hji4
    by_cases c5 : 0 ≤ (ji4)
    ·rw [if_pos c5] at H
     have c5b0 := eq_true c5
     have c5b1 : decide (0 ≤ (ji4)) = true := decide_eq_true c5
     clear c5
     by_cases c6 : (ji4) ≤ (x0_1.size : Int)
     ·rw [if_pos c6] at H
      have c6b0 := eq_true c6
      have c6b1 : decide ((ji4) ≤ (x0_1.size : Int)) = true := decide_eq_true c6
      clear c6
      by_cases c7 : 0 < (x0_1.size : Int)
      ·rw [if_pos c7] at H
       have c7b0 : decide (0 < (x0_1.size : Int)) = true := decide_eq_true c7
       have c7b1 : decide (0 < x0_1.size) = true := decide_eq_true (by omega)
       clear c7
       by_cases c9 : (bt x0_1 0) = 38
       ·rw [if_pos c9] at H
        have c9b0 : ((bt x0_1 0) == 38) = true := beq_iff_eq.mpr c9
        have c9b1 : ((bt x0_1 0) != 38) = false := bne_eq_false_iff_eq.mpr c9
        clear c9
        by_cases c10 : t272 = 0
        ·rw [if_pos c10] at H
         have c10b0 : (t272 == 0) = true := beq_iff_eq.mpr c10
         have c10b1 : (t272 != 0) = false := bne_eq_false_iff_eq.mpr c10
         clear c10
         by_cases c11 : x3_1.size + 1 ≤ 9223372036854775807
         ·rw [if_pos c11] at H
          have c11b0 := eq_true c11
          have c11b1 : decide (x3_1.size + 1 ≤ 9223372036854775807) = true := decide_eq_true c11
          try have c11b2 : (9223372036854775807 < x3_1.size + 1) = False := eq_false (Nat.not_lt.2 c11)
          have c13b0 := eq_true (of_decide_eq_true (by first|(with_reducible assumption)|assumption) : 0 ≤ (ji4))
          have c14b0 := eq_true (of_decide_eq_true (by first|(with_reducible assumption)|assumption) : (ji4) ≤ (x0_1.size : Int))
          have H' := aK H
          clear H
          go_wp2_with (first|((with_reducible refine gate_callee (f := 134) rfl ?_);refine goesL_ (some 11) rfl rfl Tryz.func134 (by kernel_rfl) rfl #[.string x0_1] rfl (by (try simp only [List.map_toArray, List.map_cons, List.map_nil]);first|done|rfl|(simp only [List.length_drop, List.length_take];rfl)) ?_;(with_reducible refine (wicketmanref06_One.calls k1 x0_1 t271 t272 _ A3.out).mono ?_);rintro e w15 ⟨rfl, hb⟩;refine ⟨_, rfl, ?_⟩;have n0_ := aK (below_step (by repeat (first|(with_reducible first|apply bA|apply bN|apply bD)|exact HB.out)) hb);clear HB;have HB := n0_;clear n0_;try clear hb;have p8 : 0 ≤ (0 : Int) := (by omega);have q8 : 0 < x0_1.size := (by have : (0 : Int) < (x0_1.size : Int) := of_decide_eq_true (by first|(with_reducible assumption)|assumption);omega);have hx8 : ∀ h : 0 < x0_1.size, ((x0_1[0]'h).toNat : Int) = bt x0_1 0 := bt_at x0_1 0;clear p8;have qi8 : (0 < (x0_1.size : Int)) = True := eq_true (of_decide_eq_true (by first|(with_reducible assumption)|assumption));replace q8 := eq_true q8))
          go_roundg k1
          case measure => have := HK1.out;omega
          case rel => exact ⟨(x0_1.extract ((ji4) : Int).toNat x0_1.size), (x3_1 ++ (⟨#[63]⟩ : BA)), (by first|rfl|(simp;done)|(simp only [← hji4] <;> (first|rfl|simp))|(simp [*];done)), (by first|rfl|(simp;done)|(simp [*];done)), H', ⟨by have := HK1.out;omega⟩, ⟨by repeat (first|(with_reducible first|apply bA|apply bN|apply bD)|exact HB.out)⟩⟩
         ·rw [if_neg c11] at H
          exact absurd H (by simp)
        ·rw [if_neg c10] at H
         have c10b0 : (t272 == 0) = false := beq_eq_false_iff_ne.mpr c10
         have c10b1 : (t272 != 0) = true := bne_iff_ne.mpr c10
         by_cases c16 : x3_1.size + 5 ≤ 9223372036854775807
         ·rw [if_pos c16] at H
          have c16b0 := eq_true c16
          have c16b1 : decide (x3_1.size + 5 ≤ 9223372036854775807) = true := decide_eq_true c16
          try have c16b2 : (9223372036854775807 < x3_1.size + 5) = False := eq_false (Nat.not_lt.2 c16)
          have c18b0 := eq_true (of_decide_eq_true (by first|(with_reducible assumption)|assumption) : 0 ≤ (ji4))
          have c19b0 := eq_true (of_decide_eq_true (by first|(with_reducible assumption)|assumption) : (ji4) ≤ (x0_1.size : Int))
          have H' := aK H
          clear H
          go_wp2_with (first|((with_reducible refine gate_callee (f := 134) rfl ?_);refine goesL_ (some 11) rfl rfl Tryz.func134 (by kernel_rfl) rfl #[.string x0_1] rfl (by (try simp only [List.map_toArray, List.map_cons, List.map_nil]);first|done|rfl|(simp only [List.length_drop, List.length_take];rfl)) ?_;(with_reducible refine (wicketmanref06_One.calls k1 x0_1 t271 t272 _ A3.out).mono ?_);rintro e w20 ⟨rfl, hb⟩;refine ⟨_, rfl, ?_⟩;have n0_ := aK (below_step (by repeat (first|(with_reducible first|apply bA|apply bN|apply bD)|exact HB.out)) hb);clear HB;have HB := n0_;clear n0_;try clear hb;have p8 : 0 ≤ (0 : Int) := (by omega);have q8 : 0 < x0_1.size := (by have : (0 : Int) < (x0_1.size : Int) := of_decide_eq_true (by first|(with_reducible assumption)|assumption);omega);have hx8 : ∀ h : 0 < x0_1.size, ((x0_1[0]'h).toNat : Int) = bt x0_1 0 := bt_at x0_1 0;clear p8;have qi8 : (0 < (x0_1.size : Int)) = True := eq_true (of_decide_eq_true (by first|(with_reducible assumption)|assumption));replace q8 := eq_true q8))
          go_roundg k1
          case measure => have := HK1.out;omega
          case rel => exact ⟨(x0_1.extract ((ji4) : Int).toNat x0_1.size), (x3_1 ++ (⟨#[38, 97, 109, 112, 59]⟩ : BA)), (by first|rfl|(simp;done)|(simp only [← hji4] <;> (first|rfl|simp))|(simp [*];done)), (by first|rfl|(simp;done)|(simp [*];done)), H', ⟨by have := HK1.out;omega⟩, ⟨by repeat (first|(with_reducible first|apply bA|apply bN|apply bD)|exact HB.out)⟩⟩
         ·rw [if_neg c16] at H
          exact absurd H (by simp)
       ·rw [if_neg c9] at H
        have c9b0 : ((bt x0_1 0) == 38) = false := beq_eq_false_iff_ne.mpr c9
        have c9b1 : ((bt x0_1 0) != 38) = true := bne_iff_ne.mpr c9
        by_cases c21 : (bt x0_1 0) = 60
        ·rw [if_pos c21] at H
         have c21b0 : ((bt x0_1 0) == 60) = true := beq_iff_eq.mpr c21
         have c21b1 : ((bt x0_1 0) != 60) = false := bne_eq_false_iff_eq.mpr c21
         clear c21
         by_cases c22 : t272 = 0
         ·rw [if_pos c22] at H
          have c22b0 : (t272 == 0) = true := beq_iff_eq.mpr c22
          have c22b1 : (t272 != 0) = false := bne_eq_false_iff_eq.mpr c22
          clear c22
          by_cases c23 : x3_1.size + 1 ≤ 9223372036854775807
          ·rw [if_pos c23] at H
           have c23b0 := eq_true c23
           have c23b1 : decide (x3_1.size + 1 ≤ 9223372036854775807) = true := decide_eq_true c23
           try have c23b2 : (9223372036854775807 < x3_1.size + 1) = False := eq_false (Nat.not_lt.2 c23)
           have c25b0 := eq_true (of_decide_eq_true (by first|(with_reducible assumption)|assumption) : 0 ≤ (ji4))
           have c26b0 := eq_true (of_decide_eq_true (by first|(with_reducible assumption)|assumption) : (ji4) ≤ (x0_1.size : Int))
           have H' := aK H
           clear H
           go_wp2_with (first|((with_reducible refine gate_callee (f := 134) rfl ?_);refine goesL_ (some 11) rfl rfl Tryz.func134 (by kernel_rfl) rfl #[.string x0_1] rfl (by (try simp only [List.map_toArray, List.map_cons, List.map_nil]);first|done|rfl|(simp only [List.length_drop, List.length_take];rfl)) ?_;(with_reducible refine (wicketmanref06_One.calls k1 x0_1 t271 t272 _ A3.out).mono ?_);rintro e w27 ⟨rfl, hb⟩;refine ⟨_, rfl, ?_⟩;have n0_ := aK (below_step (by repeat (first|(with_reducible first|apply bA|apply bN|apply bD)|exact HB.out)) hb);clear HB;have HB := n0_;clear n0_;try clear hb;have p8 : 0 ≤ (0 : Int) := (by omega);have q8 : 0 < x0_1.size := (by have : (0 : Int) < (x0_1.size : Int) := of_decide_eq_true (by first|(with_reducible assumption)|assumption);omega);have hx8 : ∀ h : 0 < x0_1.size, ((x0_1[0]'h).toNat : Int) = bt x0_1 0 := bt_at x0_1 0;clear p8;have qi8 : (0 < (x0_1.size : Int)) = True := eq_true (of_decide_eq_true (by first|(with_reducible assumption)|assumption));replace q8 := eq_true q8))
           go_roundg k1
           case measure => have := HK1.out;omega
           case rel => exact ⟨(x0_1.extract ((ji4) : Int).toNat x0_1.size), (x3_1 ++ (⟨#[63]⟩ : BA)), (by first|rfl|(simp;done)|(simp only [← hji4] <;> (first|rfl|simp))|(simp [*];done)), (by first|rfl|(simp;done)|(simp [*];done)), H', ⟨by have := HK1.out;omega⟩, ⟨by repeat (first|(with_reducible first|apply bA|apply bN|apply bD)|exact HB.out)⟩⟩
          ·rw [if_neg c23] at H
           exact absurd H (by simp)
         ·rw [if_neg c22] at H
          have c22b0 : (t272 == 0) = false := beq_eq_false_iff_ne.mpr c22
          have c22b1 : (t272 != 0) = true := bne_iff_ne.mpr c22
          by_cases c28 : x3_1.size + 4 ≤ 9223372036854775807
          ·rw [if_pos c28] at H
           have c28b0 := eq_true c28
           have c28b1 : decide (x3_1.size + 4 ≤ 9223372036854775807) = true := decide_eq_true c28
           try have c28b2 : (9223372036854775807 < x3_1.size + 4) = False := eq_false (Nat.not_lt.2 c28)
           have c30b0 := eq_true (of_decide_eq_true (by first|(with_reducible assumption)|assumption) : 0 ≤ (ji4))
           have c31b0 := eq_true (of_decide_eq_true (by first|(with_reducible assumption)|assumption) : (ji4) ≤ (x0_1.size : Int))
           have H' := aK H
           clear H
           go_wp2_with (first|((with_reducible refine gate_callee (f := 134) rfl ?_);refine goesL_ (some 11) rfl rfl Tryz.func134 (by kernel_rfl) rfl #[.string x0_1] rfl (by (try simp only [List.map_toArray, List.map_cons, List.map_nil]);first|done|rfl|(simp only [List.length_drop, List.length_take];rfl)) ?_;(with_reducible refine (wicketmanref06_One.calls k1 x0_1 t271 t272 _ A3.out).mono ?_);rintro e w32 ⟨rfl, hb⟩;refine ⟨_, rfl, ?_⟩;have n0_ := aK (below_step (by repeat (first|(with_reducible first|apply bA|apply bN|apply bD)|exact HB.out)) hb);clear HB;have HB := n0_;clear n0_;try clear hb;have p8 : 0 ≤ (0 : Int) := (by omega);have q8 : 0 < x0_1.size := (by have : (0 : Int) < (x0_1.size : Int) := of_decide_eq_true (by first|(with_reducible assumption)|assumption);omega);have hx8 : ∀ h : 0 < x0_1.size, ((x0_1[0]'h).toNat : Int) = bt x0_1 0 := bt_at x0_1 0;clear p8;have qi8 : (0 < (x0_1.size : Int)) = True := eq_true (of_decide_eq_true (by first|(with_reducible assumption)|assumption));replace q8 := eq_true q8))
           go_roundg k1
           case measure => have := HK1.out;omega
           case rel => exact ⟨(x0_1.extract ((ji4) : Int).toNat x0_1.size), (x3_1 ++ (⟨#[38, 108, 116, 59]⟩ : BA)), (by first|rfl|(simp;done)|(simp only [← hji4] <;> (first|rfl|simp))|(simp [*];done)), (by first|rfl|(simp;done)|(simp [*];done)), H', ⟨by have := HK1.out;omega⟩, ⟨by repeat (first|(with_reducible first|apply bA|apply bN|apply bD)|exact HB.out)⟩⟩
          ·rw [if_neg c28] at H
           exact absurd H (by simp)
        ·rw [if_neg c21] at H
         have c21b0 : ((bt x0_1 0) == 60) = false := beq_eq_false_iff_ne.mpr c21
         have c21b1 : ((bt x0_1 0) != 60) = true := bne_iff_ne.mpr c21
         by_cases c33 : (bt x0_1 0) = 62
         ·rw [if_pos c33] at H
          have c33b0 : ((bt x0_1 0) == 62) = true := beq_iff_eq.mpr c33
          have c33b1 : ((bt x0_1 0) != 62) = false := bne_eq_false_iff_eq.mpr c33
          clear c33
          by_cases c34 : t272 = 0
          ·rw [if_pos c34] at H
           have c34b0 : (t272 == 0) = true := beq_iff_eq.mpr c34
           have c34b1 : (t272 != 0) = false := bne_eq_false_iff_eq.mpr c34
           clear c34
           by_cases c35 : x3_1.size + 1 ≤ 9223372036854775807
           ·rw [if_pos c35] at H
            have c35b0 := eq_true c35
            have c35b1 : decide (x3_1.size + 1 ≤ 9223372036854775807) = true := decide_eq_true c35
            try have c35b2 : (9223372036854775807 < x3_1.size + 1) = False := eq_false (Nat.not_lt.2 c35)
            have c37b0 := eq_true (of_decide_eq_true (by first|(with_reducible assumption)|assumption) : 0 ≤ (ji4))
            have c38b0 := eq_true (of_decide_eq_true (by first|(with_reducible assumption)|assumption) : (ji4) ≤ (x0_1.size : Int))
            have H' := aK H
            clear H
            go_wp2_with (first|((with_reducible refine gate_callee (f := 134) rfl ?_);refine goesL_ (some 11) rfl rfl Tryz.func134 (by kernel_rfl) rfl #[.string x0_1] rfl (by (try simp only [List.map_toArray, List.map_cons, List.map_nil]);first|done|rfl|(simp only [List.length_drop, List.length_take];rfl)) ?_;(with_reducible refine (wicketmanref06_One.calls k1 x0_1 t271 t272 _ A3.out).mono ?_);rintro e w39 ⟨rfl, hb⟩;refine ⟨_, rfl, ?_⟩;have n0_ := aK (below_step (by repeat (first|(with_reducible first|apply bA|apply bN|apply bD)|exact HB.out)) hb);clear HB;have HB := n0_;clear n0_;try clear hb;have p8 : 0 ≤ (0 : Int) := (by omega);have q8 : 0 < x0_1.size := (by have : (0 : Int) < (x0_1.size : Int) := of_decide_eq_true (by first|(with_reducible assumption)|assumption);omega);have hx8 : ∀ h : 0 < x0_1.size, ((x0_1[0]'h).toNat : Int) = bt x0_1 0 := bt_at x0_1 0;clear p8;have qi8 : (0 < (x0_1.size : Int)) = True := eq_true (of_decide_eq_true (by first|(with_reducible assumption)|assumption));replace q8 := eq_true q8))
            go_roundg k1
            case measure => have := HK1.out;omega
            case rel => exact ⟨(x0_1.extract ((ji4) : Int).toNat x0_1.size), (x3_1 ++ (⟨#[63]⟩ : BA)), (by first|rfl|(simp;done)|(simp only [← hji4] <;> (first|rfl|simp))|(simp [*];done)), (by first|rfl|(simp;done)|(simp [*];done)), H', ⟨by have := HK1.out;omega⟩, ⟨by repeat (first|(with_reducible first|apply bA|apply bN|apply bD)|exact HB.out)⟩⟩
           ·rw [if_neg c35] at H
            exact absurd H (by simp)
          ·rw [if_neg c34] at H
           have c34b0 : (t272 == 0) = false := beq_eq_false_iff_ne.mpr c34
           have c34b1 : (t272 != 0) = true := bne_iff_ne.mpr c34
           by_cases c40 : x3_1.size + 4 ≤ 9223372036854775807
           ·rw [if_pos c40] at H
            have c40b0 := eq_true c40
            have c40b1 : decide (x3_1.size + 4 ≤ 9223372036854775807) = true := decide_eq_true c40
            try have c40b2 : (9223372036854775807 < x3_1.size + 4) = False := eq_false (Nat.not_lt.2 c40)
            have c42b0 := eq_true (of_decide_eq_true (by first|(with_reducible assumption)|assumption) : 0 ≤ (ji4))
            have c43b0 := eq_true (of_decide_eq_true (by first|(with_reducible assumption)|assumption) : (ji4) ≤ (x0_1.size : Int))
            have H' := aK H
            clear H
            go_wp2_with (first|((with_reducible refine gate_callee (f := 134) rfl ?_);refine goesL_ (some 11) rfl rfl Tryz.func134 (by kernel_rfl) rfl #[.string x0_1] rfl (by (try simp only [List.map_toArray, List.map_cons, List.map_nil]);first|done|rfl|(simp only [List.length_drop, List.length_take];rfl)) ?_;(with_reducible refine (wicketmanref06_One.calls k1 x0_1 t271 t272 _ A3.out).mono ?_);rintro e w44 ⟨rfl, hb⟩;refine ⟨_, rfl, ?_⟩;have n0_ := aK (below_step (by repeat (first|(with_reducible first|apply bA|apply bN|apply bD)|exact HB.out)) hb);clear HB;have HB := n0_;clear n0_;try clear hb;have p8 : 0 ≤ (0 : Int) := (by omega);have q8 : 0 < x0_1.size := (by have : (0 : Int) < (x0_1.size : Int) := of_decide_eq_true (by first|(with_reducible assumption)|assumption);omega);have hx8 : ∀ h : 0 < x0_1.size, ((x0_1[0]'h).toNat : Int) = bt x0_1 0 := bt_at x0_1 0;clear p8;have qi8 : (0 < (x0_1.size : Int)) = True := eq_true (of_decide_eq_true (by first|(with_reducible assumption)|assumption));replace q8 := eq_true q8))
            go_roundg k1
            case measure => have := HK1.out;omega
            case rel => exact ⟨(x0_1.extract ((ji4) : Int).toNat x0_1.size), (x3_1 ++ (⟨#[38, 103, 116, 59]⟩ : BA)), (by first|rfl|(simp;done)|(simp only [← hji4] <;> (first|rfl|simp))|(simp [*];done)), (by first|rfl|(simp;done)|(simp [*];done)), H', ⟨by have := HK1.out;omega⟩, ⟨by repeat (first|(with_reducible first|apply bA|apply bN|apply bD)|exact HB.out)⟩⟩
           ·rw [if_neg c40] at H
            exact absurd H (by simp)
         ·rw [if_neg c33] at H
          have c33b0 : ((bt x0_1 0) == 62) = false := beq_eq_false_iff_ne.mpr c33
          have c33b1 : ((bt x0_1 0) != 62) = true := bne_iff_ne.mpr c33
          by_cases c45 : (bt x0_1 0) = 34
          ·rw [if_pos c45] at H
           have c45b0 : ((bt x0_1 0) == 34) = true := beq_iff_eq.mpr c45
           have c45b1 : ((bt x0_1 0) != 34) = false := bne_eq_false_iff_eq.mpr c45
           clear c45
           by_cases c46 : t272 = 0
           ·rw [if_pos c46] at H
            have c46b0 : (t272 == 0) = true := beq_iff_eq.mpr c46
            have c46b1 : (t272 != 0) = false := bne_eq_false_iff_eq.mpr c46
            clear c46
            by_cases c47 : x3_1.size + 1 ≤ 9223372036854775807
            ·rw [if_pos c47] at H
             have c47b0 := eq_true c47
             have c47b1 : decide (x3_1.size + 1 ≤ 9223372036854775807) = true := decide_eq_true c47
             try have c47b2 : (9223372036854775807 < x3_1.size + 1) = False := eq_false (Nat.not_lt.2 c47)
             have c49b0 := eq_true (of_decide_eq_true (by first|(with_reducible assumption)|assumption) : 0 ≤ (ji4))
             have c50b0 := eq_true (of_decide_eq_true (by first|(with_reducible assumption)|assumption) : (ji4) ≤ (x0_1.size : Int))
             have H' := aK H
             clear H
             go_wp2_with (first|((with_reducible refine gate_callee (f := 134) rfl ?_);refine goesL_ (some 11) rfl rfl Tryz.func134 (by kernel_rfl) rfl #[.string x0_1] rfl (by (try simp only [List.map_toArray, List.map_cons, List.map_nil]);first|done|rfl|(simp only [List.length_drop, List.length_take];rfl)) ?_;(with_reducible refine (wicketmanref06_One.calls k1 x0_1 t271 t272 _ A3.out).mono ?_);rintro e w51 ⟨rfl, hb⟩;refine ⟨_, rfl, ?_⟩;have n0_ := aK (below_step (by repeat (first|(with_reducible first|apply bA|apply bN|apply bD)|exact HB.out)) hb);clear HB;have HB := n0_;clear n0_;try clear hb;have p8 : 0 ≤ (0 : Int) := (by omega);have q8 : 0 < x0_1.size := (by have : (0 : Int) < (x0_1.size : Int) := of_decide_eq_true (by first|(with_reducible assumption)|assumption);omega);have hx8 : ∀ h : 0 < x0_1.size, ((x0_1[0]'h).toNat : Int) = bt x0_1 0 := bt_at x0_1 0;clear p8;have qi8 : (0 < (x0_1.size : Int)) = True := eq_true (of_decide_eq_true (by first|(with_reducible assumption)|assumption));replace q8 := eq_true q8))
             go_roundg k1
             case measure => have := HK1.out;omega
             case rel => exact ⟨(x0_1.extract ((ji4) : Int).toNat x0_1.size), (x3_1 ++ (⟨#[63]⟩ : BA)), (by first|rfl|(simp;done)|(simp only [← hji4] <;> (first|rfl|simp))|(simp [*];done)), (by first|rfl|(simp;done)|(simp [*];done)), H', ⟨by have := HK1.out;omega⟩, ⟨by repeat (first|(with_reducible first|apply bA|apply bN|apply bD)|exact HB.out)⟩⟩
            ·rw [if_neg c47] at H
             exact absurd H (by simp)
           ·rw [if_neg c46] at H
            have c46b0 : (t272 == 0) = false := beq_eq_false_iff_ne.mpr c46
            have c46b1 : (t272 != 0) = true := bne_iff_ne.mpr c46
            by_cases c52 : x3_1.size + 5 ≤ 9223372036854775807
            ·rw [if_pos c52] at H
             have c52b0 := eq_true c52
             have c52b1 : decide (x3_1.size + 5 ≤ 9223372036854775807) = true := decide_eq_true c52
             try have c52b2 : (9223372036854775807 < x3_1.size + 5) = False := eq_false (Nat.not_lt.2 c52)
             have c54b0 := eq_true (of_decide_eq_true (by first|(with_reducible assumption)|assumption) : 0 ≤ (ji4))
             have c55b0 := eq_true (of_decide_eq_true (by first|(with_reducible assumption)|assumption) : (ji4) ≤ (x0_1.size : Int))
             have H' := aK H
             clear H
             go_wp2_with (first|((with_reducible refine gate_callee (f := 134) rfl ?_);refine goesL_ (some 11) rfl rfl Tryz.func134 (by kernel_rfl) rfl #[.string x0_1] rfl (by (try simp only [List.map_toArray, List.map_cons, List.map_nil]);first|done|rfl|(simp only [List.length_drop, List.length_take];rfl)) ?_;(with_reducible refine (wicketmanref06_One.calls k1 x0_1 t271 t272 _ A3.out).mono ?_);rintro e w56 ⟨rfl, hb⟩;refine ⟨_, rfl, ?_⟩;have n0_ := aK (below_step (by repeat (first|(with_reducible first|apply bA|apply bN|apply bD)|exact HB.out)) hb);clear HB;have HB := n0_;clear n0_;try clear hb;have p8 : 0 ≤ (0 : Int) := (by omega);have q8 : 0 < x0_1.size := (by have : (0 : Int) < (x0_1.size : Int) := of_decide_eq_true (by first|(with_reducible assumption)|assumption);omega);have hx8 : ∀ h : 0 < x0_1.size, ((x0_1[0]'h).toNat : Int) = bt x0_1 0 := bt_at x0_1 0;clear p8;have qi8 : (0 < (x0_1.size : Int)) = True := eq_true (of_decide_eq_true (by first|(with_reducible assumption)|assumption));replace q8 := eq_true q8))
             go_roundg k1
             case measure => have := HK1.out;omega
             case rel => exact ⟨(x0_1.extract ((ji4) : Int).toNat x0_1.size), (x3_1 ++ (⟨#[38, 35, 51, 52, 59]⟩ : BA)), (by first|rfl|(simp;done)|(simp only [← hji4] <;> (first|rfl|simp))|(simp [*];done)), (by first|rfl|(simp;done)|(simp [*];done)), H', ⟨by have := HK1.out;omega⟩, ⟨by repeat (first|(with_reducible first|apply bA|apply bN|apply bD)|exact HB.out)⟩⟩
            ·rw [if_neg c52] at H
             exact absurd H (by simp)
          ·rw [if_neg c45] at H
           have c45b0 : ((bt x0_1 0) == 34) = false := beq_eq_false_iff_ne.mpr c45
           have c45b1 : ((bt x0_1 0) != 34) = true := bne_iff_ne.mpr c45
           by_cases c57 : (bt x0_1 0) = 39
           ·rw [if_pos c57] at H
            have c57b0 : ((bt x0_1 0) == 39) = true := beq_iff_eq.mpr c57
            have c57b1 : ((bt x0_1 0) != 39) = false := bne_eq_false_iff_eq.mpr c57
            clear c57
            by_cases c58 : t272 = 0
            ·rw [if_pos c58] at H
             have c58b0 : (t272 == 0) = true := beq_iff_eq.mpr c58
             have c58b1 : (t272 != 0) = false := bne_eq_false_iff_eq.mpr c58
             clear c58
             by_cases c59 : x3_1.size + 1 ≤ 9223372036854775807
             ·rw [if_pos c59] at H
              have c59b0 := eq_true c59
              have c59b1 : decide (x3_1.size + 1 ≤ 9223372036854775807) = true := decide_eq_true c59
              try have c59b2 : (9223372036854775807 < x3_1.size + 1) = False := eq_false (Nat.not_lt.2 c59)
              have c61b0 := eq_true (of_decide_eq_true (by first|(with_reducible assumption)|assumption) : 0 ≤ (ji4))
              have c62b0 := eq_true (of_decide_eq_true (by first|(with_reducible assumption)|assumption) : (ji4) ≤ (x0_1.size : Int))
              have H' := aK H
              clear H
              go_wp2_with (first|((with_reducible refine gate_callee (f := 134) rfl ?_);refine goesL_ (some 11) rfl rfl Tryz.func134 (by kernel_rfl) rfl #[.string x0_1] rfl (by (try simp only [List.map_toArray, List.map_cons, List.map_nil]);first|done|rfl|(simp only [List.length_drop, List.length_take];rfl)) ?_;(with_reducible refine (wicketmanref06_One.calls k1 x0_1 t271 t272 _ A3.out).mono ?_);rintro e w63 ⟨rfl, hb⟩;refine ⟨_, rfl, ?_⟩;have n0_ := aK (below_step (by repeat (first|(with_reducible first|apply bA|apply bN|apply bD)|exact HB.out)) hb);clear HB;have HB := n0_;clear n0_;try clear hb;have p8 : 0 ≤ (0 : Int) := (by omega);have q8 : 0 < x0_1.size := (by have : (0 : Int) < (x0_1.size : Int) := of_decide_eq_true (by first|(with_reducible assumption)|assumption);omega);have hx8 : ∀ h : 0 < x0_1.size, ((x0_1[0]'h).toNat : Int) = bt x0_1 0 := bt_at x0_1 0;clear p8;have qi8 : (0 < (x0_1.size : Int)) = True := eq_true (of_decide_eq_true (by first|(with_reducible assumption)|assumption));replace q8 := eq_true q8))
              go_roundg k1
              case measure => have := HK1.out;omega
              case rel => exact ⟨(x0_1.extract ((ji4) : Int).toNat x0_1.size), (x3_1 ++ (⟨#[63]⟩ : BA)), (by first|rfl|(simp;done)|(simp only [← hji4] <;> (first|rfl|simp))|(simp [*];done)), (by first|rfl|(simp;done)|(simp [*];done)), H', ⟨by have := HK1.out;omega⟩, ⟨by repeat (first|(with_reducible first|apply bA|apply bN|apply bD)|exact HB.out)⟩⟩
             ·rw [if_neg c59] at H
              exact absurd H (by simp)
            ·rw [if_neg c58] at H
             have c58b0 : (t272 == 0) = false := beq_eq_false_iff_ne.mpr c58
             have c58b1 : (t272 != 0) = true := bne_iff_ne.mpr c58
             by_cases c64 : x3_1.size + 5 ≤ 9223372036854775807
             ·rw [if_pos c64] at H
              have c64b0 := eq_true c64
              have c64b1 : decide (x3_1.size + 5 ≤ 9223372036854775807) = true := decide_eq_true c64
              try have c64b2 : (9223372036854775807 < x3_1.size + 5) = False := eq_false (Nat.not_lt.2 c64)
              have c66b0 := eq_true (of_decide_eq_true (by first|(with_reducible assumption)|assumption) : 0 ≤ (ji4))
              have c67b0 := eq_true (of_decide_eq_true (by first|(with_reducible assumption)|assumption) : (ji4) ≤ (x0_1.size : Int))
              have H' := aK H
              clear H
              go_wp2_with (first|((with_reducible refine gate_callee (f := 134) rfl ?_);refine goesL_ (some 11) rfl rfl Tryz.func134 (by kernel_rfl) rfl #[.string x0_1] rfl (by (try simp only [List.map_toArray, List.map_cons, List.map_nil]);first|done|rfl|(simp only [List.length_drop, List.length_take];rfl)) ?_;(with_reducible refine (wicketmanref06_One.calls k1 x0_1 t271 t272 _ A3.out).mono ?_);rintro e w68 ⟨rfl, hb⟩;refine ⟨_, rfl, ?_⟩;have n0_ := aK (below_step (by repeat (first|(with_reducible first|apply bA|apply bN|apply bD)|exact HB.out)) hb);clear HB;have HB := n0_;clear n0_;try clear hb;have p8 : 0 ≤ (0 : Int) := (by omega);have q8 : 0 < x0_1.size := (by have : (0 : Int) < (x0_1.size : Int) := of_decide_eq_true (by first|(with_reducible assumption)|assumption);omega);have hx8 : ∀ h : 0 < x0_1.size, ((x0_1[0]'h).toNat : Int) = bt x0_1 0 := bt_at x0_1 0;clear p8;have qi8 : (0 < (x0_1.size : Int)) = True := eq_true (of_decide_eq_true (by first|(with_reducible assumption)|assumption));replace q8 := eq_true q8))
              go_roundg k1
              case measure => have := HK1.out;omega
              case rel => exact ⟨(x0_1.extract ((ji4) : Int).toNat x0_1.size), (x3_1 ++ (⟨#[38, 35, 51, 57, 59]⟩ : BA)), (by first|rfl|(simp;done)|(simp only [← hji4] <;> (first|rfl|simp))|(simp [*];done)), (by first|rfl|(simp;done)|(simp [*];done)), H', ⟨by have := HK1.out;omega⟩, ⟨by repeat (first|(with_reducible first|apply bA|apply bN|apply bD)|exact HB.out)⟩⟩
             ·rw [if_neg c64] at H
              exact absurd H (by simp)
           ·rw [if_neg c57] at H
            have c57b0 : ((bt x0_1 0) == 39) = false := beq_eq_false_iff_ne.mpr c57
            have c57b1 : ((bt x0_1 0) != 39) = true := bne_iff_ne.mpr c57
            by_cases c69 : t272 = 0
            ·rw [if_pos c69] at H
             have c69b0 : (t272 == 0) = true := beq_iff_eq.mpr c69
             have c69b1 : (t272 != 0) = false := bne_eq_false_iff_eq.mpr c69
             clear c69
             by_cases c70 : x3_1.size + 1 ≤ 9223372036854775807
             ·rw [if_pos c70] at H
              have c70b0 := eq_true c70
              have c70b1 : decide (x3_1.size + 1 ≤ 9223372036854775807) = true := decide_eq_true c70
              try have c70b2 : (9223372036854775807 < x3_1.size + 1) = False := eq_false (Nat.not_lt.2 c70)
              have c72b0 := eq_true (of_decide_eq_true (by first|(with_reducible assumption)|assumption) : 0 ≤ (ji4))
              have c73b0 := eq_true (of_decide_eq_true (by first|(with_reducible assumption)|assumption) : (ji4) ≤ (x0_1.size : Int))
              have H' := aK H
              clear H
              go_wp2_with (first|((with_reducible refine gate_callee (f := 134) rfl ?_);refine goesL_ (some 11) rfl rfl Tryz.func134 (by kernel_rfl) rfl #[.string x0_1] rfl (by (try simp only [List.map_toArray, List.map_cons, List.map_nil]);first|done|rfl|(simp only [List.length_drop, List.length_take];rfl)) ?_;(with_reducible refine (wicketmanref06_One.calls k1 x0_1 t271 t272 _ A3.out).mono ?_);rintro e w74 ⟨rfl, hb⟩;refine ⟨_, rfl, ?_⟩;have n0_ := aK (below_step (by repeat (first|(with_reducible first|apply bA|apply bN|apply bD)|exact HB.out)) hb);clear HB;have HB := n0_;clear n0_;try clear hb;have p8 : 0 ≤ (0 : Int) := (by omega);have q8 : 0 < x0_1.size := (by have : (0 : Int) < (x0_1.size : Int) := of_decide_eq_true (by first|(with_reducible assumption)|assumption);omega);have hx8 : ∀ h : 0 < x0_1.size, ((x0_1[0]'h).toNat : Int) = bt x0_1 0 := bt_at x0_1 0;clear p8;have qi8 : (0 < (x0_1.size : Int)) = True := eq_true (of_decide_eq_true (by first|(with_reducible assumption)|assumption));replace q8 := eq_true q8))
              go_roundg k1
              case measure => have := HK1.out;omega
              case rel => exact ⟨(x0_1.extract ((ji4) : Int).toNat x0_1.size), (x3_1 ++ (⟨#[63]⟩ : BA)), (by first|rfl|(simp;done)|(simp only [← hji4] <;> (first|rfl|simp))|(simp [*];done)), (by first|rfl|(simp;done)|(simp [*];done)), H', ⟨by have := HK1.out;omega⟩, ⟨by repeat (first|(with_reducible first|apply bA|apply bN|apply bD)|exact HB.out)⟩⟩
             ·rw [if_neg c70] at H
              exact absurd H (by simp)
            ·rw [if_neg c69] at H
             have c69b0 : (t272 == 0) = false := beq_eq_false_iff_ne.mpr c69
             have c69b1 : (t272 != 0) = true := bne_iff_ne.mpr c69
             by_cases c75 : x3_1.size + (x0_1.extract 0 ((ji4) : Int).toNat).size ≤ 9223372036854775807
             ·rw [if_pos c75] at H
              have c75b0 := eq_true c75
              have c75b1 : decide (x3_1.size + (x0_1.extract 0 ((ji4) : Int).toNat).size ≤ 9223372036854775807) = true := decide_eq_true c75
              try have c75b2 : (9223372036854775807 < x3_1.size + (x0_1.extract 0 ((ji4) : Int).toNat).size) = False := eq_false (Nat.not_lt.2 c75)
              have c77b0 := eq_true (of_decide_eq_true (by first|(with_reducible assumption)|assumption) : 0 ≤ (ji4))
              have c78b0 := eq_true (of_decide_eq_true (by first|(with_reducible assumption)|assumption) : (ji4) ≤ (x0_1.size : Int))
              have H' := aK H
              clear H
              go_wp2_with (first|((with_reducible refine gate_callee (f := 134) rfl ?_);refine goesL_ (some 11) rfl rfl Tryz.func134 (by kernel_rfl) rfl #[.string x0_1] rfl (by (try simp only [List.map_toArray, List.map_cons, List.map_nil]);first|done|rfl|(simp only [List.length_drop, List.length_take];rfl)) ?_;(with_reducible refine (wicketmanref06_One.calls k1 x0_1 t271 t272 _ A3.out).mono ?_);rintro e w79 ⟨rfl, hb⟩;refine ⟨_, rfl, ?_⟩;have n0_ := aK (below_step (by repeat (first|(with_reducible first|apply bA|apply bN|apply bD)|exact HB.out)) hb);clear HB;have HB := n0_;clear n0_;try clear hb;have p8 : 0 ≤ (0 : Int) := (by omega);have q8 : 0 < x0_1.size := (by have : (0 : Int) < (x0_1.size : Int) := of_decide_eq_true (by first|(with_reducible assumption)|assumption);omega);have hx8 : ∀ h : 0 < x0_1.size, ((x0_1[0]'h).toNat : Int) = bt x0_1 0 := bt_at x0_1 0;clear p8;have qi8 : (0 < (x0_1.size : Int)) = True := eq_true (of_decide_eq_true (by first|(with_reducible assumption)|assumption));replace q8 := eq_true q8))
              go_roundg k1
              case measure => have := HK1.out;omega
              case rel => exact ⟨(x0_1.extract ((ji4) : Int).toNat x0_1.size), (x3_1 ++ (x0_1.extract 0 ((ji4) : Int).toNat)), (by first|rfl|(simp;done)|(simp only [← hji4] <;> (first|rfl|simp))|(simp [*];done)), (by first|rfl|(simp;done)|(simp only [← hji4] <;> (first|rfl|simp))|(simp [*];done)), H', ⟨by have := HK1.out;omega⟩, ⟨by repeat (first|(with_reducible first|apply bA|apply bN|apply bD)|exact HB.out)⟩⟩
             ·rw [if_neg c75] at H
              exact absurd H (by simp)
      ·rw [if_neg c7] at H
       exact absurd H (by simp)
     ·rw [if_neg c6] at H
      exact absurd H (by simp)
    ·rw [if_neg c5] at H
     exact absurd H (by simp)
end Go.Proofs.YthdiiiopjkaifaaGreatDoor.Pall

import Derived.Test.YthdiiiopjkaifaaGreatDoorZdPall0
import Derived.Test.YthdiiiopjkaifaaGreatDoorZdPall6
namespace Go.Proofs.YthdiiiopjkaifaaGreatDoor.Pall
open Go.RowKit Go.Proofs.YthdiiiopjkaifaaGreatDoorW.PrintWords Go.Proofs.YthdiiiopjkaifaaGreatDoorW.PrintLast
set_option linter.unusedVariables false
set_option linter.unusedSimpArgs false
mutual
def wicketmanref08_trim.j1 : Nat → ByteArray → Option (ByteArray)
 | 0, _ => none
 | k + 1, x0 => wicketmanref08_trim.l1 k x0
def wicketmanref08_trim.l1 : Nat → ByteArray → Option (ByteArray)
 | 0, _ => none
 | k + 1, x0 => if (x0.size : Int) > 0 then (if 0 ≤ (wrap64 ((x0.size : Int) - 1)) then (if (wrap64 ((x0.size : Int) - 1)) < (x0.size : Int) then ((wicketmanref08_blank.f (bt x0 (wrap64 ((x0.size : Int) - 1)))).bind fun t194 => (if t194 = true then (if (wrap64 ((x0.size : Int) - 1)) ≤ (x0.size : Int) then (wicketmanref08_trim.l1 k (x0.extract 0 ((wrap64 ((x0.size : Int) - 1)) : Int).toNat)) else (none)) else (some x0))) else (none)) else (none)) else (some x0)
def wicketmanref08_trim.l0 : Nat → ByteArray → Option (ByteArray)
 | 0, _ => none
 | k + 1, x0 => if (x0.size : Int) > 0 then (if 0 < (x0.size : Int) then ((wicketmanref08_blank.f (bt x0 0)).bind fun t193 => (if t193 = true then (if 1 ≤ (x0.size : Int) then (wicketmanref08_trim.l0 k (x0.extract 1 x0.size)) else (none)) else (wicketmanref08_trim.j1 k x0))) else (none)) else (wicketmanref08_trim.j1 k x0)
end
def wicketmanref08_trim.f (k : Nat) (a0 : ByteArray) : Option (ByteArray) := wicketmanref08_trim.l0 k a0
theorem wicketmanref08_trim.mono_l : ∀ k, (∀ y0, LeO (wicketmanref08_trim.j1 k y0) (wicketmanref08_trim.j1 (k + 1) y0)) ∧ (∀ y0, LeO (wicketmanref08_trim.l1 k y0) (wicketmanref08_trim.l1 (k + 1) y0)) ∧ (∀ y0, LeO (wicketmanref08_trim.l0 k y0) (wicketmanref08_trim.l0 (k + 1) y0))
 | 0 => ⟨fun _ r h => by simp [wicketmanref08_trim.j1] at h, fun _ r h => by simp [wicketmanref08_trim.l1] at h, fun _ r h => by simp [wicketmanref08_trim.l0] at h⟩
 | k + 1 => by
  obtain ⟨ih0, ih1, ih2⟩ := wicketmanref08_trim.mono_l k
  refine ⟨?_, ?_, ?_⟩
  ·intro y0
   unfold wicketmanref08_trim.j1
   repeat' first|(with_reducible first|exact ih0 _|exact ih1 _|exact ih2 _|exact LeO.refl _|exact LeO.none _|refine LeO.ite ?_ ?_|refine LeO.bind ?_ (fun _ => ?_))|exact LeO.none _|refine LeO.ite ?_ ?_|refine LeO.bind ?_ (fun _ => ?_)
  ·intro y0
   unfold wicketmanref08_trim.l1
   repeat' first|(with_reducible first|exact ih0 _|exact ih1 _|exact ih2 _|exact LeO.refl _|exact LeO.none _|refine LeO.ite ?_ ?_|refine LeO.bind ?_ (fun _ => ?_))|exact LeO.none _|refine LeO.ite ?_ ?_|refine LeO.bind ?_ (fun _ => ?_)
  ·intro y0
   unfold wicketmanref08_trim.l0
   repeat' first|(with_reducible first|exact ih0 _|exact ih1 _|exact ih2 _|exact LeO.refl _|exact LeO.none _|refine LeO.ite ?_ ?_|refine LeO.bind ?_ (fun _ => ?_))|exact LeO.none _|refine LeO.ite ?_ ?_|refine LeO.bind ?_ (fun _ => ?_)
theorem wicketmanref08_trim.mono : ∀ a0 k, LeO (wicketmanref08_trim.f k a0) (wicketmanref08_trim.f (k + 1) a0) := by
 intro a0 k
 obtain ⟨ih0, ih1, ih2⟩ := wicketmanref08_trim.mono_l k
 unfold wicketmanref08_trim.f
 repeat' first|(with_reducible first|exact ih0 _|exact ih1 _|exact ih2 _|exact LeO.refl _|exact LeO.none _|refine LeO.ite ?_ ?_|refine LeO.bind ?_ (fun _ => ?_))|exact LeO.none _|refine LeO.ite ?_ ?_|refine LeO.bind ?_ (fun _ => ?_)
set_option maxHeartbeats 8000000 in
set_option maxRecDepth 100000 in
theorem wicketmanref08_trim.calls (k : Nat) (a0 : ByteArray) (r : ByteArray) (w : World) (h : wicketmanref08_trim.f k a0 = some r) :
  Calls Tryz.prog 109 #[.string a0] w fun e w' => e = .returned (.string r) ∧ Drawn0 w w' := by
 have H : (wicketmanref08_trim.l0 k a0) = some r := h
 clear h
 have HC2 := aK H
 clear H
 go_enter Tryz.func109, Tryz.ntmps109
 go_upto_block 0 with (fail)
 go_cut [0] (fun v0 wc => ∃ (kq : Nat) (x0_1 : ByteArray), v0 = .string x0_1 ∧ Aside0 (wicketmanref08_trim.j1 kq x0_1 = some r) ∧ Aside0 (kq ≤ k) ∧ Drawn0 w wc)
 case first =>
  have H := HC2.out
  clear HC2
  have H' := aK H
  clear H
  go_wp2
  go_loopg [0] k (fun kq v0 w' => ∃ (x0_1 : ByteArray), v0 = .string x0_1 ∧ Aside0 (wicketmanref08_trim.l0 kq x0_1 = some r) ∧ Aside0 (kq ≤ k) ∧ Drawn0 w w')
  case atStart => exact ⟨(a0), (by first|rfl|(simp;done)|(simp [*];done)), H', ⟨Nat.le_refl _⟩, by repeat (first|exact Drawn0.refl _|apply Drawn0.step)⟩
  case round =>
   clear H'
   try clear c1
   try clear p2
   obtain ⟨x0_1, rfl, HA, HK1, ⟨m1, rfl⟩⟩ := hrel
   cases gk with
   | zero => exact absurd HA.out (by simp [wicketmanref08_trim.l0])
   | succ k1 =>
    have H := HA.out
    clear HA
    simp only [wicketmanref08_trim.l0] at H
    by_cases c3 : (x0_1.size : Int) > 0
    ·rw [if_pos c3] at H
     have c3b0 : decide (0 < (x0_1.size : Int)) = true := decide_eq_true c3
     have c3b1 : decide (0 < x0_1.size) = true := decide_eq_true (by omega)
     clear c3
     (first|rw [c3b0]|(simp only [i64_w, i32_w];rw [c3b0])|skip)
     by_cases c4 : 0 < (x0_1.size : Int)
     ·rw [if_pos c4] at H
      have c4b0 : decide (0 < (x0_1.size : Int)) = true := decide_eq_true c4
      have c4b1 : decide (0 < x0_1.size) = true := decide_eq_true (by omega)
      clear c4
      replace H := Option.bind_eq_some_iff.mp H
      obtain ⟨t193, A60, H⟩ := H
      try dsimp only at H
      have A6 := aK A60
      clear A60
      by_cases c7 : t193 = true
      ·subst c7
       rw [if_pos rfl] at H
       by_cases c8 : 1 ≤ (x0_1.size : Int)
       ·rw [if_pos c8] at H
        have c8b0 := eq_true c8
        have c8b1 : decide (1 ≤ (x0_1.size : Int)) = true := decide_eq_true c8
        clear c8
        have H' := aK H
        clear H
        have p5 : 0 ≤ (0 : Int) := (by omega)
        have q5 : 0 < x0_1.size := (by have : (0 : Int) < (x0_1.size : Int) := of_decide_eq_true (by first|(with_reducible assumption)|assumption);omega)
        have hx5 : ∀ h : 0 < x0_1.size, ((x0_1[0]'h).toNat : Int) = bt x0_1 0 := bt_at x0_1 0
        clear p5
        have qi5 : (0 < (x0_1.size : Int)) = True := eq_true (of_decide_eq_true (by first|(with_reducible assumption)|assumption))
        replace q5 := eq_true q5
        go_wp2_with (first|(go_at_call 164;(with_reducible refine (wicketmanref08_blank.calls (bt x0_1 0) true _ A6.out).mono ?_);rintro e w' ⟨rfl, ⟨nd, rfl⟩⟩))
        go_roundg k1
        case measure => have := HK1.out;omega
        case rel => exact ⟨(x0_1.extract 1 x0_1.size), (by first|rfl|(simp;done)|(simp [*];done)), H', ⟨by have := HK1.out;omega⟩, by repeat (first|exact Drawn0.refl _|apply Drawn0.step)⟩
       ·rw [if_neg c8] at H
        exact absurd H (by simp)
      ·replace c7 := Bool.eq_false_iff.mpr c7
       subst c7
       rw [if_neg (show ¬ (false = true) by decide)] at H
       have H' := aK H
       clear H
       have p5 : 0 ≤ (0 : Int) := (by omega)
       have q5 : 0 < x0_1.size := (by have : (0 : Int) < (x0_1.size : Int) := of_decide_eq_true (by first|(with_reducible assumption)|assumption);omega)
       have hx5 : ∀ h : 0 < x0_1.size, ((x0_1[0]'h).toNat : Int) = bt x0_1 0 := bt_at x0_1 0
       clear p5
       have qi5 : (0 < (x0_1.size : Int)) = True := eq_true (of_decide_eq_true (by first|(with_reducible assumption)|assumption))
       replace q5 := eq_true q5
       go_wp2_with (first|(go_at_call 164;(with_reducible refine (wicketmanref08_blank.calls (bt x0_1 0) false _ A6.out).mono ?_);rintro e w' ⟨rfl, ⟨nd, rfl⟩⟩))
       go_meet
       case rel => exact ⟨_, (x0_1), (by first|rfl|(simp;done)|(simp [*];done)), H', ⟨by have := HK1.out;first|omega|exact Nat.le_refl _⟩, by repeat (first|exact Drawn0.refl _|apply Drawn0.step)⟩
     ·rw [if_neg c4] at H
      exact absurd H (by simp)
    ·rw [if_neg c3] at H
     have c3b0 : decide (0 < (x0_1.size : Int)) = false := decide_eq_false c3
     have c3b1 : decide (0 < x0_1.size) = false := decide_eq_false (by omega)
     clear c3
     (first|rw [c3b0]|(simp only [i64_w, i32_w];rw [c3b0])|skip)
     have H' := aK H
     clear H
     go_wp2
     go_meet
     case rel => exact ⟨_, (x0_1), (by first|rfl|(simp;done)|(simp [*];done)), H', ⟨by have := HK1.out;first|omega|exact Nat.le_refl _⟩, by repeat (first|exact Drawn0.refl _|apply Drawn0.step)⟩
 case rest =>
  clear HC2
  try clear c1
  try clear p2
  try clear c3
  try clear c3b0
  try clear c3b1
  try clear c4
  try clear c4b0
  try clear c4b1
  try clear p5
  try clear q5
  try clear hx5
  try clear qi5
  try clear c7
  try clear c8
  try clear c8b0
  try clear c8b1
  try clear p2
  try clear p5
  try clear q5
  obtain ⟨kq, x0_1, rfl, HA, HJ1, ⟨mc1, rfl⟩⟩ := hcut
  cases kq with
  | zero => exact absurd HA.out (by simp [wicketmanref08_trim.j1])
  | succ kj1 =>
   have H := HA.out
   clear HA
   simp only [wicketmanref08_trim.j1] at H
   have H' := aK H
   clear H
   go_wp2
   go_loopg [0] kj1 (fun kq v0 w' => ∃ (x0_2 : ByteArray), v0 = .string x0_2 ∧ Aside0 (wicketmanref08_trim.l1 kq x0_2 = some r) ∧ Aside0 (kq ≤ kj1) ∧ Drawn0 w w')
   case atStart => exact ⟨(x0_1), (by first|rfl|(simp;done)|(simp [*];done)), H', ⟨Nat.le_refl _⟩, by repeat (first|exact Drawn0.refl _|apply Drawn0.step)⟩
   case round =>
    clear H'
    try clear c1
    try clear p2
    try clear c3
    try clear c3b0
    try clear c3b1
    try clear c4
    try clear c4b0
    try clear c4b1
    try clear p5
    try clear q5
    try clear hx5
    try clear qi5
    try clear c7
    try clear c8
    try clear c8b0
    try clear c8b1
    try clear p2
    try clear p5
    try clear q5
    obtain ⟨x0_2, rfl, HA, HK2, ⟨m2, rfl⟩⟩ := hrel
    cases gk with
    | zero => exact absurd HA.out (by simp [wicketmanref08_trim.l1])
    | succ k2 =>
     have H := HA.out
     clear HA
     simp only [wicketmanref08_trim.l1] at H
     by_cases c9 : (x0_2.size : Int) > 0
     ·rw [if_pos c9] at H
      have c9b0 : decide (0 < (x0_2.size : Int)) = true := decide_eq_true c9
      have c9b1 : decide (0 < x0_2.size) = true := decide_eq_true (by omega)
      clear c9
      obtain ⟨ji10, hji10⟩ : ∃ j_ : Int, (wrap64 ((x0_2.size : Int) - 1)) = j_ := ⟨_, rfl⟩
      replace H : (if 0 ≤ (ji10) then (if (ji10) < (x0_2.size : Int) then ((wicketmanref08_blank.f (bt x0_2 (ji10))).bind fun t194 => (if t194 = true then (if (ji10) ≤ (x0_2.size : Int) then (wicketmanref08_trim.l1 k2 (x0_2.extract 0 ((ji10) : Int).toNat)) else (none)) else (some x0_2))) else (none)) else (none)) = some r := by first|(rw [hji10] at H;exact H)|(simp only [hji10] at H ⊢;exact H)
      have hji10w : (IntKind.i64.wrap ((x0_2.size : Int) - 1)) = ji10 := (i64_w _).trans hji10
      by_cases c11 : 0 ≤ (ji10)
      ·rw [if_pos c11] at H
       have c11b0 : decide (0 ≤ (ji10)) = true := decide_eq_true c11
       clear c11
       by_cases c12 : (ji10) < (x0_2.size : Int)
       ·rw [if_pos c12] at H
        have c12b0 : decide ((ji10) < (x0_2.size : Int)) = true := decide_eq_true c12
        clear c12
        replace H := Option.bind_eq_some_iff.mp H
        obtain ⟨t194, A140, H⟩ := H
        try dsimp only at H
        have A14 := aK A140
        clear A140
        by_cases c15 : t194 = true
        ·subst c15
         rw [if_pos rfl] at H
         have c16b0 := eq_true (of_decide_eq_true (by first|(with_reducible assumption)|assumption) : 0 ≤ (ji10))
         by_cases c17 : (ji10) ≤ (x0_2.size : Int)
         ·rw [if_pos c17] at H
          have c17b0 := eq_true c17
          have c17b1 : decide ((ji10) ≤ (x0_2.size : Int)) = true := decide_eq_true c17
          clear c17
          have H' := aK H
          clear H
          have p13 : 0 ≤ ((ji10) : Int) := of_decide_eq_true (by first|(with_reducible assumption)|assumption)
          have q13 : (ji10) < (x0_2.size : Int) := of_decide_eq_true (by first|(with_reducible assumption)|assumption)
          have hx13 := bt_at x0_2 (ji10)
          replace p13 := eq_true p13
          replace q13 := eq_true q13
          go_wp2_with (first|(go_at_call 164;(with_reducible refine (wicketmanref08_blank.calls (bt x0_2 (ji10)) true _ A14.out).mono ?_);rintro e w' ⟨rfl, ⟨nd, rfl⟩⟩))
          go_roundg k2
          case measure => have := HJ1.out;have := HK2.out;omega
          case rel => exact ⟨(x0_2.extract 0 ((ji10) : Int).toNat), (by first|rfl|(simp;done)|(simp only [← hji10] <;> (first|rfl|simp))|(simp [*];done)), H', ⟨by have := HJ1.out;have := HK2.out;omega⟩, by repeat (first|exact Drawn0.refl _|apply Drawn0.step)⟩
         ·rw [if_neg c17] at H
          exact absurd H (by simp)
        ·replace c15 := Bool.eq_false_iff.mpr c15
         subst c15
         rw [if_neg (show ¬ (false = true) by decide)] at H
         obtain rfl := Option.some.inj H
         have p13 : 0 ≤ ((ji10) : Int) := of_decide_eq_true (by first|(with_reducible assumption)|assumption)
         have q13 : (ji10) < (x0_2.size : Int) := of_decide_eq_true (by first|(with_reducible assumption)|assumption)
         have hx13 := bt_at x0_2 (ji10)
         replace p13 := eq_true p13
         replace q13 := eq_true q13
         go_wp2_with (first|(go_at_call 164;(with_reducible refine (wicketmanref08_blank.calls (bt x0_2 (ji10)) false _ A14.out).mono ?_);rintro e w' ⟨rfl, ⟨nd, rfl⟩⟩))
         go_ret
         exact ⟨by first|rfl|(simp;done)|(simp only [← hji10] <;> (first|rfl|simp))|(simp [*];done), by repeat (first|exact Drawn0.refl _|apply Drawn0.step)⟩
       ·rw [if_neg c12] at H
        exact absurd H (by simp)
      ·rw [if_neg c11] at H
       exact absurd H (by simp)
     ·rw [if_neg c9] at H
      have c9b0 : decide (0 < (x0_2.size : Int)) = false := decide_eq_false c9
      have c9b1 : decide (0 < x0_2.size) = false := decide_eq_false (by omega)
      clear c9
      obtain rfl := Option.some.inj H
      go_wp2
      go_ret
      exact ⟨by first|rfl|(simp;done)|(simp [*];done), by repeat (first|exact Drawn0.refl _|apply Drawn0.step)⟩
mutual
def wicketmanref08_sign.j0 : Nat → Int → Bool → Option (Bool)
 | 0, _, _ => none
 | k + 1, x0, x25 => if x25 = true then (some true) else (wicketmanref08_sign.l0 k x0 0)
def wicketmanref08_sign.l0 : Nat → Int → Int → Option (Bool)
 | 0, _, _ => none
 | k + 1, x0, x3 => if x3 < 15 then (if 0 ≤ x3 then (if (bt (⟨#[33, 35, 36, 37, 38, 39, 42, 43, 45, 46, 94, 95, 96, 124, 126]⟩ : BA) x3) = x0 then (some true) else (wicketmanref08_sign.l0 k x0 (wrap64 (x3 + 1)))) else (none)) else (some false)
end
def wicketmanref08_sign.f (k : Nat) (a0 : Int) : Option (Bool) := if a0 ≥ 97 then (if a0 ≤ 122 then (wicketmanref08_sign.j0 k a0 true) else (if a0 ≥ 65 then (if a0 ≤ 90 then (wicketmanref08_sign.j0 k a0 true) else (if a0 ≥ 48 then (wicketmanref08_sign.j0 k a0 (decide (a0 ≤ 57))) else (wicketmanref08_sign.j0 k a0 false))) else (if a0 ≥ 48 then (wicketmanref08_sign.j0 k a0 (decide (a0 ≤ 57))) else (wicketmanref08_sign.j0 k a0 false)))) else (if a0 ≥ 65 then (if a0 ≤ 90 then (wicketmanref08_sign.j0 k a0 true) else (if a0 ≥ 48 then (wicketmanref08_sign.j0 k a0 (decide (a0 ≤ 57))) else (wicketmanref08_sign.j0 k a0 false))) else (if a0 ≥ 48 then (wicketmanref08_sign.j0 k a0 (decide (a0 ≤ 57))) else (wicketmanref08_sign.j0 k a0 false)))
theorem wicketmanref08_sign.mono_l : ∀ k, (∀ y0 y1, LeO (wicketmanref08_sign.j0 k y0 y1) (wicketmanref08_sign.j0 (k + 1) y0 y1)) ∧ (∀ y0 y1, LeO (wicketmanref08_sign.l0 k y0 y1) (wicketmanref08_sign.l0 (k + 1) y0 y1))
 | 0 => ⟨fun _ _ r h => by simp [wicketmanref08_sign.j0] at h, fun _ _ r h => by simp [wicketmanref08_sign.l0] at h⟩
 | k + 1 => by
  obtain ⟨ih0, ih1⟩ := wicketmanref08_sign.mono_l k
  refine ⟨?_, ?_⟩
  ·intro y0 y1
   unfold wicketmanref08_sign.j0
   repeat' first|(with_reducible first|exact ih0 _ _|exact ih1 _ _|exact LeO.refl _|exact LeO.none _|refine LeO.ite ?_ ?_|refine LeO.bind ?_ (fun _ => ?_))|exact LeO.none _|refine LeO.ite ?_ ?_|refine LeO.bind ?_ (fun _ => ?_)
  ·intro y0 y1
   unfold wicketmanref08_sign.l0
   repeat' first|(with_reducible first|exact ih0 _ _|exact ih1 _ _|exact LeO.refl _|exact LeO.none _|refine LeO.ite ?_ ?_|refine LeO.bind ?_ (fun _ => ?_))|exact LeO.none _|refine LeO.ite ?_ ?_|refine LeO.bind ?_ (fun _ => ?_)
theorem wicketmanref08_sign.mono : ∀ a0 k, LeO (wicketmanref08_sign.f k a0) (wicketmanref08_sign.f (k + 1) a0) := by
 intro a0 k
 obtain ⟨ih0, ih1⟩ := wicketmanref08_sign.mono_l k
 unfold wicketmanref08_sign.f
 repeat' first|(with_reducible first|exact ih0 _ _|exact ih1 _ _|exact LeO.refl _|exact LeO.none _|refine LeO.ite ?_ ?_|refine LeO.bind ?_ (fun _ => ?_))|exact LeO.none _|refine LeO.ite ?_ ?_|refine LeO.bind ?_ (fun _ => ?_)
set_option maxHeartbeats 8000000 in
set_option maxRecDepth 100000 in
theorem wicketmanref08_sign.calls (k : Nat) (a0 : Int) (r : Bool) (w : World) (h : wicketmanref08_sign.f k a0 = some r) :
  Calls Tryz.prog 165 #[.int .u8 a0] w fun e w' => e = .returned (.bool r) ∧ Drawn0 w w' := by
 have H : (if a0 ≥ 97 then (if a0 ≤ 122 then (wicketmanref08_sign.j0 k a0 true) else (if a0 ≥ 65 then (if a0 ≤ 90 then (wicketmanref08_sign.j0 k a0 true) else (if a0 ≥ 48 then (wicketmanref08_sign.j0 k a0 (decide (a0 ≤ 57))) else (wicketmanref08_sign.j0 k a0 false))) else (if a0 ≥ 48 then (wicketmanref08_sign.j0 k a0 (decide (a0 ≤ 57))) else (wicketmanref08_sign.j0 k a0 false)))) else (if a0 ≥ 65 then (if a0 ≤ 90 then (wicketmanref08_sign.j0 k a0 true) else (if a0 ≥ 48 then (wicketmanref08_sign.j0 k a0 (decide (a0 ≤ 57))) else (wicketmanref08_sign.j0 k a0 false))) else (if a0 ≥ 48 then (wicketmanref08_sign.j0 k a0 (decide (a0 ≤ 57))) else (wicketmanref08_sign.j0 k a0 false)))) = some r := h
 clear h
 have HC2 := aK H
 clear H
 go_enter Tryz.func165, Tryz.ntmps165
 go_upto_region 1 with (fail)
 go_cut [25] (fun v25 wc => ∃ (kq : Nat) (x25_1 : Bool), v25 = .bool x25_1 ∧ Aside0 (wicketmanref08_sign.j0 kq a0 x25_1 = some r) ∧ Aside0 (kq ≤ k) ∧ Drawn0 w wc)
 case first =>
  have H := HC2.out
  clear HC2
  by_cases c3 : a0 ≥ 97
  ·rw [if_pos c3] at H
   have c3b0 : decide (97 ≤ a0) = true := decide_eq_true c3
   clear c3
   (first|rw [c3b0]|(simp only [i64_w, i32_w];rw [c3b0])|skip)
   by_cases c4 : a0 ≤ 122
   ·rw [if_pos c4] at H
    have c4b0 : decide (a0 ≤ 122) = true := decide_eq_true c4
    clear c4
    have H' := aK H
    clear H
    go_wp2
    go_meet
    case rel => exact ⟨_, (true), (by first|rfl|(simp;done)|(simp [*];done)), H', ⟨by first|omega|exact Nat.le_refl _⟩, by repeat (first|exact Drawn0.refl _|apply Drawn0.step)⟩
   ·rw [if_neg c4] at H
    have c4b0 : decide (a0 ≤ 122) = false := decide_eq_false c4
    clear c4
    by_cases c5 : a0 ≥ 65
    ·rw [if_pos c5] at H
     have c5b0 : decide (65 ≤ a0) = true := decide_eq_true c5
     clear c5
     by_cases c6 : a0 ≤ 90
     ·rw [if_pos c6] at H
      have c6b0 : decide (a0 ≤ 90) = true := decide_eq_true c6
      clear c6
      have H' := aK H
      clear H
      go_wp2
      go_meet
      case rel => exact ⟨_, (true), (by first|rfl|(simp;done)|(simp [*];done)), H', ⟨by first|omega|exact Nat.le_refl _⟩, by repeat (first|exact Drawn0.refl _|apply Drawn0.step)⟩
     ·rw [if_neg c6] at H
      have c6b0 : decide (a0 ≤ 90) = false := decide_eq_false c6
      clear c6
      by_cases c7 : a0 ≥ 48
      ·rw [if_pos c7] at H
       have c7b0 : decide (48 ≤ a0) = true := decide_eq_true c7
       clear c7
       have H' := aK H
       clear H
       go_wp2
       go_meet
       case rel => exact ⟨_, (decide (a0 ≤ 57)), (by first|rfl|(simp;done)|(simp [*];done)), H', ⟨by first|omega|exact Nat.le_refl _⟩, by repeat (first|exact Drawn0.refl _|apply Drawn0.step)⟩
      ·rw [if_neg c7] at H
       have c7b0 : decide (48 ≤ a0) = false := decide_eq_false c7
       clear c7
       have H' := aK H
       clear H
       go_wp2
       go_meet
       case rel => exact ⟨_, (false), (by first|rfl|(simp;done)|(simp [*];done)), H', ⟨by first|omega|exact Nat.le_refl _⟩, by repeat (first|exact Drawn0.refl _|apply Drawn0.step)⟩
    ·rw [if_neg c5] at H
     have c5b0 : decide (65 ≤ a0) = false := decide_eq_false c5
     clear c5
     by_cases c8 : a0 ≥ 48
     ·rw [if_pos c8] at H
      have c8b0 : decide (48 ≤ a0) = true := decide_eq_true c8
      clear c8
      have H' := aK H
      clear H
      go_wp2
      go_meet
      case rel => exact ⟨_, (decide (a0 ≤ 57)), (by first|rfl|(simp;done)|(simp [*];done)), H', ⟨by first|omega|exact Nat.le_refl _⟩, by repeat (first|exact Drawn0.refl _|apply Drawn0.step)⟩
     ·rw [if_neg c8] at H
      have c8b0 : decide (48 ≤ a0) = false := decide_eq_false c8
      clear c8
      have H' := aK H
      clear H
      go_wp2
      go_meet
      case rel => exact ⟨_, (false), (by first|rfl|(simp;done)|(simp [*];done)), H', ⟨by first|omega|exact Nat.le_refl _⟩, by repeat (first|exact Drawn0.refl _|apply Drawn0.step)⟩
  ·rw [if_neg c3] at H
   have c3b0 : decide (97 ≤ a0) = false := decide_eq_false c3
   clear c3
   (first|rw [c3b0]|(simp only [i64_w, i32_w];rw [c3b0])|skip)
   by_cases c9 : a0 ≥ 65
   ·rw [if_pos c9] at H
    have c9b0 : decide (65 ≤ a0) = true := decide_eq_true c9
    clear c9
    by_cases c10 : a0 ≤ 90
    ·rw [if_pos c10] at H
     have c10b0 : decide (a0 ≤ 90) = true := decide_eq_true c10
     clear c10
     have H' := aK H
     clear H
     go_wp2
     go_meet
     case rel => exact ⟨_, (true), (by first|rfl|(simp;done)|(simp [*];done)), H', ⟨by first|omega|exact Nat.le_refl _⟩, by repeat (first|exact Drawn0.refl _|apply Drawn0.step)⟩
    ·rw [if_neg c10] at H
     have c10b0 : decide (a0 ≤ 90) = false := decide_eq_false c10
     clear c10
     by_cases c11 : a0 ≥ 48
     ·rw [if_pos c11] at H
      have c11b0 : decide (48 ≤ a0) = true := decide_eq_true c11
      clear c11
      have H' := aK H
      clear H
      go_wp2
      go_meet
      case rel => exact ⟨_, (decide (a0 ≤ 57)), (by first|rfl|(simp;done)|(simp [*];done)), H', ⟨by first|omega|exact Nat.le_refl _⟩, by repeat (first|exact Drawn0.refl _|apply Drawn0.step)⟩
     ·rw [if_neg c11] at H
      have c11b0 : decide (48 ≤ a0) = false := decide_eq_false c11
      clear c11
      have H' := aK H
      clear H
      go_wp2
      go_meet
      case rel => exact ⟨_, (false), (by first|rfl|(simp;done)|(simp [*];done)), H', ⟨by first|omega|exact Nat.le_refl _⟩, by repeat (first|exact Drawn0.refl _|apply Drawn0.step)⟩
   ·rw [if_neg c9] at H
    have c9b0 : decide (65 ≤ a0) = false := decide_eq_false c9
    clear c9
    by_cases c12 : a0 ≥ 48
    ·rw [if_pos c12] at H
     have c12b0 : decide (48 ≤ a0) = true := decide_eq_true c12
     clear c12
     have H' := aK H
     clear H
     go_wp2
     go_meet
     case rel => exact ⟨_, (decide (a0 ≤ 57)), (by first|rfl|(simp;done)|(simp [*];done)), H', ⟨by first|omega|exact Nat.le_refl _⟩, by repeat (first|exact Drawn0.refl _|apply Drawn0.step)⟩
    ·rw [if_neg c12] at H
     have c12b0 : decide (48 ≤ a0) = false := decide_eq_false c12
     clear c12
     have H' := aK H
     clear H
     go_wp2
     go_meet
     case rel => exact ⟨_, (false), (by first|rfl|(simp;done)|(simp [*];done)), H', ⟨by first|omega|exact Nat.le_refl _⟩, by repeat (first|exact Drawn0.refl _|apply Drawn0.step)⟩
 case rest =>
  clear HC2
  try clear c1
  try clear p2
  try clear c3
  try clear c3b0
  try clear c4
  try clear c4b0
  try clear c5
  try clear c5b0
  try clear c6
  try clear c6b0
  try clear c7
  try clear c7b0
  try clear c8
  try clear c8b0
  try clear c9
  try clear c9b0
  try clear c10
  try clear c10b0
  try clear c11
  try clear c11b0
  try clear c12
  try clear c12b0
  obtain ⟨kq, x25_1, rfl, HA, HJ1, ⟨mc1, rfl⟩⟩ := hcut
  cases kq with
  | zero => exact absurd HA.out (by simp [wicketmanref08_sign.j0])
  | succ kj1 =>
   have H := HA.out
   clear HA
   simp only [wicketmanref08_sign.j0] at H
   by_cases c13 : x25_1 = true
   ·subst c13
    rw [if_pos rfl] at H
    obtain rfl := Option.some.inj H
    go_wp2
    go_ret
    exact ⟨by first|rfl|(simp;done)|(simp [*];done), by repeat (first|exact Drawn0.refl _|apply Drawn0.step)⟩
   ·replace c13 := Bool.eq_false_iff.mpr c13
    subst c13
    rw [if_neg (show ¬ (false = true) by decide)] at H
    have H' := aK H
    clear H
    go_wp2
    go_loopg [3] kj1 (fun kq v3 w' => ∃ (x3_2 : Int), v3 = .int .i64 x3_2 ∧ Aside0 (wicketmanref08_sign.l0 kq a0 x3_2 = some r) ∧ Aside0 (kq ≤ kj1) ∧ Drawn0 w w')
    case atStart => exact ⟨(0), (by first|rfl|(simp;done)|(simp [*];done)), H', ⟨Nat.le_refl _⟩, by repeat (first|exact Drawn0.refl _|apply Drawn0.step)⟩
    case round =>
     clear H'
     try clear c1
     try clear p2
     try clear c3
     try clear c3b0
     try clear c4
     try clear c4b0
     try clear c5
     try clear c5b0
     try clear c6
     try clear c6b0
     try clear c7
     try clear c7b0
     try clear c8
     try clear c8b0
     try clear c9
     try clear c9b0
     try clear c10
     try clear c10b0
     try clear c11
     try clear c11b0
     try clear c12
     try clear c12b0
     try clear c13
     try clear p2
     obtain ⟨x3_2, rfl, HA, HK2, ⟨m2, rfl⟩⟩ := hrel
     cases gk with
     | zero => exact absurd HA.out (by simp [wicketmanref08_sign.l0])
     | succ k2 =>
      have H := HA.out
      clear HA
      simp only [wicketmanref08_sign.l0] at H
      by_cases c14 : x3_2 < 15
      ·rw [if_pos c14] at H
       have c14b0 : decide (x3_2 < 15) = true := decide_eq_true c14
       clear c14
       by_cases c15 : 0 ≤ x3_2
       ·rw [if_pos c15] at H
        have c15b0 : decide (0 ≤ x3_2) = true := decide_eq_true c15
        clear c15
        by_cases c17 : (bt (⟨#[33, 35, 36, 37, 38, 39, 42, 43, 45, 46, 94, 95, 96, 124, 126]⟩ : BA) x3_2) = a0
        ·rw [if_pos c17] at H
         have c17b0 : ((bt (⟨#[33, 35, 36, 37, 38, 39, 42, 43, 45, 46, 94, 95, 96, 124, 126]⟩ : BA) x3_2) == a0) = true := beq_iff_eq.mpr c17
         have c17b1 : ((bt (⟨#[33, 35, 36, 37, 38, 39, 42, 43, 45, 46, 94, 95, 96, 124, 126]⟩ : BA) x3_2) != a0) = false := bne_eq_false_iff_eq.mpr c17
         clear c17
         obtain rfl := Option.some.inj H
         have p16 : 0 ≤ (x3_2 : Int) := of_decide_eq_true (by first|(with_reducible assumption)|assumption)
         have q16 : x3_2 < (15 : Int) := of_decide_eq_true (by first|(with_reducible assumption)|assumption)
         have hx16 := bt_at (⟨#[33, 35, 36, 37, 38, 39, 42, 43, 45, 46, 94, 95, 96, 124, 126]⟩ : BA) x3_2
         replace p16 := eq_true p16
         replace q16 := eq_true q16
         go_wp2
         go_ret
         exact ⟨by first|rfl|(simp;done)|(simp [*];done), by repeat (first|exact Drawn0.refl _|apply Drawn0.step)⟩
        ·rw [if_neg c17] at H
         have c17b0 : ((bt (⟨#[33, 35, 36, 37, 38, 39, 42, 43, 45, 46, 94, 95, 96, 124, 126]⟩ : BA) x3_2) == a0) = false := beq_eq_false_iff_ne.mpr c17
         have c17b1 : ((bt (⟨#[33, 35, 36, 37, 38, 39, 42, 43, 45, 46, 94, 95, 96, 124, 126]⟩ : BA) x3_2) != a0) = true := bne_iff_ne.mpr c17
         have H' := aK H
         clear H
         have p16 : 0 ≤ (x3_2 : Int) := of_decide_eq_true (by first|(with_reducible assumption)|assumption)
         have q16 : x3_2 < (15 : Int) := of_decide_eq_true (by first|(with_reducible assumption)|assumption)
         have hx16 := bt_at (⟨#[33, 35, 36, 37, 38, 39, 42, 43, 45, 46, 94, 95, 96, 124, 126]⟩ : BA) x3_2
         replace p16 := eq_true p16
         replace q16 := eq_true q16
         go_wp2
         go_roundg k2
         case measure => have := HJ1.out;have := HK2.out;omega
         case rel => exact ⟨(wrap64 (x3_2 + 1)), (by first|rfl|(simp;done)|(simp [*];done)), H', ⟨by have := HJ1.out;have := HK2.out;omega⟩, by repeat (first|exact Drawn0.refl _|apply Drawn0.step)⟩
       ·rw [if_neg c15] at H
        exact absurd H (by simp)
      ·rw [if_neg c14] at H
       have c14b0 : decide (x3_2 < 15) = false := decide_eq_false c14
       clear c14
       obtain rfl := Option.some.inj H
       go_wp2
       go_ret
       exact ⟨by first|rfl|(simp;done)|(simp [*];done), by repeat (first|exact Drawn0.refl _|apply Drawn0.step)⟩
def wicketmanref08_Token.l0 : Nat → ByteArray → Int → Option (Bool)
 | 0, _, _ => none
 | k + 1, x0, x3 => if x3 < (x0.size : Int) then (if 0 ≤ x3 then ((wicketmanref08_sign.f k (bt x0 x3)).bind fun t195 => (if t195 = true then (wicketmanref08_Token.l0 k x0 (wrap64 (x3 + 1))) else (some false))) else (none)) else (some (decide ((x0.size : Int) > 0)))
def wicketmanref08_Token.f (k : Nat) (a0 : ByteArray) : Option (Bool) := wicketmanref08_Token.l0 k a0 0
theorem wicketmanref08_Token.mono_l : ∀ k, (∀ y0 y1, LeO (wicketmanref08_Token.l0 k y0 y1) (wicketmanref08_Token.l0 (k + 1) y0 y1))
 | 0 => fun _ _ r h => by simp [wicketmanref08_Token.l0] at h
 | k + 1 => by
  have ih0 := wicketmanref08_Token.mono_l k
  ·intro y0 y1
   unfold wicketmanref08_Token.l0
   repeat' first|(with_reducible first|exact ih0 _ _|exact wicketmanref08_sign.mono _ _|exact LeO.refl _|exact LeO.none _|refine LeO.ite ?_ ?_|refine LeO.bind ?_ (fun _ => ?_))|exact LeO.none _|refine LeO.ite ?_ ?_|refine LeO.bind ?_ (fun _ => ?_)
theorem wicketmanref08_Token.mono : ∀ a0 k, LeO (wicketmanref08_Token.f k a0) (wicketmanref08_Token.f (k + 1) a0) := by
 intro a0 k
 have ih0 := wicketmanref08_Token.mono_l k
 unfold wicketmanref08_Token.f
 repeat' first|(with_reducible first|exact ih0 _ _|exact wicketmanref08_sign.mono _ _|exact LeO.refl _|exact LeO.none _|refine LeO.ite ?_ ?_|refine LeO.bind ?_ (fun _ => ?_))|exact LeO.none _|refine LeO.ite ?_ ?_|refine LeO.bind ?_ (fun _ => ?_)
set_option maxHeartbeats 8000000 in
set_option maxRecDepth 100000 in
theorem wicketmanref08_Token.calls (k : Nat) (a0 : ByteArray) (r : Bool) (w : World) (h : wicketmanref08_Token.f k a0 = some r) :
  Calls Tryz.prog 110 #[.string a0] w fun e w' => e = .returned (.bool r) ∧ Drawn0 w w' := by
 have H : (wicketmanref08_Token.l0 k a0 0) = some r := h
 clear h
 have H' := aK H
 clear H
 go_enter Tryz.func110, Tryz.ntmps110
 go_wp2
 go_loopg [3] k (fun kq v3 w' => ∃ (x3_1 : Int), v3 = .int .i64 x3_1 ∧ Aside0 (wicketmanref08_Token.l0 kq a0 x3_1 = some r) ∧ Aside0 (kq ≤ k) ∧ Drawn0 w w')
 case atStart => exact ⟨(0), (by first|rfl|(simp;done)|(simp [*];done)), H', ⟨Nat.le_refl _⟩, by repeat (first|exact Drawn0.refl _|apply Drawn0.step)⟩
 case round =>
  clear H'
  try clear c1
  obtain ⟨x3_1, rfl, HA, HK1, ⟨m1, rfl⟩⟩ := hrel
  cases gk with
  | zero => exact absurd HA.out (by simp [wicketmanref08_Token.l0])
  | succ k1 =>
   have H := HA.out
   clear HA
   simp only [wicketmanref08_Token.l0] at H
   by_cases c2 : x3_1 < (a0.size : Int)
   ·rw [if_pos c2] at H
    have c2b0 : decide (x3_1 < (a0.size : Int)) = true := decide_eq_true c2
    clear c2
    by_cases c3 : 0 ≤ x3_1
    ·rw [if_pos c3] at H
     have c3b0 : decide (0 ≤ x3_1) = true := decide_eq_true c3
     clear c3
     replace H := Option.bind_eq_some_iff.mp H
     obtain ⟨t195, A50, H⟩ := H
     try dsimp only at H
     have A5 := aK A50
     clear A50
     by_cases c6 : t195 = true
     ·subst c6
      rw [if_pos rfl] at H
      have H' := aK H
      clear H
      have p4 : 0 ≤ (x3_1 : Int) := of_decide_eq_true (by first|(with_reducible assumption)|assumption)
      have q4 : x3_1 < (a0.size : Int) := of_decide_eq_true (by first|(with_reducible assumption)|assumption)
      have hx4 := bt_at a0 x3_1
      replace p4 := eq_true p4
      replace q4 := eq_true q4
      go_wp2_with (first|((with_reducible refine gate_callee (f := 165) rfl ?_);refine goesL_ (some 13) rfl rfl Tryz.func165 (by kernel_rfl) rfl #[.int .u8 (bt a0 x3_1)] rfl (by (try simp only [List.map_toArray, List.map_cons, List.map_nil]);first|done|rfl|(simp only [List.length_drop, List.length_take];rfl)) ?_;(with_reducible refine (wicketmanref08_sign.calls k1 (bt a0 x3_1) true _ A5.out).mono ?_);rintro e w' ⟨rfl, ⟨nd, rfl⟩⟩;refine ⟨_, rfl, ?_⟩))
      go_roundg k1
      case measure => have := HK1.out;omega
      case rel => exact ⟨(wrap64 (x3_1 + 1)), (by first|rfl|(simp;done)|(simp [*];done)), H', ⟨by have := HK1.out;omega⟩, by repeat (first|exact Drawn0.refl _|apply Drawn0.step)⟩
     ·replace c6 := Bool.eq_false_iff.mpr c6
      subst c6
      rw [if_neg (show ¬ (false = true) by decide)] at H
      obtain rfl := Option.some.inj H
      have p4 : 0 ≤ (x3_1 : Int) := of_decide_eq_true (by first|(with_reducible assumption)|assumption)
      have q4 : x3_1 < (a0.size : Int) := of_decide_eq_true (by first|(with_reducible assumption)|assumption)
      have hx4 := bt_at a0 x3_1
      replace p4 := eq_true p4
      replace q4 := eq_true q4
      go_wp2_with (first|((with_reducible refine gate_callee (f := 165) rfl ?_);refine goesL_ (some 13) rfl rfl Tryz.func165 (by kernel_rfl) rfl #[.int .u8 (bt a0 x3_1)] rfl (by (try simp only [List.map_toArray, List.map_cons, List.map_nil]);first|done|rfl|(simp only [List.length_drop, List.length_take];rfl)) ?_;(with_reducible refine (wicketmanref08_sign.calls k1 (bt a0 x3_1) false _ A5.out).mono ?_);rintro e w' ⟨rfl, ⟨nd, rfl⟩⟩;refine ⟨_, rfl, ?_⟩))
      go_ret
      exact ⟨by first|rfl|(simp;done)|(simp [*];done), by repeat (first|exact Drawn0.refl _|apply Drawn0.step)⟩
    ·rw [if_neg c3] at H
     exact absurd H (by simp)
   ·rw [if_neg c2] at H
    have c2b0 : decide (x3_1 < (a0.size : Int)) = false := decide_eq_false c2
    clear c2
    obtain rfl := Option.some.inj H
    go_wp2
    go_ret
    exact ⟨by first|rfl|(simp;done)|(simp [*];done), by repeat (first|exact Drawn0.refl _|apply Drawn0.step)⟩
def wicketmanref08_Value.l0 : Nat → ByteArray → Int → Option (Bool)
 | 0, _, _ => none
 | k + 1, x0, x3 => if x3 < (x0.size : Int) then (if 0 ≤ x3 then ((wicketmanref08_blank.f (bt x0 x3)).bind fun t196 => (if t196 = true then (wicketmanref08_Value.l0 k x0 (wrap64 (x3 + 1))) else (if (bt x0 x3) < 33 then (some false) else (if (bt x0 x3) = 127 then (some false) else (wicketmanref08_Value.l0 k x0 (wrap64 (x3 + 1))))))) else (none)) else (if (x0.size : Int) = 0 then (some true) else (if 0 < (x0.size : Int) then ((wicketmanref08_blank.f (bt x0 0)).bind fun t197 => (if t197 = true then (some false) else (if 0 ≤ (wrap64 ((x0.size : Int) - 1)) then (if (wrap64 ((x0.size : Int) - 1)) < (x0.size : Int) then ((wicketmanref08_blank.f (bt x0 (wrap64 ((x0.size : Int) - 1)))).bind fun t198 => (some (!t198))) else (none)) else (none)))) else (none)))
def wicketmanref08_Value.f (k : Nat) (a0 : ByteArray) : Option (Bool) := wicketmanref08_Value.l0 k a0 0
theorem wicketmanref08_Value.mono_l : ∀ k, (∀ y0 y1, LeO (wicketmanref08_Value.l0 k y0 y1) (wicketmanref08_Value.l0 (k + 1) y0 y1))
 | 0 => fun _ _ r h => by simp [wicketmanref08_Value.l0] at h
 | k + 1 => by
  have ih0 := wicketmanref08_Value.mono_l k
  ·intro y0 y1
   unfold wicketmanref08_Value.l0
   repeat' first|(with_reducible first|exact ih0 _ _|exact LeO.refl _|exact LeO.none _|refine LeO.ite ?_ ?_|refine LeO.bind ?_ (fun _ => ?_))|exact LeO.none _|refine LeO.ite ?_ ?_|refine LeO.bind ?_ (fun _ => ?_)
theorem wicketmanref08_Value.mono : ∀ a0 k, LeO (wicketmanref08_Value.f k a0) (wicketmanref08_Value.f (k + 1) a0) := by
 intro a0 k
 have ih0 := wicketmanref08_Value.mono_l k
 unfold wicketmanref08_Value.f
 repeat' first|(with_reducible first|exact ih0 _ _|exact LeO.refl _|exact LeO.none _|refine LeO.ite ?_ ?_|refine LeO.bind ?_ (fun _ => ?_))|exact LeO.none _|refine LeO.ite ?_ ?_|refine LeO.bind ?_ (fun _ => ?_)
set_option maxHeartbeats 8000000 in
set_option maxRecDepth 100000 in
theorem wicketmanref08_Value.calls (k : Nat) (a0 : ByteArray) (r : Bool) (w : World) (h : wicketmanref08_Value.f k a0 = some r) :
  Calls Tryz.prog 111 #[.string a0] w fun e w' => e = .returned (.bool r) ∧ Drawn0 w w' := by
 have H : (wicketmanref08_Value.l0 k a0 0) = some r := h
 clear h
 have H' := aK H
 clear H
 go_enter Tryz.func111, Tryz.ntmps111
 go_wp2
 go_loopg [3] k (fun kq v3 w' => ∃ (x3_1 : Int), v3 = .int .i64 x3_1 ∧ Aside0 (wicketmanref08_Value.l0 kq a0 x3_1 = some r) ∧ Aside0 (kq ≤ k) ∧ Drawn0 w w')
 case atStart => exact ⟨(0), (by first|rfl|(simp;done)|(simp [*];done)), H', ⟨Nat.le_refl _⟩, by repeat (first|exact Drawn0.refl _|apply Drawn0.step)⟩
 case round =>
  clear H'
  try clear c1
  obtain ⟨x3_1, rfl, HA, HK1, ⟨m1, rfl⟩⟩ := hrel
  cases gk with
  | zero => exact absurd HA.out (by simp [wicketmanref08_Value.l0])
  | succ k1 =>
   have H := HA.out
   clear HA
   simp only [wicketmanref08_Value.l0] at H
   by_cases c2 : x3_1 < (a0.size : Int)
   ·rw [if_pos c2] at H
    have c2b0 : decide (x3_1 < (a0.size : Int)) = true := decide_eq_true c2
    clear c2
    by_cases c3 : 0 ≤ x3_1
    ·rw [if_pos c3] at H
     have c3b0 : decide (0 ≤ x3_1) = true := decide_eq_true c3
     clear c3
     replace H := Option.bind_eq_some_iff.mp H
     obtain ⟨t196, A50, H⟩ := H
     try dsimp only at H
     have A5 := aK A50
     clear A50
     by_cases c6 : t196 = true
     ·subst c6
      rw [if_pos rfl] at H
      have H' := aK H
      clear H
      have p4 : 0 ≤ (x3_1 : Int) := of_decide_eq_true (by first|(with_reducible assumption)|assumption)
      have q4 : x3_1 < (a0.size : Int) := of_decide_eq_true (by first|(with_reducible assumption)|assumption)
      have hx4 := bt_at a0 x3_1
      replace p4 := eq_true p4
      replace q4 := eq_true q4
      go_wp2_with (first|((with_reducible refine gate_callee (f := 164) rfl ?_);refine goesL_ (some 13) rfl rfl Tryz.func164 (by kernel_rfl) rfl #[.int .u8 (bt a0 x3_1)] rfl (by (try simp only [List.map_toArray, List.map_cons, List.map_nil]);first|done|rfl|(simp only [List.length_drop, List.length_take];rfl)) ?_;(with_reducible refine (wicketmanref08_blank.calls (bt a0 x3_1) true _ A5.out).mono ?_);rintro e w' ⟨rfl, ⟨nd, rfl⟩⟩;refine ⟨_, rfl, ?_⟩))
      go_roundg k1
      case measure => have := HK1.out;omega
      case rel => exact ⟨(wrap64 (x3_1 + 1)), (by first|rfl|(simp;done)|(simp [*];done)), H', ⟨by have := HK1.out;omega⟩, by repeat (first|exact Drawn0.refl _|apply Drawn0.step)⟩
     ·replace c6 := Bool.eq_false_iff.mpr c6
      subst c6
      rw [if_neg (show ¬ (false = true) by decide)] at H
      by_cases c8 : (bt a0 x3_1) < 33
      ·rw [if_pos c8] at H
       have c8b0 : decide ((bt a0 x3_1) < 33) = true := decide_eq_true c8
       clear c8
       obtain rfl := Option.some.inj H
       have p4 : 0 ≤ (x3_1 : Int) := of_decide_eq_true (by first|(with_reducible assumption)|assumption)
       have q4 : x3_1 < (a0.size : Int) := of_decide_eq_true (by first|(with_reducible assumption)|assumption)
       have hx4 := bt_at a0 x3_1
       replace p4 := eq_true p4
       replace q4 := eq_true q4
       go_wp2_with (first|((with_reducible refine gate_callee (f := 164) rfl ?_);refine goesL_ (some 13) rfl rfl Tryz.func164 (by kernel_rfl) rfl #[.int .u8 (bt a0 x3_1)] rfl (by (try simp only [List.map_toArray, List.map_cons, List.map_nil]);first|done|rfl|(simp only [List.length_drop, List.length_take];rfl)) ?_;(with_reducible refine (wicketmanref08_blank.calls (bt a0 x3_1) false _ A5.out).mono ?_);rintro e w' ⟨rfl, ⟨nd, rfl⟩⟩;refine ⟨_, rfl, ?_⟩;have p7 : 0 ≤ (x3_1 : Int) := of_decide_eq_true (by first|(with_reducible assumption)|assumption);have q7 : x3_1 < (a0.size : Int) := of_decide_eq_true (by first|(with_reducible assumption)|assumption);have hx7 := bt_at a0 x3_1;replace p7 := eq_true p7;replace q7 := eq_true q7))
       go_ret
       exact ⟨by first|rfl|(simp;done)|(simp [*];done), by repeat (first|exact Drawn0.refl _|apply Drawn0.step)⟩
      ·rw [if_neg c8] at H
       have c8b0 : decide ((bt a0 x3_1) < 33) = false := decide_eq_false c8
       clear c8
       by_cases c10 : (bt a0 x3_1) = 127
       ·rw [if_pos c10] at H
        have c10b0 : ((bt a0 x3_1) == 127) = true := beq_iff_eq.mpr c10
        have c10b1 : ((bt a0 x3_1) != 127) = false := bne_eq_false_iff_eq.mpr c10
        clear c10
        obtain rfl := Option.some.inj H
        have p4 : 0 ≤ (x3_1 : Int) := of_decide_eq_true (by first|(with_reducible assumption)|assumption)
        have q4 : x3_1 < (a0.size : Int) := of_decide_eq_true (by first|(with_reducible assumption)|assumption)
        have hx4 := bt_at a0 x3_1
        replace p4 := eq_true p4
        replace q4 := eq_true q4
        go_wp2_with (first|((with_reducible refine gate_callee (f := 164) rfl ?_);refine goesL_ (some 13) rfl rfl Tryz.func164 (by kernel_rfl) rfl #[.int .u8 (bt a0 x3_1)] rfl (by (try simp only [List.map_toArray, List.map_cons, List.map_nil]);first|done|rfl|(simp only [List.length_drop, List.length_take];rfl)) ?_;(with_reducible refine (wicketmanref08_blank.calls (bt a0 x3_1) false _ A5.out).mono ?_);rintro e w' ⟨rfl, ⟨nd, rfl⟩⟩;refine ⟨_, rfl, ?_⟩;have p7 : 0 ≤ (x3_1 : Int) := of_decide_eq_true (by first|(with_reducible assumption)|assumption);have q7 : x3_1 < (a0.size : Int) := of_decide_eq_true (by first|(with_reducible assumption)|assumption);have hx7 := bt_at a0 x3_1;replace p7 := eq_true p7;replace q7 := eq_true q7;have p9 : 0 ≤ (x3_1 : Int) := of_decide_eq_true (by first|(with_reducible assumption)|assumption);have q9 : x3_1 < (a0.size : Int) := of_decide_eq_true (by first|(with_reducible assumption)|assumption);have hx9 := bt_at a0 x3_1;replace p9 := eq_true p9;replace q9 := eq_true q9))
        go_ret
        exact ⟨by first|rfl|(simp;done)|(simp [*];done), by repeat (first|exact Drawn0.refl _|apply Drawn0.step)⟩
       ·rw [if_neg c10] at H
        have c10b0 : ((bt a0 x3_1) == 127) = false := beq_eq_false_iff_ne.mpr c10
        have c10b1 : ((bt a0 x3_1) != 127) = true := bne_iff_ne.mpr c10
        have H' := aK H
        clear H
        have p4 : 0 ≤ (x3_1 : Int) := of_decide_eq_true (by first|(with_reducible assumption)|assumption)
        have q4 : x3_1 < (a0.size : Int) := of_decide_eq_true (by first|(with_reducible assumption)|assumption)
        have hx4 := bt_at a0 x3_1
        replace p4 := eq_true p4
        replace q4 := eq_true q4
        go_wp2_with (first|((with_reducible refine gate_callee (f := 164) rfl ?_);refine goesL_ (some 13) rfl rfl Tryz.func164 (by kernel_rfl) rfl #[.int .u8 (bt a0 x3_1)] rfl (by (try simp only [List.map_toArray, List.map_cons, List.map_nil]);first|done|rfl|(simp only [List.length_drop, List.length_take];rfl)) ?_;(with_reducible refine (wicketmanref08_blank.calls (bt a0 x3_1) false _ A5.out).mono ?_);rintro e w' ⟨rfl, ⟨nd, rfl⟩⟩;refine ⟨_, rfl, ?_⟩;have p7 : 0 ≤ (x3_1 : Int) := of_decide_eq_true (by first|(with_reducible assumption)|assumption);have q7 : x3_1 < (a0.size : Int) := of_decide_eq_true (by first|(with_reducible assumption)|assumption);have hx7 := bt_at a0 x3_1;replace p7 := eq_true p7;replace q7 := eq_true q7;have p9 : 0 ≤ (x3_1 : Int) := of_decide_eq_true (by first|(with_reducible assumption)|assumption);have q9 : x3_1 < (a0.size : Int) := of_decide_eq_true (by first|(with_reducible assumption)|assumption);have hx9 := bt_at a0 x3_1;replace p9 := eq_true p9;replace q9 := eq_true q9))
        go_roundg k1
        case measure => have := HK1.out;omega
        case rel => exact ⟨(wrap64 (x3_1 + 1)), (by first|rfl|(simp;done)|(simp [*];done)), H', ⟨by have := HK1.out;omega⟩, by repeat (first|exact Drawn0.refl _|apply Drawn0.step)⟩
    ·rw [if_neg c3] at H
     exact absurd H (by simp)
   ·rw [if_neg c2] at H
    have c2b0 : decide (x3_1 < (a0.size : Int)) = false := decide_eq_false c2
    clear c2
    by_cases c11 : (a0.size : Int) = 0
    ·rw [if_pos c11] at H
     have c11b0 : ((a0.size : Int) == 0) = true := beq_iff_eq.mpr c11
     have c11b1 : ((a0.size : Int) != 0) = false := bne_eq_false_iff_eq.mpr c11
     clear c11
     obtain rfl := Option.some.inj H
     go_wp2
     go_ret
     exact ⟨by first|rfl|(simp;done)|(simp [*];done), by repeat (first|exact Drawn0.refl _|apply Drawn0.step)⟩
    ·rw [if_neg c11] at H
     have c11b0 : ((a0.size : Int) == 0) = false := beq_eq_false_iff_ne.mpr c11
     have c11b1 : ((a0.size : Int) != 0) = true := bne_iff_ne.mpr c11
     by_cases c12 : 0 < (a0.size : Int)
     ·rw [if_pos c12] at H
      have c12b0 : decide (0 < (a0.size : Int)) = true := decide_eq_true c12
      have c12b1 : decide (0 < a0.size) = true := decide_eq_true (by omega)
      clear c12
      replace H := Option.bind_eq_some_iff.mp H
      obtain ⟨t197, A140, H⟩ := H
      try dsimp only at H
      have A14 := aK A140
      clear A140
      by_cases c15 : t197 = true
      ·subst c15
       rw [if_pos rfl] at H
       obtain rfl := Option.some.inj H
       have p13 : 0 ≤ (0 : Int) := (by omega)
       have q13 : 0 < a0.size := (by have : (0 : Int) < (a0.size : Int) := of_decide_eq_true (by first|(with_reducible assumption)|assumption);omega)
       have hx13 : ∀ h : 0 < a0.size, ((a0[0]'h).toNat : Int) = bt a0 0 := bt_at a0 0
       clear p13
       have qi13 : (0 < (a0.size : Int)) = True := eq_true (of_decide_eq_true (by first|(with_reducible assumption)|assumption))
       replace q13 := eq_true q13
       go_wp2_with (first|(go_at_call 164;(with_reducible refine (wicketmanref08_blank.calls (bt a0 0) true _ A14.out).mono ?_);rintro e w' ⟨rfl, ⟨nd, rfl⟩⟩))
       go_ret
       exact ⟨by first|rfl|(simp;done)|(simp [*];done), by repeat (first|exact Drawn0.refl _|apply Drawn0.step)⟩
      ·replace c15 := Bool.eq_false_iff.mpr c15
       subst c15
       rw [if_neg (show ¬ (false = true) by decide)] at H
       obtain ⟨ji16, hji16⟩ : ∃ j_ : Int, (wrap64 ((a0.size : Int) - 1)) = j_ := ⟨_, rfl⟩
       replace H : (if 0 ≤ (ji16) then (if (ji16) < (a0.size : Int) then ((wicketmanref08_blank.f (bt a0 (ji16))).bind fun t198 => (some (!t198))) else (none)) else (none)) = some r := by first|(rw [hji16] at H;exact H)|(simp only [hji16] at H ⊢;exact H)
       (try rw [hji16] at A14)
       have hji16w : (IntKind.i64.wrap ((a0.size : Int) - 1)) = ji16 := (i64_w _).trans hji16
       by_cases c17 : 0 ≤ (ji16)
       ·rw [if_pos c17] at H
        have c17b0 : decide (0 ≤ (ji16)) = true := decide_eq_true c17
        clear c17
        by_cases c18 : (ji16) < (a0.size : Int)
        ·rw [if_pos c18] at H
         have c18b0 : decide ((ji16) < (a0.size : Int)) = true := decide_eq_true c18
         clear c18
         replace H := Option.bind_eq_some_iff.mp H
         obtain ⟨t198, A200, H⟩ := H
         try dsimp only at H
         have A20 := aK A200
         clear A200
         obtain rfl := Option.some.inj H
         have p13 : 0 ≤ (0 : Int) := (by omega)
         have q13 : 0 < a0.size := (by have : (0 : Int) < (a0.size : Int) := of_decide_eq_true (by first|(with_reducible assumption)|assumption);omega)
         have hx13 : ∀ h : 0 < a0.size, ((a0[0]'h).toNat : Int) = bt a0 0 := bt_at a0 0
         clear p13
         have qi13 : (0 < (a0.size : Int)) = True := eq_true (of_decide_eq_true (by first|(with_reducible assumption)|assumption))
         replace q13 := eq_true q13
         go_wp2_with (first|(go_at_call 164;(with_reducible refine (wicketmanref08_blank.calls (bt a0 0) false _ A14.out).mono ?_);rintro e w' ⟨rfl, ⟨nd, rfl⟩⟩;have p19 : 0 ≤ ((ji16) : Int) := of_decide_eq_true (by first|(with_reducible assumption)|assumption);have q19 : (ji16) < (a0.size : Int) := of_decide_eq_true (by first|(with_reducible assumption)|assumption);have hx19 := bt_at a0 (ji16);replace p19 := eq_true p19;replace q19 := eq_true q19)|(go_at_call 164;(with_reducible refine (wicketmanref08_blank.calls (bt a0 (ji16)) t198 _ A20.out).mono ?_);rintro e w' ⟨rfl, ⟨nd, rfl⟩⟩))
         go_ret
         exact ⟨by first|rfl|(simp;done)|(simp only [← hji16] <;> (first|rfl|simp))|(simp [*];done), by repeat (first|exact Drawn0.refl _|apply Drawn0.step)⟩
        ·rw [if_neg c18] at H
         exact absurd H (by simp)
       ·rw [if_neg c17] at H
        exact absurd H (by simp)
     ·rw [if_neg c12] at H
      exact absurd H (by simp)
end Go.Proofs.YthdiiiopjkaifaaGreatDoor.Pall

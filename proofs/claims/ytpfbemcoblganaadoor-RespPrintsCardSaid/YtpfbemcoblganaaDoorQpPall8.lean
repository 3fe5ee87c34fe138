import Derived.Test.YtpfbemcoblganaaDoorQpPall0
import Derived.Test.YtpfbemcoblganaaDoorQpPall7
namespace Go.Proofs.YtpfbemcoblganaaDoor.Pall
open Go.RowKit Go.Proofs.YtpfbemcoblganaaDoorW.PrintWords Go.Proofs.YtpfbemcoblganaaDoorW.PrintLast
set_option linter.unusedVariables false
set_option linter.unusedSimpArgs false
def wicketmanref09_fields.l0 : Nat → List ByteArray → List (S43) → Int → Option ((List (S43)) × Int)
 | 0, _, _, _ => none
 | k + 1, x0, x4, x5 => if x5 < (x0.length : Int) then (if 0 ≤ x5 then ((wicketmanref08_Field.f k (rdOf ByteArray.empty x0 x5)).bind fun bt206 => (if bt206.2.2 = 0 then (if x4.length < 4398046511104 then (wicketmanref09_fields.l0 k x0 (x4 ++ [(⟨bt206.1, bt206.2.1⟩ : S43)]) (wrap64 (x5 + 1))) else (none)) else (some (([] : List (S43)), bt206.2.2)))) else (none)) else (some (x4, 0))
def wicketmanref09_fields.f (k : Nat) (l0 : List ByteArray) : Option ((List (S43)) × Int) := if (l0.length : Int) > 40 then (some (([] : List (S43)), 3)) else (wicketmanref09_fields.l0 k l0 ([] : List (S43)) 0)
theorem wicketmanref09_fields.mono_l : ∀ k, (∀ y0 y1 y2, LeO (wicketmanref09_fields.l0 k y0 y1 y2) (wicketmanref09_fields.l0 (k + 1) y0 y1 y2))
 | 0 => fun _ _ _ r h => by simp [wicketmanref09_fields.l0] at h
 | k + 1 => by
  have ih0 := wicketmanref09_fields.mono_l k
  ·intro y0 y1 y2
   unfold wicketmanref09_fields.l0
   repeat' first
   | (with_reducible exact ih0 _ _ _)
   | (with_reducible exact wicketmanref08_Field.mono _ _)
   | (with_reducible exact LeO.refl _)
   | (with_reducible exact LeO.none _)
   | (with_reducible refine LeO.ite ?_ ?_)
   | (with_reducible refine LeO.bind ?_ (fun _ => ?_))
   | exact ih0 _ _ _
   | exact wicketmanref08_Field.mono _ _
   | exact LeO.none _
   | refine LeO.ite ?_ ?_
   | refine LeO.bind ?_ (fun _ => ?_)
theorem wicketmanref09_fields.mono : ∀ a0 k, LeO (wicketmanref09_fields.f k a0) (wicketmanref09_fields.f (k + 1) a0) := by
 intro a0 k
 have ih0 := wicketmanref09_fields.mono_l k
 unfold wicketmanref09_fields.f
 repeat' first
   | (with_reducible exact ih0 _ _ _)
   | (with_reducible exact wicketmanref08_Field.mono _ _)
   | (with_reducible exact LeO.refl _)
   | (with_reducible exact LeO.none _)
   | (with_reducible refine LeO.ite ?_ ?_)
   | (with_reducible refine LeO.bind ?_ (fun _ => ?_))
   | exact ih0 _ _ _
   | exact wicketmanref08_Field.mono _ _
   | exact LeO.none _
   | refine LeO.ite ?_ ?_
   | refine LeO.bind ?_ (fun _ => ?_)
mutual
def wicketmanref01_Decimal.j0 : Nat → ByteArray → Int → Bool → Option (Int × Bool)
 | 0, _, _, _ => none
 | k + 1, x0, x1, x15 => if x15 = true then (some (0, false)) else (wicketmanref01_Decimal.l0 k x0 x1 0 0)
def wicketmanref01_Decimal.l0 : Nat → ByteArray → Int → Int → Int → Option (Int × Bool)
 | 0, _, _, _, _ => none
 | k + 1, x0, x1, x6, x7 => if x7 < (x0.size : Int) then (if 0 ≤ x7 then (if (bt x0 x7) < 48 then (some (0, false)) else (if (bt x0 x7) > 57 then (some (0, false)) else (wicketmanref01_Decimal.l0 k x0 x1 (wrap64 ((wrap64 (10 * x6)) + (((bt x0 x7) - 48) % 256))) (wrap64 (x7 + 1))))) else (none)) else (if x6 > x1 then (some (0, false)) else (some (x6, true)))
end
def wicketmanref01_Decimal.f (k : Nat) (a0 : ByteArray) (a1 : Int) : Option (Int × Bool) := if (a0.size : Int) < 1 then (wicketmanref01_Decimal.j0 k a0 a1 true) else (wicketmanref01_Decimal.j0 k a0 a1 (decide ((a0.size : Int) > 9)))
theorem wicketmanref01_Decimal.mono_l : ∀ k, (∀ y0 y1 y2, LeO (wicketmanref01_Decimal.j0 k y0 y1 y2) (wicketmanref01_Decimal.j0 (k + 1) y0 y1 y2)) ∧ (∀ y0 y1 y2 y3, LeO (wicketmanref01_Decimal.l0 k y0 y1 y2 y3) (wicketmanref01_Decimal.l0 (k + 1) y0 y1 y2 y3))
 | 0 => ⟨fun _ _ _ r h => by simp [wicketmanref01_Decimal.j0] at h, fun _ _ _ _ r h => by simp [wicketmanref01_Decimal.l0] at h⟩
 | k + 1 => by
  obtain ⟨ih0, ih1⟩ := wicketmanref01_Decimal.mono_l k
  refine ⟨?_, ?_⟩
  ·intro y0 y1 y2
   unfold wicketmanref01_Decimal.j0
   repeat' first
   | (with_reducible exact ih0 _ _ _)
   | (with_reducible exact ih1 _ _ _ _)
   | (with_reducible exact LeO.refl _)
   | (with_reducible exact LeO.none _)
   | (with_reducible refine LeO.ite ?_ ?_)
   | (with_reducible refine LeO.bind ?_ (fun _ => ?_))
   | exact ih0 _ _ _
   | exact ih1 _ _ _ _
   | exact LeO.none _
   | refine LeO.ite ?_ ?_
   | refine LeO.bind ?_ (fun _ => ?_)
  ·intro y0 y1 y2 y3
   unfold wicketmanref01_Decimal.l0
   repeat' first
   | (with_reducible exact ih0 _ _ _)
   | (with_reducible exact ih1 _ _ _ _)
   | (with_reducible exact LeO.refl _)
   | (with_reducible exact LeO.none _)
   | (with_reducible refine LeO.ite ?_ ?_)
   | (with_reducible refine LeO.bind ?_ (fun _ => ?_))
   | exact ih0 _ _ _
   | exact ih1 _ _ _ _
   | exact LeO.none _
   | refine LeO.ite ?_ ?_
   | refine LeO.bind ?_ (fun _ => ?_)
theorem wicketmanref01_Decimal.mono : ∀ a0 a1 k, LeO (wicketmanref01_Decimal.f k a0 a1) (wicketmanref01_Decimal.f (k + 1) a0 a1) := by
 intro a0 a1 k
 obtain ⟨ih0, ih1⟩ := wicketmanref01_Decimal.mono_l k
 unfold wicketmanref01_Decimal.f
 repeat' first
   | (with_reducible exact ih0 _ _ _)
   | (with_reducible exact ih1 _ _ _ _)
   | (with_reducible exact LeO.refl _)
   | (with_reducible exact LeO.none _)
   | (with_reducible refine LeO.ite ?_ ?_)
   | (with_reducible refine LeO.bind ?_ (fun _ => ?_))
   | exact ih0 _ _ _
   | exact ih1 _ _ _ _
   | exact LeO.none _
   | refine LeO.ite ?_ ?_
   | refine LeO.bind ?_ (fun _ => ?_)
set_option maxHeartbeats 8000000 in
set_option maxRecDepth 100000 in
theorem wicketmanref01_Decimal.calls (k : Nat) (a0 : ByteArray) (a1 : Int) (r1 : Int) (r2 : Bool) (w : World) (h : wicketmanref01_Decimal.f k a0 a1 = some (r1, r2)) :
  Calls Tryd.prog 84 #[.string a0, .int .i64 a1] w fun e w' => e = .returned (.tuple #[.int .i64 r1, .bool r2]) ∧ Drawn0 w w' := by
 have H : (if (a0.size : Int) < 1 then (wicketmanref01_Decimal.j0 k a0 a1 true) else (wicketmanref01_Decimal.j0 k a0 a1 (decide ((a0.size : Int) > 9)))) = some (r1, r2) := h
 clear h
 have HC3 := Aside0.mk H
 clear H
 go_enter Tryd.func84, Tryd.ntmps84
 go_upto_region 1 with (fail)
 go_cut [15] (fun v15 wc => ∃ (kq : Nat) (x15_2 : Bool), v15 = .bool x15_2 ∧ Aside0 (wicketmanref01_Decimal.j0 kq a0 a1 x15_2 = some (r1, r2)) ∧ Aside0 (kq ≤ k) ∧ Drawn0 w wc)
 case first =>
  have H := HC3.out
  clear HC3
  by_cases c4 : (a0.size : Int) < 1
  ·rw [if_pos c4] at H
   have c4b0 : decide ((a0.size : Int) < 1) = true := decide_eq_true c4
   have c4b1 : decide (a0.size < 1) = true := decide_eq_true (by omega)
   clear c4
   (first | rw [c4b0] | (simp only [i64_w, i32_w]; rw [c4b0]) | skip)
   have H' := Aside0.mk H
   clear H
   go_wp2
   go_meet
   case rel => exact ⟨_, (true), (by first | rfl | (simp; done) | (simp [*]; done)), H', ⟨by first | omega | exact Nat.le_refl _⟩, by repeat (first | exact Drawn0.refl _ | apply Drawn0.step)⟩
  ·rw [if_neg c4] at H
   have c4b0 : decide ((a0.size : Int) < 1) = false := decide_eq_false c4
   have c4b1 : decide (a0.size < 1) = false := decide_eq_false (by omega)
   clear c4
   (first | rw [c4b0] | (simp only [i64_w, i32_w]; rw [c4b0]) | skip)
   have H' := Aside0.mk H
   clear H
   go_wp2
   go_meet
   case rel => exact ⟨_, (decide ((a0.size : Int) > 9)), (by first | rfl | (simp; done) | (simp [*]; done)), H', ⟨by first | omega | exact Nat.le_refl _⟩, by repeat (first | exact Drawn0.refl _ | apply Drawn0.step)⟩
 case rest =>
  clear HC3
  try clear p2
  try clear c4
  try clear c4b0
  try clear c4b1
  obtain ⟨kq, x15_2, rfl, HA, HJ2, ⟨mc2, rfl⟩⟩ := hcut
  cases kq with
  | zero => exact absurd HA.out (by simp [wicketmanref01_Decimal.j0])
  | succ kj2 =>
   have H := HA.out
   clear HA
   simp only [wicketmanref01_Decimal.j0] at H
   by_cases c5 : x15_2 = true
   ·subst c5
    rw [if_pos rfl] at H
    simp only [Option.some.injEq, Prod.mk.injEq] at H
    obtain ⟨rfl, rfl⟩ := H
    go_wp2
    go_ret2
    exact ⟨by first | rfl | (simp; done) | (simp [*]; done), by repeat (first | exact Drawn0.refl _ | apply Drawn0.step)⟩
   ·replace c5 := Bool.eq_false_iff.mpr c5
    subst c5
    rw [if_neg (show ¬ (false = true) by decide)] at H
    have H' := Aside0.mk H
    clear H
    go_wp2
    go_loopg [6, 7] kj2 (fun kq v6 v7 w' => ∃ (x6_2 : Int) (x7_2 : Int), v6 = .int .i64 x6_2 ∧ v7 = .int .i64 x7_2 ∧ Aside0 (wicketmanref01_Decimal.l0 kq a0 a1 x6_2 x7_2 = some (r1, r2)) ∧ Aside0 (kq ≤ kj2) ∧ Drawn0 w w')
    case atStart => exact ⟨(0), (0), (by first | rfl | (simp; done) | (simp [*]; done)), (by first | rfl | (simp; done) | (simp [*]; done)), H', ⟨Nat.le_refl _⟩, by repeat (first | exact Drawn0.refl _ | apply Drawn0.step)⟩
    case round =>
     clear H'
     try clear c2
     try clear p2
     try clear c4
     try clear c4b0
     try clear c4b1
     try clear c5
     try clear p2
     obtain ⟨x6_2, x7_2, rfl, rfl, HA, HK2, ⟨m2, rfl⟩⟩ := hrel
     cases gk with
     | zero => exact absurd HA.out (by simp [wicketmanref01_Decimal.l0])
     | succ k2 =>
      have H := HA.out
      clear HA
      simp only [wicketmanref01_Decimal.l0] at H
      by_cases c6 : x7_2 < (a0.size : Int)
      ·rw [if_pos c6] at H
       have c6b0 : decide (x7_2 < (a0.size : Int)) = true := decide_eq_true c6
       clear c6
       by_cases c7 : 0 ≤ x7_2
       ·rw [if_pos c7] at H
        have c7b0 : decide (0 ≤ x7_2) = true := decide_eq_true c7
        clear c7
        by_cases c9 : (bt a0 x7_2) < 48
        ·rw [if_pos c9] at H
         have c9b0 : decide ((bt a0 x7_2) < 48) = true := decide_eq_true c9
         clear c9
         simp only [Option.some.injEq, Prod.mk.injEq] at H
         obtain ⟨rfl, rfl⟩ := H
         have p8 : 0 ≤ (x7_2 : Int) := of_decide_eq_true (by first | (with_reducible assumption) | assumption)
         have q8 : x7_2 < (a0.size : Int) := of_decide_eq_true (by first | (with_reducible assumption) | assumption)
         have hx8 := bt_at a0 x7_2
         replace p8 := eq_true p8
         replace q8 := eq_true q8
         go_wp2
         go_ret2
         exact ⟨by first | rfl | (simp; done) | (simp [*]; done), by repeat (first | exact Drawn0.refl _ | apply Drawn0.step)⟩
        ·rw [if_neg c9] at H
         have c9b0 : decide ((bt a0 x7_2) < 48) = false := decide_eq_false c9
         clear c9
         by_cases c11 : (bt a0 x7_2) > 57
         ·rw [if_pos c11] at H
          have c11b0 : decide (57 < (bt a0 x7_2)) = true := decide_eq_true c11
          clear c11
          simp only [Option.some.injEq, Prod.mk.injEq] at H
          obtain ⟨rfl, rfl⟩ := H
          have p8 : 0 ≤ (x7_2 : Int) := of_decide_eq_true (by first | (with_reducible assumption) | assumption)
          have q8 : x7_2 < (a0.size : Int) := of_decide_eq_true (by first | (with_reducible assumption) | assumption)
          have hx8 := bt_at a0 x7_2
          replace p8 := eq_true p8
          replace q8 := eq_true q8
          have p10 : 0 ≤ (x7_2 : Int) := of_decide_eq_true (by first | (with_reducible assumption) | assumption)
          have q10 : x7_2 < (a0.size : Int) := of_decide_eq_true (by first | (with_reducible assumption) | assumption)
          have hx10 := bt_at a0 x7_2
          replace p10 := eq_true p10
          replace q10 := eq_true q10
          go_wp2
          go_ret2
          exact ⟨by first | rfl | (simp; done) | (simp [*]; done), by repeat (first | exact Drawn0.refl _ | apply Drawn0.step)⟩
         ·rw [if_neg c11] at H
          have c11b0 : decide (57 < (bt a0 x7_2)) = false := decide_eq_false c11
          clear c11
          have H' := Aside0.mk H
          clear H
          have p8 : 0 ≤ (x7_2 : Int) := of_decide_eq_true (by first | (with_reducible assumption) | assumption)
          have q8 : x7_2 < (a0.size : Int) := of_decide_eq_true (by first | (with_reducible assumption) | assumption)
          have hx8 := bt_at a0 x7_2
          replace p8 := eq_true p8
          replace q8 := eq_true q8
          have p10 : 0 ≤ (x7_2 : Int) := of_decide_eq_true (by first | (with_reducible assumption) | assumption)
          have q10 : x7_2 < (a0.size : Int) := of_decide_eq_true (by first | (with_reducible assumption) | assumption)
          have hx10 := bt_at a0 x7_2
          replace p10 := eq_true p10
          replace q10 := eq_true q10
          have p12 : 0 ≤ (x7_2 : Int) := of_decide_eq_true (by first | (with_reducible assumption) | assumption)
          have q12 : x7_2 < (a0.size : Int) := of_decide_eq_true (by first | (with_reducible assumption) | assumption)
          have hx12 := bt_at a0 x7_2
          replace p12 := eq_true p12
          replace q12 := eq_true q12
          go_wp2
          go_roundg k2
          case measure => have := HJ2.out; have := HK2.out; omega
          case rel => exact ⟨(wrap64 ((wrap64 (10 * x6_2)) + (((bt a0 x7_2) - 48) % 256))), (wrap64 (x7_2 + 1)), (by first | rfl | (simp; done) | (simp [*]; done)), (by first | rfl | (simp; done) | (simp [*]; done)), H', ⟨by have := HJ2.out; have := HK2.out; omega⟩, by repeat (first | exact Drawn0.refl _ | apply Drawn0.step)⟩
       ·rw [if_neg c7] at H
        exact absurd H (by simp)
      ·rw [if_neg c6] at H
       have c6b0 : decide (x7_2 < (a0.size : Int)) = false := decide_eq_false c6
       clear c6
       by_cases c13 : x6_2 > a1
       ·rw [if_pos c13] at H
        have c13b0 : decide (a1 < x6_2) = true := decide_eq_true c13
        clear c13
        simp only [Option.some.injEq, Prod.mk.injEq] at H
        obtain ⟨rfl, rfl⟩ := H
        go_wp2
        go_ret2
        exact ⟨by first | rfl | (simp; done) | (simp [*]; done), by repeat (first | exact Drawn0.refl _ | apply Drawn0.step)⟩
       ·rw [if_neg c13] at H
        have c13b0 : decide (a1 < x6_2) = false := decide_eq_false c13
        clear c13
        simp only [Option.some.injEq, Prod.mk.injEq] at H
        obtain ⟨rfl, rfl⟩ := H
        go_wp2
        go_ret2
        exact ⟨by first | rfl | (simp; done) | (simp [*]; done), by repeat (first | exact Drawn0.refl _ | apply Drawn0.step)⟩
def wicketmanref08_small.f (a0 : Int) : Option (Int) := if a0 ≥ 65 then (if a0 ≤ 90 then (some ((a0 + 32) % 256)) else (some a0)) else (some a0)
def wicketmanref08_Same.l0 : Nat → ByteArray → ByteArray → Int → Option (Bool)
 | 0, _, _, _ => none
 | k + 1, x0, x1, x5 => if x5 < (x0.size : Int) then (if 0 ≤ x5 then ((wicketmanref08_small.f (bt x0 x5)).bind fun t213 => (if x5 < (x1.size : Int) then ((wicketmanref08_small.f (bt x1 x5)).bind fun t214 => (if t213 = t214 then (wicketmanref08_Same.l0 k x0 x1 (wrap64 (x5 + 1))) else (some false))) else (none))) else (none)) else (some true)
def wicketmanref08_Same.f (k : Nat) (a0 : ByteArray) (a1 : ByteArray) : Option (Bool) := if (a0.size : Int) = (a1.size : Int) then (wicketmanref08_Same.l0 k a0 a1 0) else (some false)
theorem wicketmanref08_Same.mono_l : ∀ k, (∀ y0 y1 y2, LeO (wicketmanref08_Same.l0 k y0 y1 y2) (wicketmanref08_Same.l0 (k + 1) y0 y1 y2))
 | 0 => fun _ _ _ r h => by simp [wicketmanref08_Same.l0] at h
 | k + 1 => by
  have ih0 := wicketmanref08_Same.mono_l k
  ·intro y0 y1 y2
   unfold wicketmanref08_Same.l0
   repeat' first
   | (with_reducible exact ih0 _ _ _)
   | (with_reducible exact LeO.refl _)
   | (with_reducible exact LeO.none _)
   | (with_reducible refine LeO.ite ?_ ?_)
   | (with_reducible refine LeO.bind ?_ (fun _ => ?_))
   | exact ih0 _ _ _
   | exact LeO.none _
   | refine LeO.ite ?_ ?_
   | refine LeO.bind ?_ (fun _ => ?_)
theorem wicketmanref08_Same.mono : ∀ a0 a1 k, LeO (wicketmanref08_Same.f k a0 a1) (wicketmanref08_Same.f (k + 1) a0 a1) := by
 intro a0 a1 k
 have ih0 := wicketmanref08_Same.mono_l k
 unfold wicketmanref08_Same.f
 repeat' first
   | (with_reducible exact ih0 _ _ _)
   | (with_reducible exact LeO.refl _)
   | (with_reducible exact LeO.none _)
   | (with_reducible refine LeO.ite ?_ ?_)
   | (with_reducible refine LeO.bind ?_ (fun _ => ?_))
   | exact ih0 _ _ _
   | exact LeO.none _
   | refine LeO.ite ?_ ?_
   | refine LeO.bind ?_ (fun _ => ?_)
def wicketmanref08_All.l0 : Nat → List (S43) → ByteArray → List ByteArray → Int → Option (List ByteArray)
 | 0, _, _, _, _ => none
 | k + 1, x0, x1, x5, x6 => if x6 < (x0.length : Int) then (if 0 ≤ x6 then ((wicketmanref08_Same.f k ((rd_T43 x0 x6).f0) x1).bind fun t216 => (if t216 = true then (if x5.length < 8796093022208 then (wicketmanref08_All.l0 k x0 x1 (x5 ++ [(rd_T43 x0 x6).f1]) (wrap64 (x6 + 1))) else (none)) else (wicketmanref08_All.l0 k x0 x1 x5 (wrap64 (x6 + 1))))) else (none)) else (some x5)
def wicketmanref08_All.f (k : Nat) (l0 : List (S43)) (a1 : ByteArray) : Option (List ByteArray) := wicketmanref08_All.l0 k l0 a1 ([] : List ByteArray) 0
theorem wicketmanref08_All.mono_l : ∀ k, (∀ y0 y1 y2 y3, LeO (wicketmanref08_All.l0 k y0 y1 y2 y3) (wicketmanref08_All.l0 (k + 1) y0 y1 y2 y3))
 | 0 => fun _ _ _ _ r h => by simp [wicketmanref08_All.l0] at h
 | k + 1 => by
  have ih0 := wicketmanref08_All.mono_l k
  ·intro y0 y1 y2 y3
   unfold wicketmanref08_All.l0
   repeat' first
   | (with_reducible exact ih0 _ _ _ _)
   | (with_reducible exact wicketmanref08_Same.mono _ _ _)
   | (with_reducible exact LeO.refl _)
   | (with_reducible exact LeO.none _)
   | (with_reducible refine LeO.ite ?_ ?_)
   | (with_reducible refine LeO.bind ?_ (fun _ => ?_))
   | exact ih0 _ _ _ _
   | exact wicketmanref08_Same.mono _ _ _
   | exact LeO.none _
   | refine LeO.ite ?_ ?_
   | refine LeO.bind ?_ (fun _ => ?_)
theorem wicketmanref08_All.mono : ∀ a0 a1 k, LeO (wicketmanref08_All.f k a0 a1) (wicketmanref08_All.f (k + 1) a0 a1) := by
 intro a0 a1 k
 have ih0 := wicketmanref08_All.mono_l k
 unfold wicketmanref08_All.f
 repeat' first
   | (with_reducible exact ih0 _ _ _ _)
   | (with_reducible exact wicketmanref08_Same.mono _ _ _)
   | (with_reducible exact LeO.refl _)
   | (with_reducible exact LeO.none _)
   | (with_reducible refine LeO.ite ?_ ?_)
   | (with_reducible refine LeO.bind ?_ (fun _ => ?_))
   | exact ih0 _ _ _ _
   | exact wicketmanref08_Same.mono _ _ _
   | exact LeO.none _
   | refine LeO.ite ?_ ?_
   | refine LeO.bind ?_ (fun _ => ?_)
def wicketmanref09_body.j0 : Nat → Int → List ByteArray → Bool → Option (Int)
 | 0, _, _, _ => none
 | k + 1, x1, x5, x25 => if x25 = true then (some 14) else (if (x5.length : Int) = 1 then (if 0 < (x5.length : Int) then ((wicketmanref01_Decimal.f k (rdOf ByteArray.empty x5 0) 4000).bind fun bt231 => (if bt231.2 = true then (if bt231.1 = x1 then (some 0) else (some 13)) else (some 13))) else (none)) else (if 0 = x1 then (some 0) else (some 13)))
def wicketmanref09_body.f (k : Nat) (l0 : List (S43)) (a1 : Int) : Option (Int) := (wicketmanref08_All.f k l0 (⟨#[67, 111, 110, 116, 101, 110, 116, 45, 76, 101, 110, 103, 116, 104]⟩ : ByteArray)).bind fun t221 => ((wicketmanref08_All.f k l0 (⟨#[72, 111, 115, 116]⟩ : ByteArray)).bind fun t224 => (if (t224.length : Int) = 1 then ((wicketmanref08_All.f k l0 (⟨#[84, 114, 97, 110, 115, 102, 101, 114, 45, 69, 110, 99, 111, 100, 105, 110, 103]⟩ : ByteArray)).bind fun t227 => (if (t227.length : Int) > 0 then (wicketmanref09_body.j0 k a1 t221 true) else (wicketmanref09_body.j0 k a1 t221 (decide ((t221.length : Int) > 1))))) else (wicketmanref09_body.j0 k a1 t221 true)))
theorem wicketmanref09_body.mono_l : ∀ k, (∀ y0 y1 y2, LeO (wicketmanref09_body.j0 k y0 y1 y2) (wicketmanref09_body.j0 (k + 1) y0 y1 y2))
 | 0 => fun _ _ _ r h => by simp [wicketmanref09_body.j0] at h
 | k + 1 => by
  have ih0 := wicketmanref09_body.mono_l k
  ·intro y0 y1 y2
   unfold wicketmanref09_body.j0
   repeat' first
   | (with_reducible exact ih0 _ _ _)
   | (with_reducible exact wicketmanref01_Decimal.mono _ _ _)
   | (with_reducible exact wicketmanref08_All.mono _ _ _)
   | (with_reducible exact LeO.refl _)
   | (with_reducible exact LeO.none _)
   | (with_reducible refine LeO.ite ?_ ?_)
   | (with_reducible refine LeO.bind ?_ (fun _ => ?_))
   | exact ih0 _ _ _
   | exact wicketmanref01_Decimal.mono _ _ _
   | exact wicketmanref08_All.mono _ _ _
   | exact LeO.none _
   | refine LeO.ite ?_ ?_
   | refine LeO.bind ?_ (fun _ => ?_)
theorem wicketmanref09_body.mono : ∀ a0 a1 k, LeO (wicketmanref09_body.f k a0 a1) (wicketmanref09_body.f (k + 1) a0 a1) := by
 intro a0 a1 k
 have ih0 := wicketmanref09_body.mono_l k
 unfold wicketmanref09_body.f
 repeat' first
   | (with_reducible exact ih0 _ _ _)
   | (with_reducible exact wicketmanref01_Decimal.mono _ _ _)
   | (with_reducible exact wicketmanref08_All.mono _ _ _)
   | (with_reducible exact LeO.refl _)
   | (with_reducible exact LeO.none _)
   | (with_reducible refine LeO.ite ?_ ?_)
   | (with_reducible refine LeO.bind ?_ (fun _ => ?_))
   | exact ih0 _ _ _
   | exact wicketmanref01_Decimal.mono _ _ _
   | exact wicketmanref08_All.mono _ _ _
   | exact LeO.none _
   | refine LeO.ite ?_ ?_
   | refine LeO.bind ?_ (fun _ => ?_)
end Go.Proofs.YtpfbemcoblganaaDoor.Pall

import Derived.Test.YtpfbemcoblganaaDoorQpPall0
import Derived.Test.YtpfbemcoblganaaDoorQpPall1
namespace Go.Proofs.YtpfbemcoblganaaDoor.Pall
open Go.RowKit Go.Proofs.YtpfbemcoblganaaDoorW.PrintWords Go.Proofs.YtpfbemcoblganaaDoorW.PrintLast
set_option linter.unusedVariables false
set_option linter.unusedSimpArgs false
attribute [local go_sem high] eqA43
mutual
def wicketmanlaw09_Raw.j0 : Nat → List Int → Int → List ByteArray → ByteArray → Option (List Int)
 | 0, _, _, _, _ => none
 | k + 1, x0, x1, x6, x7 => wicketmanlaw09_Raw.l0 k x0 x1 x6 x7 0
def wicketmanlaw09_Raw.l0 : Nat → List Int → Int → List ByteArray → ByteArray → Int → Option (List Int)
 | 0, _, _, _, _, _ => none
 | k + 1, x0, x1, x6, x7, x8 => if x8 < (x0.length : Int) then (if x8 < 8 then (if 0 ≤ x8 then (if (x6.length : Int) = 0 then (none) else (if 0 ≤ (Int.tmod (wrap64 (rd x0 x8)) (x6.length : Int)) then (if (Int.tmod (wrap64 (rd x0 x8)) (x6.length : Int)) < (x6.length : Int) then (if x7.size + (rdOf ByteArray.empty x6 (Int.tmod (wrap64 (rd x0 x8)) (x6.length : Int))).size ≤ 9223372036854775807 then (if (x7 ++ (rdOf ByteArray.empty x6 (Int.tmod (wrap64 (rd x0 x8)) (x6.length : Int)))).size + 2 ≤ 9223372036854775807 then (wicketmanlaw09_Raw.l0 k x0 x1 x6 ((x7 ++ (rdOf ByteArray.empty x6 (Int.tmod (wrap64 (rd x0 x8)) (x6.length : Int)))) ++ (⟨#[13, 10]⟩ : ByteArray)) (wrap64 (x8 + 1))) else (none)) else (none)) else (none)) else (none))) else (none)) else (if x7.size + 2 ≤ 9223372036854775807 then (if (((Int.tdiv x1 8) % 256) % 4) > 0 then (if 0 ≤ (((Int.tdiv x1 8) % 256) % 4) then (if (((Int.tdiv x1 8) % 256) % 4) ≤ 3 then (if (x7 ++ (⟨#[13, 10]⟩ : ByteArray)).size + ((⟨#[97, 98, 99]⟩ : ByteArray).extract 0 ((((Int.tdiv x1 8) % 256) % 4) : Int).toNat).size ≤ 9223372036854775807 then (if ((x7 ++ (⟨#[13, 10]⟩ : ByteArray)) ++ ((⟨#[97, 98, 99]⟩ : ByteArray).extract 0 ((((Int.tdiv x1 8) % 256) % 4) : Int).toNat)).size ≤ 140737488351232 then (some (btsOf ((x7 ++ (⟨#[13, 10]⟩ : ByteArray)) ++ ((⟨#[97, 98, 99]⟩ : ByteArray).extract 0 ((((Int.tdiv x1 8) % 256) % 4) : Int).toNat)))) else (none)) else (none)) else (none)) else (none)) else (if (x7 ++ (⟨#[13, 10]⟩ : ByteArray)).size ≤ 140737488351232 then (some (btsOf (x7 ++ (⟨#[13, 10]⟩ : ByteArray)))) else (none))) else (none))) else (if x7.size + 2 ≤ 9223372036854775807 then (if (((Int.tdiv x1 8) % 256) % 4) > 0 then (if 0 ≤ (((Int.tdiv x1 8) % 256) % 4) then (if (((Int.tdiv x1 8) % 256) % 4) ≤ 3 then (if (x7 ++ (⟨#[13, 10]⟩ : ByteArray)).size + ((⟨#[97, 98, 99]⟩ : ByteArray).extract 0 ((((Int.tdiv x1 8) % 256) % 4) : Int).toNat).size ≤ 9223372036854775807 then (if ((x7 ++ (⟨#[13, 10]⟩ : ByteArray)) ++ ((⟨#[97, 98, 99]⟩ : ByteArray).extract 0 ((((Int.tdiv x1 8) % 256) % 4) : Int).toNat)).size ≤ 140737488351232 then (some (btsOf ((x7 ++ (⟨#[13, 10]⟩ : ByteArray)) ++ ((⟨#[97, 98, 99]⟩ : ByteArray).extract 0 ((((Int.tdiv x1 8) % 256) % 4) : Int).toNat)))) else (none)) else (none)) else (none)) else (none)) else (if (x7 ++ (⟨#[13, 10]⟩ : ByteArray)).size ≤ 140737488351232 then (some (btsOf (x7 ++ (⟨#[13, 10]⟩ : ByteArray)))) else (none))) else (none))
end
def wicketmanlaw09_Raw.f (k : Nat) (l0 : List Int) (a1 : Int) : Option (List Int) := (some (([(⟨#[71, 69, 84, 32, 47, 32, 72, 84, 84, 80, 47, 49, 46, 49]⟩ : ByteArray), (⟨#[80, 79, 83, 84, 32, 47, 108, 111, 103, 105, 110, 32, 72, 84, 84, 80, 47, 49, 46, 49]⟩ : ByteArray), (⟨#[71, 69, 84, 32, 32, 47, 32, 72, 84, 84, 80, 47, 49, 46, 49]⟩ : ByteArray), (⟨#[71, 69, 84, 32, 47, 97, 32, 72, 84, 84, 80, 47, 49, 46, 48]⟩ : ByteArray), (⟨#[71, 32, 84, 32, 47, 32, 72, 84, 84, 80, 47, 49, 46, 49]⟩ : ByteArray), (⟨#[71, 69, 84, 32, 120, 32, 72, 84, 84, 80, 47, 49, 46, 49]⟩ : ByteArray), (⟨#[80, 85, 84, 32, 47, 128, 32, 72, 84, 84, 80, 47, 49, 46, 49]⟩ : ByteArray), (⟨#[]⟩ : ByteArray)] : List ByteArray) : List ByteArray)).bind fun y144 => ((some (([(⟨#[72, 111, 115, 116, 58, 32, 97]⟩ : ByteArray), (⟨#[72, 111, 115, 116, 58, 98]⟩ : ByteArray), (⟨#[67, 111, 110, 116, 101, 110, 116, 45, 76, 101, 110, 103, 116, 104, 58, 32, 51]⟩ : ByteArray), (⟨#[67, 111, 110, 116, 101, 110, 116, 45, 76, 101, 110, 103, 116, 104, 58, 32, 48]⟩ : ByteArray), (⟨#[67, 111, 110, 116, 101, 110, 116, 45, 76, 101, 110, 103, 116, 104, 58, 32, 43, 51]⟩ : ByteArray), (⟨#[67, 111, 110, 116, 101, 110, 116, 45, 76, 101, 110, 103, 116, 104, 58, 32, 52, 48, 48, 49]⟩ : ByteArray), (⟨#[84, 114, 97, 110, 115, 102, 101, 114, 45, 69, 110, 99, 111, 100, 105, 110, 103, 58, 32, 99, 104, 117, 110, 107, 101, 100]⟩ : ByteArray), (⟨#[67, 111, 111, 107, 105, 101, 58, 32, 97, 61, 49]⟩ : ByteArray), (⟨#[32, 120, 58, 32, 49]⟩ : ByteArray), (⟨#[88, 32, 58, 32, 49]⟩ : ByteArray), (⟨#[88, 58]⟩ : ByteArray), (⟨#[99, 111, 110, 116, 101, 110, 116, 45, 108, 101, 110, 103, 116, 104, 58, 32, 48, 51]⟩ : ByteArray)] : List ByteArray) : List ByteArray)).bind fun y147 => (if 0 ≤ (Int.tmod a1 8) then (if (Int.tmod a1 8) < (y144.length : Int) then (if (rdOf ByteArray.empty y144 (Int.tmod a1 8)).size + 2 ≤ 9223372036854775807 then (if a1 ≥ 128 then (if 0 ≤ (Int.tmod a1 2) then (if (Int.tmod a1 2) < (y144.length : Int) then (if (rdOf ByteArray.empty y144 (Int.tmod a1 2)).size + 2 ≤ 9223372036854775807 then (if ((rdOf ByteArray.empty y144 (Int.tmod a1 2)) ++ (⟨#[13, 10]⟩ : ByteArray)).size + 9 ≤ 9223372036854775807 then (wicketmanlaw09_Raw.j0 k l0 a1 y147 (((rdOf ByteArray.empty y144 (Int.tmod a1 2)) ++ (⟨#[13, 10]⟩ : ByteArray)) ++ (⟨#[72, 111, 115, 116, 58, 32, 97, 13, 10]⟩ : ByteArray))) else (none)) else (none)) else (none)) else (none)) else (wicketmanlaw09_Raw.j0 k l0 a1 y147 ((rdOf ByteArray.empty y144 (Int.tmod a1 8)) ++ (⟨#[13, 10]⟩ : ByteArray)))) else (none)) else (none)) else (none)))
theorem wicketmanlaw09_Raw.mono_l : ∀ k, (∀ y0 y1 y2 y3, LeO (wicketmanlaw09_Raw.j0 k y0 y1 y2 y3) (wicketmanlaw09_Raw.j0 (k + 1) y0 y1 y2 y3)) ∧ (∀ y0 y1 y2 y3 y4, LeO (wicketmanlaw09_Raw.l0 k y0 y1 y2 y3 y4) (wicketmanlaw09_Raw.l0 (k + 1) y0 y1 y2 y3 y4))
 | 0 => ⟨fun _ _ _ _ r h => by simp [wicketmanlaw09_Raw.j0] at h, fun _ _ _ _ _ r h => by simp [wicketmanlaw09_Raw.l0] at h⟩
 | k + 1 => by
  obtain ⟨ih0, ih1⟩ := wicketmanlaw09_Raw.mono_l k
  refine ⟨?_, ?_⟩
  ·intro y0 y1 y2 y3
   unfold wicketmanlaw09_Raw.j0
   repeat' first
   | (with_reducible exact ih0 _ _ _ _)
   | (with_reducible exact ih1 _ _ _ _ _)
   | (with_reducible exact LeO.refl _)
   | (with_reducible exact LeO.none _)
   | (with_reducible refine LeO.ite ?_ ?_)
   | (with_reducible refine LeO.bind ?_ (fun _ => ?_))
   | exact ih0 _ _ _ _
   | exact ih1 _ _ _ _ _
   | exact LeO.none _
   | refine LeO.ite ?_ ?_
   | refine LeO.bind ?_ (fun _ => ?_)
  ·intro y0 y1 y2 y3 y4
   unfold wicketmanlaw09_Raw.l0
   repeat' first
   | (with_reducible exact ih0 _ _ _ _)
   | (with_reducible exact ih1 _ _ _ _ _)
   | (with_reducible exact LeO.refl _)
   | (with_reducible exact LeO.none _)
   | (with_reducible refine LeO.ite ?_ ?_)
   | (with_reducible refine LeO.bind ?_ (fun _ => ?_))
   | exact ih0 _ _ _ _
   | exact ih1 _ _ _ _ _
   | exact LeO.none _
   | refine LeO.ite ?_ ?_
   | refine LeO.bind ?_ (fun _ => ?_)
theorem wicketmanlaw09_Raw.mono : ∀ a0 a1 k, LeO (wicketmanlaw09_Raw.f k a0 a1) (wicketmanlaw09_Raw.f (k + 1) a0 a1) := by
 intro a0 a1 k
 obtain ⟨ih0, ih1⟩ := wicketmanlaw09_Raw.mono_l k
 unfold wicketmanlaw09_Raw.f
 repeat' first
   | (with_reducible exact ih0 _ _ _ _)
   | (with_reducible exact ih1 _ _ _ _ _)
   | (with_reducible exact LeO.refl _)
   | (with_reducible exact LeO.none _)
   | (with_reducible refine LeO.ite ?_ ?_)
   | (with_reducible refine LeO.bind ?_ (fun _ => ?_))
   | exact ih0 _ _ _ _
   | exact ih1 _ _ _ _ _
   | exact LeO.none _
   | refine LeO.ite ?_ ?_
   | refine LeO.bind ?_ (fun _ => ?_)
def wicketmanref07_Same.l0 : Nat → List (S43) → List (S43) → Int → Option (Bool)
 | 0, _, _, _ => none
 | k + 1, x0, x1, x5 => if x5 < (x0.length : Int) then (if 0 ≤ x5 then (if x5 < (x1.length : Int) then (if (!((((rd_T43 x0 x5).f0).toList) == (((rd_T43 x1 x5).f0).toList)) || (!((((rd_T43 x0 x5).f1).toList) == (((rd_T43 x1 x5).f1).toList)))) = true then (some false) else (wicketmanref07_Same.l0 k x0 x1 (wrap64 (x5 + 1)))) else (none)) else (none)) else (some true)
def wicketmanref07_Same.f (k : Nat) (l0 : List (S43)) (l1 : List (S43)) : Option (Bool) := if (l0.length : Int) = (l1.length : Int) then (wicketmanref07_Same.l0 k l0 l1 0) else (some false)
theorem wicketmanref07_Same.mono_l : ∀ k, (∀ y0 y1 y2, LeO (wicketmanref07_Same.l0 k y0 y1 y2) (wicketmanref07_Same.l0 (k + 1) y0 y1 y2))
 | 0 => fun _ _ _ r h => by simp [wicketmanref07_Same.l0] at h
 | k + 1 => by
  have ih0 := wicketmanref07_Same.mono_l k
  ·intro y0 y1 y2
   unfold wicketmanref07_Same.l0
   repeat' first
   | (with_reducible exact ih0 _ _ _)
   | (with_reducible exact LeO.refl _)
   | (with_reducible exact LeO.none _)
   | (with_reducible refine LeO.ite ?_ ?_)
   | (with_reducible refine LeO.bind ?_ (fun _ => ?_))
   | exact ih0 _ _ _
   | exact LeO.none _
   | refine LeO.ite ?_ ?_
   | refine LeO.bind ?_ (fun _ => ?_)
theorem wicketmanref07_Same.mono : ∀ a0 a1 k, LeO (wicketmanref07_Same.f k a0 a1) (wicketmanref07_Same.f (k + 1) a0 a1) := by
 intro a0 a1 k
 have ih0 := wicketmanref07_Same.mono_l k
 unfold wicketmanref07_Same.f
 repeat' first
   | (with_reducible exact ih0 _ _ _)
   | (with_reducible exact LeO.refl _)
   | (with_reducible exact LeO.none _)
   | (with_reducible refine LeO.ite ?_ ?_)
   | (with_reducible refine LeO.bind ?_ (fun _ => ?_))
   | exact ih0 _ _ _
   | exact LeO.none _
   | refine LeO.ite ?_ ?_
   | refine LeO.bind ?_ (fun _ => ?_)
set_option maxHeartbeats 8000000 in
set_option maxRecDepth 100000 in
theorem wicketmanref07_Same.calls (k : Nat) (A0 : Option Addr) (c0 : Nat) (l0 : List (S43)) (A1 : Option Addr) (c1 : Nat) (l1 : List (S43)) (r : Bool) (w : World) (hr0 : Kd.C k43 w A0 l0.length l0) (hc0 : l0.length ≤ c0) (hr1 : Kd.C k43 w A1 l1.length l1) (hc1 : l1.length ≤ c1) (h : wicketmanref07_Same.f k l0 l1 = some r) :
  Calls Tryd.prog 33 #[.slice A0 l0.length c0, .slice A1 l1.length c1] w fun e w' => e = .returned (.bool r) ∧ Drawn0 w w' := by
 have hu43 := Tryd.underlying43
 have HR0 := Aside0.mk hr0
 have HC0 := Aside0.mk hc0
 clear hr0 hc0
 have HR1 := Aside0.mk hr1
 have HC1 := Aside0.mk hc1
 clear hr1 hc1
 have H : (if (l0.length : Int) = (l1.length : Int) then (wicketmanref07_Same.l0 k l0 l1 0) else (some false)) = some r := h
 clear h
 by_cases c3 : (l0.length : Int) = (l1.length : Int)
 ·rw [if_pos c3] at H
  have c3b0 : ((l0.length : Int) == (l1.length : Int)) = true := beq_iff_eq.mpr c3
  have c3b1 : ((l0.length : Int) != (l1.length : Int)) = false := bne_eq_false_iff_eq.mpr c3
  have c3b2 : (l0.length == l1.length) = true := by first | simpa using c3 | (simp at c3 ⊢; omega)
  clear c3
  have H' := Aside0.mk H
  clear H
  go_enter Tryd.func33, Tryd.ntmps33
  go_wp2
  repeat (go_quiet (fail); try go_wp2)
  go_loopg [5] k (fun kq v5 w' => ∃ (x5_1 : Int), v5 = .int .i64 x5_1 ∧ Aside0 (wicketmanref07_Same.l0 kq l0 l1 x5_1 = some r) ∧ Aside0 (kq ≤ k) ∧ Drawn0 w w')
  case atStart => exact ⟨(0), (by first | rfl | (simp; done) | (simp [*]; done)), H', ⟨Nat.le_refl _⟩, by repeat (first | exact Drawn0.refl _ | apply Drawn0.step)⟩
  case round =>
   clear H'
   try clear c1
   try clear p2
   try clear c3
   try clear c3b0
   try clear c3b1
   try clear c3b2
   obtain ⟨x5_1, rfl, HA, HK1, ⟨m1, rfl⟩⟩ := hrel
   cases gk with
   | zero => exact absurd HA.out (by simp [wicketmanref07_Same.l0])
   | succ k1 =>
    have H := HA.out
    clear HA
    simp only [wicketmanref07_Same.l0] at H
    by_cases c4 : x5_1 < (l0.length : Int)
    ·rw [if_pos c4] at H
     have c4b0 : decide (x5_1 < (l0.length : Int)) = true := decide_eq_true c4
     clear c4
     by_cases c5 : 0 ≤ x5_1
     ·rw [if_pos c5] at H
      have c5b0 : decide (0 ≤ x5_1) = true := decide_eq_true c5
      clear c5
      by_cases c6 : x5_1 < (l1.length : Int)
      ·rw [if_pos c6] at H
       have c6b0 : decide (x5_1 < (l1.length : Int)) = true := decide_eq_true c6
       clear c6
       by_cases c7 : (!((((rd_T43 l0 x5_1).f0).toList) == (((rd_T43 l1 x5_1).f0).toList)) || (!((((rd_T43 l0 x5_1).f1).toList) == (((rd_T43 l1 x5_1).f1).toList)))) = true
       ·rw [if_pos c7] at H
        have c7b0 : (!((((rd_T43 l0 x5_1).f0).toList) == (((rd_T43 l1 x5_1).f0).toList)) || (!((((rd_T43 l0 x5_1).f1).toList) == (((rd_T43 l1 x5_1).f1).toList)))) = true := c7
        clear c7
        obtain rfl := Option.some.inj H
        have p166 : 0 ≤ (x5_1 : Int) := of_decide_eq_true (by first | (with_reducible assumption) | assumption)
        have q166 : x5_1 < (l0.length : Int) := of_decide_eq_true (by first | (with_reducible assumption) | assumption)
        obtain ⟨ad166, e166, hx166_0, hx166_1⟩ := at_T43 HR0.out x5_1 p166 q166
        cases e166
        replace p166 := eq_true p166
        replace q166 := eq_true q166
        have p167 : 0 ≤ (x5_1 : Int) := of_decide_eq_true (by first | (with_reducible assumption) | assumption)
        have q167 : x5_1 < (l1.length : Int) := of_decide_eq_true (by first | (with_reducible assumption) | assumption)
        obtain ⟨ad167, e167, hx167_0, hx167_1⟩ := at_T43 HR1.out x5_1 p167 q167
        cases e167
        replace p167 := eq_true p167
        replace q167 := eq_true q167
        go_wp2
        repeat (go_quiet (fail); try go_wp2)
        go_ret
        exact ⟨by first | rfl | (simp; done) | (simp [*]; done), by repeat (first | exact Drawn0.refl _ | apply Drawn0.step)⟩
       ·rw [if_neg c7] at H
        have c7b0 : (!((((rd_T43 l0 x5_1).f0).toList) == (((rd_T43 l1 x5_1).f0).toList)) || (!((((rd_T43 l0 x5_1).f1).toList) == (((rd_T43 l1 x5_1).f1).toList)))) = false := by simpa using c7
        clear c7
        have H' := Aside0.mk H
        clear H
        have p166 : 0 ≤ (x5_1 : Int) := of_decide_eq_true (by first | (with_reducible assumption) | assumption)
        have q166 : x5_1 < (l0.length : Int) := of_decide_eq_true (by first | (with_reducible assumption) | assumption)
        obtain ⟨ad166, e166, hx166_0, hx166_1⟩ := at_T43 HR0.out x5_1 p166 q166
        cases e166
        replace p166 := eq_true p166
        replace q166 := eq_true q166
        have p167 : 0 ≤ (x5_1 : Int) := of_decide_eq_true (by first | (with_reducible assumption) | assumption)
        have q167 : x5_1 < (l1.length : Int) := of_decide_eq_true (by first | (with_reducible assumption) | assumption)
        obtain ⟨ad167, e167, hx167_0, hx167_1⟩ := at_T43 HR1.out x5_1 p167 q167
        cases e167
        replace p167 := eq_true p167
        replace q167 := eq_true q167
        go_wp2
        repeat (go_quiet (fail); try go_wp2)
        go_roundg k1
        case measure => have := HK1.out; omega
        case rel => exact ⟨(wrap64 (x5_1 + 1)), (by first | rfl | (simp; done) | (simp [*]; done)), H', ⟨by have := HK1.out; omega⟩, by repeat (first | exact Drawn0.refl _ | apply Drawn0.step)⟩
      ·rw [if_neg c6] at H
       exact absurd H (by simp)
     ·rw [if_neg c5] at H
      exact absurd H (by simp)
    ·rw [if_neg c4] at H
     have c4b0 : decide (x5_1 < (l0.length : Int)) = false := decide_eq_false c4
     clear c4
     obtain rfl := Option.some.inj H
     go_wp2
     repeat (go_quiet (fail); try go_wp2)
     go_ret
     exact ⟨by first | rfl | (simp; done) | (simp [*]; done), by repeat (first | exact Drawn0.refl _ | apply Drawn0.step)⟩
 ·rw [if_neg c3] at H
  have c3b0 : ((l0.length : Int) == (l1.length : Int)) = false := beq_eq_false_iff_ne.mpr c3
  have c3b1 : ((l0.length : Int) != (l1.length : Int)) = true := bne_iff_ne.mpr c3
  have c3b2 : (l0.length == l1.length) = false := by first | simpa using c3 | (simp at c3 ⊢; omega)
  obtain rfl := Option.some.inj H
  go_enter Tryd.func33, Tryd.ntmps33
  go_wp2
  repeat (go_quiet (fail); try go_wp2)
  go_ret
  exact ⟨by first | rfl | (simp; done) | (simp [*]; done), by repeat (first | exact Drawn0.refl _ | apply Drawn0.step)⟩
def wicketmanref09_Same.f (k : Nat) (a0_0 : ByteArray) (a0_1 : ByteArray) (l0_2 : List (S43)) (l0_3 : List Int) (a1_0 : ByteArray) (a1_1 : ByteArray) (l1_2 : List (S43)) (l1_3 : List Int) : Option (Bool) := if a0_0.toList = a1_0.toList then (if a0_1.toList = a1_1.toList then ((wicketmanref07_Same.f k l0_2 l1_2).bind fun t170 => (if t170 = true then (some ((strOfNums l0_3).toList == (strOfNums l1_3).toList)) else (some false))) else (some false)) else (some false)
theorem wicketmanref09_Same.mono : ∀ a0 a1 a2 a3 a4 a5 a6 a7 k, LeO (wicketmanref09_Same.f k a0 a1 a2 a3 a4 a5 a6 a7) (wicketmanref09_Same.f (k + 1) a0 a1 a2 a3 a4 a5 a6 a7) := by
 intro a0 a1 a2 a3 a4 a5 a6 a7 k
 unfold wicketmanref09_Same.f
 repeat' first
   | (with_reducible exact wicketmanref07_Same.mono _ _ _)
   | (with_reducible exact LeO.refl _)
   | (with_reducible exact LeO.none _)
   | (with_reducible refine LeO.ite ?_ ?_)
   | (with_reducible refine LeO.bind ?_ (fun _ => ?_))
   | exact wicketmanref07_Same.mono _ _ _
   | exact LeO.none _
   | refine LeO.ite ?_ ?_
   | refine LeO.bind ?_ (fun _ => ?_)
end Go.Proofs.YtpfbemcoblganaaDoor.Pall

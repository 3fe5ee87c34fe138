import Derived.Test.YtpfbemcoblganaaDoorQpPall0
namespace Go.Proofs.YtpfbemcoblganaaDoor.Pall
open Go.RowKit Go.Proofs.YtpfbemcoblganaaDoorW.PrintWords Go.Proofs.YtpfbemcoblganaaDoorW.PrintLast
set_option linter.unusedVariables false
set_option linter.unusedSimpArgs false
mutual
def wicketmanref07_Escape.l0 : Nat → ByteArray → ByteArray → Int → Option (ByteArray)
 | 0, _, _, _ => none
 | k + 1, x0, x3, x4 => if x4 < (x0.size : Int) then (if 0 ≤ x4 then (if (bt x0 x4) ≥ 97 then (if (bt x0 x4) ≤ 122 then (wicketmanref07_Escape.j1 k x0 x3 x4 (bt x0 x4) true) else (if (bt x0 x4) ≥ 65 then (if (bt x0 x4) ≤ 90 then (wicketmanref07_Escape.j1 k x0 x3 x4 (bt x0 x4) true) else (if (bt x0 x4) ≥ 48 then (if (bt x0 x4) ≤ 57 then (wicketmanref07_Escape.j1 k x0 x3 x4 (bt x0 x4) true) else (if (bt x0 x4) = 45 then (wicketmanref07_Escape.j1 k x0 x3 x4 (bt x0 x4) true) else (if (bt x0 x4) = 46 then (wicketmanref07_Escape.j1 k x0 x3 x4 (bt x0 x4) true) else (if (bt x0 x4) = 95 then (wicketmanref07_Escape.j1 k x0 x3 x4 (bt x0 x4) true) else (wicketmanref07_Escape.j1 k x0 x3 x4 (bt x0 x4) ((bt x0 x4) == 126)))))) else (if (bt x0 x4) = 45 then (wicketmanref07_Escape.j1 k x0 x3 x4 (bt x0 x4) true) else (if (bt x0 x4) = 46 then (wicketmanref07_Escape.j1 k x0 x3 x4 (bt x0 x4) true) else (if (bt x0 x4) = 95 then (wicketmanref07_Escape.j1 k x0 x3 x4 (bt x0 x4) true) else (wicketmanref07_Escape.j1 k x0 x3 x4 (bt x0 x4) ((bt x0 x4) == 126))))))) else (if (bt x0 x4) ≥ 48 then (if (bt x0 x4) ≤ 57 then (wicketmanref07_Escape.j1 k x0 x3 x4 (bt x0 x4) true) else (if (bt x0 x4) = 45 then (wicketmanref07_Escape.j1 k x0 x3 x4 (bt x0 x4) true) else (if (bt x0 x4) = 46 then (wicketmanref07_Escape.j1 k x0 x3 x4 (bt x0 x4) true) else (if (bt x0 x4) = 95 then (wicketmanref07_Escape.j1 k x0 x3 x4 (bt x0 x4) true) else (wicketmanref07_Escape.j1 k x0 x3 x4 (bt x0 x4) ((bt x0 x4) == 126)))))) else (if (bt x0 x4) = 45 then (wicketmanref07_Escape.j1 k x0 x3 x4 (bt x0 x4) true) else (if (bt x0 x4) = 46 then (wicketmanref07_Escape.j1 k x0 x3 x4 (bt x0 x4) true) else (if (bt x0 x4) = 95 then (wicketmanref07_Escape.j1 k x0 x3 x4 (bt x0 x4) true) else (wicketmanref07_Escape.j1 k x0 x3 x4 (bt x0 x4) ((bt x0 x4) == 126)))))))) else (if (bt x0 x4) ≥ 65 then (if (bt x0 x4) ≤ 90 then (wicketmanref07_Escape.j1 k x0 x3 x4 (bt x0 x4) true) else (if (bt x0 x4) ≥ 48 then (if (bt x0 x4) ≤ 57 then (wicketmanref07_Escape.j1 k x0 x3 x4 (bt x0 x4) true) else (if (bt x0 x4) = 45 then (wicketmanref07_Escape.j1 k x0 x3 x4 (bt x0 x4) true) else (if (bt x0 x4) = 46 then (wicketmanref07_Escape.j1 k x0 x3 x4 (bt x0 x4) true) else (if (bt x0 x4) = 95 then (wicketmanref07_Escape.j1 k x0 x3 x4 (bt x0 x4) true) else (wicketmanref07_Escape.j1 k x0 x3 x4 (bt x0 x4) ((bt x0 x4) == 126)))))) else (if (bt x0 x4) = 45 then (wicketmanref07_Escape.j1 k x0 x3 x4 (bt x0 x4) true) else (if (bt x0 x4) = 46 then (wicketmanref07_Escape.j1 k x0 x3 x4 (bt x0 x4) true) else (if (bt x0 x4) = 95 then (wicketmanref07_Escape.j1 k x0 x3 x4 (bt x0 x4) true) else (wicketmanref07_Escape.j1 k x0 x3 x4 (bt x0 x4) ((bt x0 x4) == 126))))))) else (if (bt x0 x4) ≥ 48 then (if (bt x0 x4) ≤ 57 then (wicketmanref07_Escape.j1 k x0 x3 x4 (bt x0 x4) true) else (if (bt x0 x4) = 45 then (wicketmanref07_Escape.j1 k x0 x3 x4 (bt x0 x4) true) else (if (bt x0 x4) = 46 then (wicketmanref07_Escape.j1 k x0 x3 x4 (bt x0 x4) true) else (if (bt x0 x4) = 95 then (wicketmanref07_Escape.j1 k x0 x3 x4 (bt x0 x4) true) else (wicketmanref07_Escape.j1 k x0 x3 x4 (bt x0 x4) ((bt x0 x4) == 126)))))) else (if (bt x0 x4) = 45 then (wicketmanref07_Escape.j1 k x0 x3 x4 (bt x0 x4) true) else (if (bt x0 x4) = 46 then (wicketmanref07_Escape.j1 k x0 x3 x4 (bt x0 x4) true) else (if (bt x0 x4) = 95 then (wicketmanref07_Escape.j1 k x0 x3 x4 (bt x0 x4) true) else (wicketmanref07_Escape.j1 k x0 x3 x4 (bt x0 x4) ((bt x0 x4) == 126)))))))) else (none)) else (some x3)
def wicketmanref07_Escape.j1 : Nat → ByteArray → ByteArray → Int → Int → Bool → Option (ByteArray)
 | 0, _, _, _, _, _ => none
 | k + 1, x0, x3, x4, x5, x52 => if x52 = true then (if 0 ≤ x4 then (if x4 ≤ (wrap64 (x4 + 1)) then (if (wrap64 (x4 + 1)) ≤ (x0.size : Int) then (if x3.size + (x0.extract (x4 : Int).toNat ((wrap64 (x4 + 1)) : Int).toNat).size ≤ 9223372036854775807 then (wicketmanref07_Escape.l0 k x0 (x3 ++ (x0.extract (x4 : Int).toNat ((wrap64 (x4 + 1)) : Int).toNat)) (wrap64 (x4 + 1))) else (none)) else (none)) else (none)) else (none)) else (if x5 = 32 then (if x3.size + 1 ≤ 9223372036854775807 then (wicketmanref07_Escape.l0 k x0 (x3 ++ (⟨#[43]⟩ : ByteArray)) (wrap64 (x4 + 1))) else (none)) else (if x3.size + 1 ≤ 9223372036854775807 then (if 0 ≤ ((Int.tdiv x5 16) % 256) then (if ((Int.tdiv x5 16) % 256) ≤ ((((Int.tdiv x5 16) % 256) + 1) % 256) then (if ((((Int.tdiv x5 16) % 256) + 1) % 256) ≤ 16 then (if (x3 ++ (⟨#[37]⟩ : ByteArray)).size + ((⟨#[48, 49, 50, 51, 52, 53, 54, 55, 56, 57, 65, 66, 67, 68, 69, 70]⟩ : ByteArray).extract (((Int.tdiv x5 16) % 256) : Int).toNat (((((Int.tdiv x5 16) % 256) + 1) % 256) : Int).toNat).size ≤ 9223372036854775807 then (if 0 ≤ (Int.tmod x5 16) then (if (Int.tmod x5 16) ≤ (((Int.tmod x5 16) + 1) % 256) then (if (((Int.tmod x5 16) + 1) % 256) ≤ 16 then (if ((x3 ++ (⟨#[37]⟩ : ByteArray)) ++ ((⟨#[48, 49, 50, 51, 52, 53, 54, 55, 56, 57, 65, 66, 67, 68, 69, 70]⟩ : ByteArray).extract (((Int.tdiv x5 16) % 256) : Int).toNat (((((Int.tdiv x5 16) % 256) + 1) % 256) : Int).toNat)).size + ((⟨#[48, 49, 50, 51, 52, 53, 54, 55, 56, 57, 65, 66, 67, 68, 69, 70]⟩ : ByteArray).extract ((Int.tmod x5 16) : Int).toNat ((((Int.tmod x5 16) + 1) % 256) : Int).toNat).size ≤ 9223372036854775807 then (wicketmanref07_Escape.l0 k x0 (((x3 ++ (⟨#[37]⟩ : ByteArray)) ++ ((⟨#[48, 49, 50, 51, 52, 53, 54, 55, 56, 57, 65, 66, 67, 68, 69, 70]⟩ : ByteArray).extract (((Int.tdiv x5 16) % 256) : Int).toNat (((((Int.tdiv x5 16) % 256) + 1) % 256) : Int).toNat)) ++ ((⟨#[48, 49, 50, 51, 52, 53, 54, 55, 56, 57, 65, 66, 67, 68, 69, 70]⟩ : ByteArray).extract ((Int.tmod x5 16) : Int).toNat ((((Int.tmod x5 16) + 1) % 256) : Int).toNat)) (wrap64 (x4 + 1))) else (none)) else (none)) else (none)) else (none)) else (none)) else (none)) else (none)) else (none)) else (none)))
end
def wicketmanref07_Escape.f (k : Nat) (a0 : ByteArray) : Option (ByteArray) := wicketmanref07_Escape.l0 k a0 (⟨#[]⟩ : ByteArray) 0
theorem wicketmanref07_Escape.mono_l : ∀ k, (∀ y0 y1 y2, LeO (wicketmanref07_Escape.l0 k y0 y1 y2) (wicketmanref07_Escape.l0 (k + 1) y0 y1 y2)) ∧ (∀ y0 y1 y2 y3 y4, LeO (wicketmanref07_Escape.j1 k y0 y1 y2 y3 y4) (wicketmanref07_Escape.j1 (k + 1) y0 y1 y2 y3 y4))
 | 0 => ⟨fun _ _ _ r h => by simp [wicketmanref07_Escape.l0] at h, fun _ _ _ _ _ r h => by simp [wicketmanref07_Escape.j1] at h⟩
 | k + 1 => by
  obtain ⟨ih0, ih1⟩ := wicketmanref07_Escape.mono_l k
  refine ⟨?_, ?_⟩
  ·intro y0 y1 y2
   unfold wicketmanref07_Escape.l0
   repeat' first
   | (with_reducible exact ih0 _ _ _)
   | (with_reducible exact ih1 _ _ _ _ _)
   | (with_reducible exact LeO.refl _)
   | (with_reducible exact LeO.none _)
   | (with_reducible refine LeO.ite ?_ ?_)
   | (with_reducible refine LeO.bind ?_ (fun _ => ?_))
   | exact ih0 _ _ _
   | exact ih1 _ _ _ _ _
   | exact LeO.none _
   | refine LeO.ite ?_ ?_
   | refine LeO.bind ?_ (fun _ => ?_)
  ·intro y0 y1 y2 y3 y4
   unfold wicketmanref07_Escape.j1
   repeat' first
   | (with_reducible exact ih0 _ _ _)
   | (with_reducible exact ih1 _ _ _ _ _)
   | (with_reducible exact LeO.refl _)
   | (with_reducible exact LeO.none _)
   | (with_reducible refine LeO.ite ?_ ?_)
   | (with_reducible refine LeO.bind ?_ (fun _ => ?_))
   | exact ih0 _ _ _
   | exact ih1 _ _ _ _ _
   | exact LeO.none _
   | refine LeO.ite ?_ ?_
   | refine LeO.bind ?_ (fun _ => ?_)
theorem wicketmanref07_Escape.mono : ∀ a0 k, LeO (wicketmanref07_Escape.f k a0) (wicketmanref07_Escape.f (k + 1) a0) := by
 intro a0 k
 obtain ⟨ih0, ih1⟩ := wicketmanref07_Escape.mono_l k
 unfold wicketmanref07_Escape.f
 repeat' first
   | (with_reducible exact ih0 _ _ _)
   | (with_reducible exact ih1 _ _ _ _ _)
   | (with_reducible exact LeO.refl _)
   | (with_reducible exact LeO.none _)
   | (with_reducible refine LeO.ite ?_ ?_)
   | (with_reducible refine LeO.bind ?_ (fun _ => ?_))
   | exact ih0 _ _ _
   | exact ih1 _ _ _ _ _
   | exact LeO.none _
   | refine LeO.ite ?_ ?_
   | refine LeO.bind ?_ (fun _ => ?_)
set_option maxHeartbeats 8000000 in
set_option maxRecDepth 100000 in
theorem wicketmanref07_Escape.calls (k : Nat) (a0 : ByteArray) (r : ByteArray) (w : World) (h : wicketmanref07_Escape.f k a0 = some r) :
  Calls Tryd.prog 21 #[.string a0] w fun e w' => e = .returned (.string r) ∧ Drawn0 w w' := by
 have H : (wicketmanref07_Escape.l0 k a0 (⟨#[]⟩ : ByteArray) 0) = some r := h
 clear h
 have H' := Aside0.mk H
 clear H
 go_enter Tryd.func21, Tryd.ntmps21
 go_wp2
 repeat (go_quiet (fail); try go_wp2)
 go_loopg [3, 4] k (fun kq v3 v4 w' => ∃ (x3_1 : ByteArray) (x4_1 : Int), v3 = .string x3_1 ∧ v4 = .int .i64 x4_1 ∧ Aside0 (wicketmanref07_Escape.l0 kq a0 x3_1 x4_1 = some r) ∧ Aside0 (kq ≤ k) ∧ Drawn0 w w')
 case atStart => exact ⟨((⟨#[]⟩ : ByteArray)), (0), (by first | rfl | (simp; done) | (simp [*]; done)), (by first | rfl | (simp; done) | (simp [*]; done)), H', ⟨Nat.le_refl _⟩, by repeat (first | exact Drawn0.refl _ | apply Drawn0.step)⟩
 case round =>
  clear H'
  obtain ⟨x3_1, x4_1, rfl, rfl, HA, HK1, ⟨m1, rfl⟩⟩ := hrel
  cases gk with
  | zero => exact absurd HA.out (by simp [wicketmanref07_Escape.l0])
  | succ k1 =>
   have H := HA.out
   clear HA
   simp only [wicketmanref07_Escape.l0] at H
   by_cases c2 : x4_1 < (a0.size : Int)
   ·rw [if_pos c2] at H
    have c2b0 : decide (x4_1 < (a0.size : Int)) = true := decide_eq_true c2
    clear c2
    by_cases c3 : 0 ≤ x4_1
    ·rw [if_pos c3] at H
     have c3b0 : decide (0 ≤ x4_1) = true := decide_eq_true c3
     clear c3
     have HC5 := Aside0.mk H
     clear H
     have p4 : 0 ≤ (x4_1 : Int) := of_decide_eq_true (by first | (with_reducible assumption) | assumption)
     have q4 : x4_1 < (a0.size : Int) := of_decide_eq_true (by first | (with_reducible assumption) | assumption)
     have hx4 := bt_at a0 x4_1
     replace p4 := eq_true p4
     replace q4 := eq_true q4
     go_upto_region 6 with (fail)
     repeat (go_quiet (fail); go_upto_region 6 with (fail))
     go_cut [52] (fun v52 wc => ∃ (kq : Nat) (x52_4 : Bool), v52 = .bool x52_4 ∧ Aside0 (wicketmanref07_Escape.j1 kq a0 x3_1 x4_1 (bt a0 x4_1) x52_4 = some r) ∧ Aside0 (kq ≤ k1) ∧ Drawn0 w wc)
     case first =>
      have H := HC5.out
      clear HC5
      by_cases c6 : (bt a0 x4_1) ≥ 97
      ·rw [if_pos c6] at H
       have c6b0 : decide (97 ≤ (bt a0 x4_1)) = true := decide_eq_true c6
       clear c6
       (first | rw [c6b0] | (simp only [i64_w, i32_w]; rw [c6b0]) | skip)
       by_cases c7 : (bt a0 x4_1) ≤ 122
       ·rw [if_pos c7] at H
        have c7b0 : decide ((bt a0 x4_1) ≤ 122) = true := decide_eq_true c7
        clear c7
        have H' := Aside0.mk H
        clear H
        go_wp2
        repeat (go_quiet (fail); try go_wp2)
        go_meet
        case rel => exact ⟨_, (true), (by first | rfl | (simp; done) | (simp [*]; done)), H', ⟨by have := HK1.out; first | omega | exact Nat.le_refl _⟩, by repeat (first | exact Drawn0.refl _ | apply Drawn0.step)⟩
       ·rw [if_neg c7] at H
        have c7b0 : decide ((bt a0 x4_1) ≤ 122) = false := decide_eq_false c7
        clear c7
        by_cases c8 : (bt a0 x4_1) ≥ 65
        ·rw [if_pos c8] at H
         have c8b0 : decide (65 ≤ (bt a0 x4_1)) = true := decide_eq_true c8
         clear c8
         by_cases c9 : (bt a0 x4_1) ≤ 90
         ·rw [if_pos c9] at H
          have c9b0 : decide ((bt a0 x4_1) ≤ 90) = true := decide_eq_true c9
          clear c9
          have H' := Aside0.mk H
          clear H
          go_wp2
          repeat (go_quiet (fail); try go_wp2)
          go_meet
          case rel => exact ⟨_, (true), (by first | rfl | (simp; done) | (simp [*]; done)), H', ⟨by have := HK1.out; first | omega | exact Nat.le_refl _⟩, by repeat (first | exact Drawn0.refl _ | apply Drawn0.step)⟩
         ·rw [if_neg c9] at H
          have c9b0 : decide ((bt a0 x4_1) ≤ 90) = false := decide_eq_false c9
          clear c9
          by_cases c10 : (bt a0 x4_1) ≥ 48
          ·rw [if_pos c10] at H
           have c10b0 : decide (48 ≤ (bt a0 x4_1)) = true := decide_eq_true c10
           clear c10
           by_cases c11 : (bt a0 x4_1) ≤ 57
           ·rw [if_pos c11] at H
            have c11b0 : decide ((bt a0 x4_1) ≤ 57) = true := decide_eq_true c11
            clear c11
            have H' := Aside0.mk H
            clear H
            go_wp2
            repeat (go_quiet (fail); try go_wp2)
            go_meet
            case rel => exact ⟨_, (true), (by first | rfl | (simp; done) | (simp [*]; done)), H', ⟨by have := HK1.out; first | omega | exact Nat.le_refl _⟩, by repeat (first | exact Drawn0.refl _ | apply Drawn0.step)⟩
           ·rw [if_neg c11] at H
            have c11b0 : decide ((bt a0 x4_1) ≤ 57) = false := decide_eq_false c11
            clear c11
            by_cases c12 : (bt a0 x4_1) = 45
            ·rw [if_pos c12] at H
             have c12b0 : ((bt a0 x4_1) == 45) = true := beq_iff_eq.mpr c12
             have c12b1 : ((bt a0 x4_1) != 45) = false := bne_eq_false_iff_eq.mpr c12
             clear c12
             have H' := Aside0.mk H
             clear H
             go_wp2
             repeat (go_quiet (fail); try go_wp2)
             go_meet
             case rel => exact ⟨_, (true), (by first | rfl | (simp; done) | (simp [*]; done)), H', ⟨by have := HK1.out; first | omega | exact Nat.le_refl _⟩, by repeat (first | exact Drawn0.refl _ | apply Drawn0.step)⟩
            ·rw [if_neg c12] at H
             have c12b0 : ((bt a0 x4_1) == 45) = false := beq_eq_false_iff_ne.mpr c12
             have c12b1 : ((bt a0 x4_1) != 45) = true := bne_iff_ne.mpr c12
             by_cases c13 : (bt a0 x4_1) = 46
             ·rw [if_pos c13] at H
              have c13b0 : ((bt a0 x4_1) == 46) = true := beq_iff_eq.mpr c13
              have c13b1 : ((bt a0 x4_1) != 46) = false := bne_eq_false_iff_eq.mpr c13
              clear c13
              have H' := Aside0.mk H
              clear H
              go_wp2
              repeat (go_quiet (fail); try go_wp2)
              go_meet
              case rel => exact ⟨_, (true), (by first | rfl | (simp; done) | (simp [*]; done)), H', ⟨by have := HK1.out; first | omega | exact Nat.le_refl _⟩, by repeat (first | exact Drawn0.refl _ | apply Drawn0.step)⟩
             ·rw [if_neg c13] at H
              have c13b0 : ((bt a0 x4_1) == 46) = false := beq_eq_false_iff_ne.mpr c13
              have c13b1 : ((bt a0 x4_1) != 46) = true := bne_iff_ne.mpr c13
              by_cases c14 : (bt a0 x4_1) = 95
              ·rw [if_pos c14] at H
               have c14b0 : ((bt a0 x4_1) == 95) = true := beq_iff_eq.mpr c14
               have c14b1 : ((bt a0 x4_1) != 95) = false := bne_eq_false_iff_eq.mpr c14
               clear c14
               have H' := Aside0.mk H
               clear H
               go_wp2
               repeat (go_quiet (fail); try go_wp2)
               go_meet
               case rel => exact ⟨_, (true), (by first | rfl | (simp; done) | (simp [*]; done)), H', ⟨by have := HK1.out; first | omega | exact Nat.le_refl _⟩, by repeat (first | exact Drawn0.refl _ | apply Drawn0.step)⟩
              ·rw [if_neg c14] at H
               have c14b0 : ((bt a0 x4_1) == 95) = false := beq_eq_false_iff_ne.mpr c14
               have c14b1 : ((bt a0 x4_1) != 95) = true := bne_iff_ne.mpr c14
               have H' := Aside0.mk H
               clear H
               go_wp2
               repeat (go_quiet (fail); try go_wp2)
               go_meet
               case rel => exact ⟨_, (((bt a0 x4_1) == 126)), (by first | rfl | (simp; done) | (simp [*]; done)), H', ⟨by have := HK1.out; first | omega | exact Nat.le_refl _⟩, by repeat (first | exact Drawn0.refl _ | apply Drawn0.step)⟩
          ·rw [if_neg c10] at H
           have c10b0 : decide (48 ≤ (bt a0 x4_1)) = false := decide_eq_false c10
           clear c10
           by_cases c15 : (bt a0 x4_1) = 45
           ·rw [if_pos c15] at H
            have c15b0 : ((bt a0 x4_1) == 45) = true := beq_iff_eq.mpr c15
            have c15b1 : ((bt a0 x4_1) != 45) = false := bne_eq_false_iff_eq.mpr c15
            clear c15
            have H' := Aside0.mk H
            clear H
            go_wp2
            repeat (go_quiet (fail); try go_wp2)
            go_meet
            case rel => exact ⟨_, (true), (by first | rfl | (simp; done) | (simp [*]; done)), H', ⟨by have := HK1.out; first | omega | exact Nat.le_refl _⟩, by repeat (first | exact Drawn0.refl _ | apply Drawn0.step)⟩
           ·rw [if_neg c15] at H
            have c15b0 : ((bt a0 x4_1) == 45) = false := beq_eq_false_iff_ne.mpr c15
            have c15b1 : ((bt a0 x4_1) != 45) = true := bne_iff_ne.mpr c15
            by_cases c16 : (bt a0 x4_1) = 46
            ·rw [if_pos c16] at H
             have c16b0 : ((bt a0 x4_1) == 46) = true := beq_iff_eq.mpr c16
             have c16b1 : ((bt a0 x4_1) != 46) = false := bne_eq_false_iff_eq.mpr c16
             clear c16
             have H' := Aside0.mk H
             clear H
             go_wp2
             repeat (go_quiet (fail); try go_wp2)
             go_meet
             case rel => exact ⟨_, (true), (by first | rfl | (simp; done) | (simp [*]; done)), H', ⟨by have := HK1.out; first | omega | exact Nat.le_refl _⟩, by repeat (first | exact Drawn0.refl _ | apply Drawn0.step)⟩
            ·rw [if_neg c16] at H
             have c16b0 : ((bt a0 x4_1) == 46) = false := beq_eq_false_iff_ne.mpr c16
             have c16b1 : ((bt a0 x4_1) != 46) = true := bne_iff_ne.mpr c16
             by_cases c17 : (bt a0 x4_1) = 95
             ·rw [if_pos c17] at H
              have c17b0 : ((bt a0 x4_1) == 95) = true := beq_iff_eq.mpr c17
              have c17b1 : ((bt a0 x4_1) != 95) = false := bne_eq_false_iff_eq.mpr c17
              clear c17
              have H' := Aside0.mk H
              clear H
              go_wp2
              repeat (go_quiet (fail); try go_wp2)
              go_meet
              case rel => exact ⟨_, (true), (by first | rfl | (simp; done) | (simp [*]; done)), H', ⟨by have := HK1.out; first | omega | exact Nat.le_refl _⟩, by repeat (first | exact Drawn0.refl _ | apply Drawn0.step)⟩
             ·rw [if_neg c17] at H
              have c17b0 : ((bt a0 x4_1) == 95) = false := beq_eq_false_iff_ne.mpr c17
              have c17b1 : ((bt a0 x4_1) != 95) = true := bne_iff_ne.mpr c17
              have H' := Aside0.mk H
              clear H
              go_wp2
              repeat (go_quiet (fail); try go_wp2)
              go_meet
              case rel => exact ⟨_, (((bt a0 x4_1) == 126)), (by first | rfl | (simp; done) | (simp [*]; done)), H', ⟨by have := HK1.out; first | omega | exact Nat.le_refl _⟩, by repeat (first | exact Drawn0.refl _ | apply Drawn0.step)⟩
        ·rw [if_neg c8] at H
         have c8b0 : decide (65 ≤ (bt a0 x4_1)) = false := decide_eq_false c8
         clear c8
         by_cases c18 : (bt a0 x4_1) ≥ 48
         ·rw [if_pos c18] at H
          have c18b0 : decide (48 ≤ (bt a0 x4_1)) = true := decide_eq_true c18
          clear c18
          by_cases c19 : (bt a0 x4_1) ≤ 57
          ·rw [if_pos c19] at H
           have c19b0 : decide ((bt a0 x4_1) ≤ 57) = true := decide_eq_true c19
           clear c19
           have H' := Aside0.mk H
           clear H
           go_wp2
           repeat (go_quiet (fail); try go_wp2)
           go_meet
           case rel => exact ⟨_, (true), (by first | rfl | (simp; done) | (simp [*]; done)), H', ⟨by have := HK1.out; first | omega | exact Nat.le_refl _⟩, by repeat (first | exact Drawn0.refl _ | apply Drawn0.step)⟩
          ·rw [if_neg c19] at H
           have c19b0 : decide ((bt a0 x4_1) ≤ 57) = false := decide_eq_false c19
           clear c19
           by_cases c20 : (bt a0 x4_1) = 45
           ·rw [if_pos c20] at H
            have c20b0 : ((bt a0 x4_1) == 45) = true := beq_iff_eq.mpr c20
            have c20b1 : ((bt a0 x4_1) != 45) = false := bne_eq_false_iff_eq.mpr c20
            clear c20
            have H' := Aside0.mk H
            clear H
            go_wp2
            repeat (go_quiet (fail); try go_wp2)
            go_meet
            case rel => exact ⟨_, (true), (by first | rfl | (simp; done) | (simp [*]; done)), H', ⟨by have := HK1.out; first | omega | exact Nat.le_refl _⟩, by repeat (first | exact Drawn0.refl _ | apply Drawn0.step)⟩
           ·rw [if_neg c20] at H
            have c20b0 : ((bt a0 x4_1) == 45) = false := beq_eq_false_iff_ne.mpr c20
            have c20b1 : ((bt a0 x4_1) != 45) = true := bne_iff_ne.mpr c20
            by_cases c21 : (bt a0 x4_1) = 46
            ·rw [if_pos c21] at H
             have c21b0 : ((bt a0 x4_1) == 46) = true := beq_iff_eq.mpr c21
             have c21b1 : ((bt a0 x4_1) != 46) = false := bne_eq_false_iff_eq.mpr c21
             clear c21
             have H' := Aside0.mk H
             clear H
             go_wp2
             repeat (go_quiet (fail); try go_wp2)
             go_meet
             case rel => exact ⟨_, (true), (by first | rfl | (simp; done) | (simp [*]; done)), H', ⟨by have := HK1.out; first | omega | exact Nat.le_refl _⟩, by repeat (first | exact Drawn0.refl _ | apply Drawn0.step)⟩
            ·rw [if_neg c21] at H
             have c21b0 : ((bt a0 x4_1) == 46) = false := beq_eq_false_iff_ne.mpr c21
             have c21b1 : ((bt a0 x4_1) != 46) = true := bne_iff_ne.mpr c21
             by_cases c22 : (bt a0 x4_1) = 95
             ·rw [if_pos c22] at H
              have c22b0 : ((bt a0 x4_1) == 95) = true := beq_iff_eq.mpr c22
              have c22b1 : ((bt a0 x4_1) != 95) = false := bne_eq_false_iff_eq.mpr c22
              clear c22
              have H' := Aside0.mk H
              clear H
              go_wp2
              repeat (go_quiet (fail); try go_wp2)
              go_meet
              case rel => exact ⟨_, (true), (by first | rfl | (simp; done) | (simp [*]; done)), H', ⟨by have := HK1.out; first | omega | exact Nat.le_refl _⟩, by repeat (first | exact Drawn0.refl _ | apply Drawn0.step)⟩
             ·rw [if_neg c22] at H
              have c22b0 : ((bt a0 x4_1) == 95) = false := beq_eq_false_iff_ne.mpr c22
              have c22b1 : ((bt a0 x4_1) != 95) = true := bne_iff_ne.mpr c22
              have H' := Aside0.mk H
              clear H
              go_wp2
              repeat (go_quiet (fail); try go_wp2)
              go_meet
              case rel => exact ⟨_, (((bt a0 x4_1) == 126)), (by first | rfl | (simp; done) | (simp [*]; done)), H', ⟨by have := HK1.out; first | omega | exact Nat.le_refl _⟩, by repeat (first | exact Drawn0.refl _ | apply Drawn0.step)⟩
         ·rw [if_neg c18] at H
          have c18b0 : decide (48 ≤ (bt a0 x4_1)) = false := decide_eq_false c18
          clear c18
          by_cases c23 : (bt a0 x4_1) = 45
          ·rw [if_pos c23] at H
           have c23b0 : ((bt a0 x4_1) == 45) = true := beq_iff_eq.mpr c23
           have c23b1 : ((bt a0 x4_1) != 45) = false := bne_eq_false_iff_eq.mpr c23
           clear c23
           have H' := Aside0.mk H
           clear H
           go_wp2
           repeat (go_quiet (fail); try go_wp2)
           go_meet
           case rel => exact ⟨_, (true), (by first | rfl | (simp; done) | (simp [*]; done)), H', ⟨by have := HK1.out; first | omega | exact Nat.le_refl _⟩, by repeat (first | exact Drawn0.refl _ | apply Drawn0.step)⟩
          ·rw [if_neg c23] at H
           have c23b0 : ((bt a0 x4_1) == 45) = false := beq_eq_false_iff_ne.mpr c23
           have c23b1 : ((bt a0 x4_1) != 45) = true := bne_iff_ne.mpr c23
           by_cases c24 : (bt a0 x4_1) = 46
           ·rw [if_pos c24] at H
            have c24b0 : ((bt a0 x4_1) == 46) = true := beq_iff_eq.mpr c24
            have c24b1 : ((bt a0 x4_1) != 46) = false := bne_eq_false_iff_eq.mpr c24
            clear c24
            have H' := Aside0.mk H
            clear H
            go_wp2
            repeat (go_quiet (fail); try go_wp2)
            go_meet
            case rel => exact ⟨_, (true), (by first | rfl | (simp; done) | (simp [*]; done)), H', ⟨by have := HK1.out; first | omega | exact Nat.le_refl _⟩, by repeat (first | exact Drawn0.refl _ | apply Drawn0.step)⟩
           ·rw [if_neg c24] at H
            have c24b0 : ((bt a0 x4_1) == 46) = false := beq_eq_false_iff_ne.mpr c24
            have c24b1 : ((bt a0 x4_1) != 46) = true := bne_iff_ne.mpr c24
            by_cases c25 : (bt a0 x4_1) = 95
            ·rw [if_pos c25] at H
             have c25b0 : ((bt a0 x4_1) == 95) = true := beq_iff_eq.mpr c25
             have c25b1 : ((bt a0 x4_1) != 95) = false := bne_eq_false_iff_eq.mpr c25
             clear c25
             have H' := Aside0.mk H
             clear H
             go_wp2
             repeat (go_quiet (fail); try go_wp2)
             go_meet
             case rel => exact ⟨_, (true), (by first | rfl | (simp; done) | (simp [*]; done)), H', ⟨by have := HK1.out; first | omega | exact Nat.le_refl _⟩, by repeat (first | exact Drawn0.refl _ | apply Drawn0.step)⟩
            ·rw [if_neg c25] at H
             have c25b0 : ((bt a0 x4_1) == 95) = false := beq_eq_false_iff_ne.mpr c25
             have c25b1 : ((bt a0 x4_1) != 95) = true := bne_iff_ne.mpr c25
             have H' := Aside0.mk H
             clear H
             go_wp2
             repeat (go_quiet (fail); try go_wp2)
             go_meet
             case rel => exact ⟨_, (((bt a0 x4_1) == 126)), (by first | rfl | (simp; done) | (simp [*]; done)), H', ⟨by have := HK1.out; first | omega | exact Nat.le_refl _⟩, by repeat (first | exact Drawn0.refl _ | apply Drawn0.step)⟩
      ·rw [if_neg c6] at H
       have c6b0 : decide (97 ≤ (bt a0 x4_1)) = false := decide_eq_false c6
       clear c6
       (first | rw [c6b0] | (simp only [i64_w, i32_w]; rw [c6b0]) | skip)
       by_cases c26 : (bt a0 x4_1) ≥ 65
       ·rw [if_pos c26] at H
        have c26b0 : decide (65 ≤ (bt a0 x4_1)) = true := decide_eq_true c26
        clear c26
        by_cases c27 : (bt a0 x4_1) ≤ 90
        ·rw [if_pos c27] at H
         have c27b0 : decide ((bt a0 x4_1) ≤ 90) = true := decide_eq_true c27
         clear c27
         have H' := Aside0.mk H
         clear H
         go_wp2
         repeat (go_quiet (fail); try go_wp2)
         go_meet
         case rel => exact ⟨_, (true), (by first | rfl | (simp; done) | (simp [*]; done)), H', ⟨by have := HK1.out; first | omega | exact Nat.le_refl _⟩, by repeat (first | exact Drawn0.refl _ | apply Drawn0.step)⟩
        ·rw [if_neg c27] at H
         have c27b0 : decide ((bt a0 x4_1) ≤ 90) = false := decide_eq_false c27
         clear c27
         by_cases c28 : (bt a0 x4_1) ≥ 48
         ·rw [if_pos c28] at H
          have c28b0 : decide (48 ≤ (bt a0 x4_1)) = true := decide_eq_true c28
          clear c28
          by_cases c29 : (bt a0 x4_1) ≤ 57
          ·rw [if_pos c29] at H
           have c29b0 : decide ((bt a0 x4_1) ≤ 57) = true := decide_eq_true c29
           clear c29
           have H' := Aside0.mk H
           clear H
           go_wp2
           repeat (go_quiet (fail); try go_wp2)
           go_meet
           case rel => exact ⟨_, (true), (by first | rfl | (simp; done) | (simp [*]; done)), H', ⟨by have := HK1.out; first | omega | exact Nat.le_refl _⟩, by repeat (first | exact Drawn0.refl _ | apply Drawn0.step)⟩
          ·rw [if_neg c29] at H
           have c29b0 : decide ((bt a0 x4_1) ≤ 57) = false := decide_eq_false c29
           clear c29
           by_cases c30 : (bt a0 x4_1) = 45
           ·rw [if_pos c30] at H
            have c30b0 : ((bt a0 x4_1) == 45) = true := beq_iff_eq.mpr c30
            have c30b1 : ((bt a0 x4_1) != 45) = false := bne_eq_false_iff_eq.mpr c30
            clear c30
            have H' := Aside0.mk H
            clear H
            go_wp2
            repeat (go_quiet (fail); try go_wp2)
            go_meet
            case rel => exact ⟨_, (true), (by first | rfl | (simp; done) | (simp [*]; done)), H', ⟨by have := HK1.out; first | omega | exact Nat.le_refl _⟩, by repeat (first | exact Drawn0.refl _ | apply Drawn0.step)⟩
           ·rw [if_neg c30] at H
            have c30b0 : ((bt a0 x4_1) == 45) = false := beq_eq_false_iff_ne.mpr c30
            have c30b1 : ((bt a0 x4_1) != 45) = true := bne_iff_ne.mpr c30
            by_cases c31 : (bt a0 x4_1) = 46
            ·rw [if_pos c31] at H
             have c31b0 : ((bt a0 x4_1) == 46) = true := beq_iff_eq.mpr c31
             have c31b1 : ((bt a0 x4_1) != 46) = false := bne_eq_false_iff_eq.mpr c31
             clear c31
             have H' := Aside0.mk H
             clear H
             go_wp2
             repeat (go_quiet (fail); try go_wp2)
             go_meet
             case rel => exact ⟨_, (true), (by first | rfl | (simp; done) | (simp [*]; done)), H', ⟨by have := HK1.out; first | omega | exact Nat.le_refl _⟩, by repeat (first | exact Drawn0.refl _ | apply Drawn0.step)⟩
            ·rw [if_neg c31] at H
             have c31b0 : ((bt a0 x4_1) == 46) = false := beq_eq_false_iff_ne.mpr c31
             have c31b1 : ((bt a0 x4_1) != 46) = true := bne_iff_ne.mpr c31
             by_cases c32 : (bt a0 x4_1) = 95
             ·rw [if_pos c32] at H
              have c32b0 : ((bt a0 x4_1) == 95) = true := beq_iff_eq.mpr c32
              have c32b1 : ((bt a0 x4_1) != 95) = false := bne_eq_false_iff_eq.mpr c32
              clear c32
              have H' := Aside0.mk H
              clear H
              go_wp2
              repeat (go_quiet (fail); try go_wp2)
              go_meet
              case rel => exact ⟨_, (true), (by first | rfl | (simp; done) | (simp [*]; done)), H', ⟨by have := HK1.out; first | omega | exact Nat.le_refl _⟩, by repeat (first | exact Drawn0.refl _ | apply Drawn0.step)⟩
             ·rw [if_neg c32] at H
              have c32b0 : ((bt a0 x4_1) == 95) = false := beq_eq_false_iff_ne.mpr c32
              have c32b1 : ((bt a0 x4_1) != 95) = true := bne_iff_ne.mpr c32
              have H' := Aside0.mk H
              clear H
              go_wp2
              repeat (go_quiet (fail); try go_wp2)
              go_meet
              case rel => exact ⟨_, (((bt a0 x4_1) == 126)), (by first | rfl | (simp; done) | (simp [*]; done)), H', ⟨by have := HK1.out; first | omega | exact Nat.le_refl _⟩, by repeat (first | exact Drawn0.refl _ | apply Drawn0.step)⟩
         ·rw [if_neg c28] at H
          have c28b0 : decide (48 ≤ (bt a0 x4_1)) = false := decide_eq_false c28
          clear c28
          by_cases c33 : (bt a0 x4_1) = 45
          ·rw [if_pos c33] at H
           have c33b0 : ((bt a0 x4_1) == 45) = true := beq_iff_eq.mpr c33
           have c33b1 : ((bt a0 x4_1) != 45) = false := bne_eq_false_iff_eq.mpr c33
           clear c33
           have H' := Aside0.mk H
           clear H
           go_wp2
           repeat (go_quiet (fail); try go_wp2)
           go_meet
           case rel => exact ⟨_, (true), (by first | rfl | (simp; done) | (simp [*]; done)), H', ⟨by have := HK1.out; first | omega | exact Nat.le_refl _⟩, by repeat (first | exact Drawn0.refl _ | apply Drawn0.step)⟩
          ·rw [if_neg c33] at H
           have c33b0 : ((bt a0 x4_1) == 45) = false := beq_eq_false_iff_ne.mpr c33
           have c33b1 : ((bt a0 x4_1) != 45) = true := bne_iff_ne.mpr c33
           by_cases c34 : (bt a0 x4_1) = 46
           ·rw [if_pos c34] at H
            have c34b0 : ((bt a0 x4_1) == 46) = true := beq_iff_eq.mpr c34
            have c34b1 : ((bt a0 x4_1) != 46) = false := bne_eq_false_iff_eq.mpr c34
            clear c34
            have H' := Aside0.mk H
            clear H
            go_wp2
            repeat (go_quiet (fail); try go_wp2)
            go_meet
            case rel => exact ⟨_, (true), (by first | rfl | (simp; done) | (simp [*]; done)), H', ⟨by have := HK1.out; first | omega | exact Nat.le_refl _⟩, by repeat (first | exact Drawn0.refl _ | apply Drawn0.step)⟩
           ·rw [if_neg c34] at H
            have c34b0 : ((bt a0 x4_1) == 46) = false := beq_eq_false_iff_ne.mpr c34
            have c34b1 : ((bt a0 x4_1) != 46) = true := bne_iff_ne.mpr c34
            by_cases c35 : (bt a0 x4_1) = 95
            ·rw [if_pos c35] at H
             have c35b0 : ((bt a0 x4_1) == 95) = true := beq_iff_eq.mpr c35
             have c35b1 : ((bt a0 x4_1) != 95) = false := bne_eq_false_iff_eq.mpr c35
             clear c35
             have H' := Aside0.mk H
             clear H
             go_wp2
             repeat (go_quiet (fail); try go_wp2)
             go_meet
             case rel => exact ⟨_, (true), (by first | rfl | (simp; done) | (simp [*]; done)), H', ⟨by have := HK1.out; first | omega | exact Nat.le_refl _⟩, by repeat (first | exact Drawn0.refl _ | apply Drawn0.step)⟩
            ·rw [if_neg c35] at H
             have c35b0 : ((bt a0 x4_1) == 95) = false := beq_eq_false_iff_ne.mpr c35
             have c35b1 : ((bt a0 x4_1) != 95) = true := bne_iff_ne.mpr c35
             have H' := Aside0.mk H
             clear H
             go_wp2
             repeat (go_quiet (fail); try go_wp2)
             go_meet
             case rel => exact ⟨_, (((bt a0 x4_1) == 126)), (by first | rfl | (simp; done) | (simp [*]; done)), H', ⟨by have := HK1.out; first | omega | exact Nat.le_refl _⟩, by repeat (first | exact Drawn0.refl _ | apply Drawn0.step)⟩
       ·rw [if_neg c26] at H
        have c26b0 : decide (65 ≤ (bt a0 x4_1)) = false := decide_eq_false c26
        clear c26
        by_cases c36 : (bt a0 x4_1) ≥ 48
        ·rw [if_pos c36] at H
         have c36b0 : decide (48 ≤ (bt a0 x4_1)) = true := decide_eq_true c36
         clear c36
         by_cases c37 : (bt a0 x4_1) ≤ 57
         ·rw [if_pos c37] at H
          have c37b0 : decide ((bt a0 x4_1) ≤ 57) = true := decide_eq_true c37
          clear c37
          have H' := Aside0.mk H
          clear H
          go_wp2
          repeat (go_quiet (fail); try go_wp2)
          go_meet
          case rel => exact ⟨_, (true), (by first | rfl | (simp; done) | (simp [*]; done)), H', ⟨by have := HK1.out; first | omega | exact Nat.le_refl _⟩, by repeat (first | exact Drawn0.refl _ | apply Drawn0.step)⟩
         ·rw [if_neg c37] at H
          have c37b0 : decide ((bt a0 x4_1) ≤ 57) = false := decide_eq_false c37
          clear c37
          by_cases c38 : (bt a0 x4_1) = 45
          ·rw [if_pos c38] at H
           have c38b0 : ((bt a0 x4_1) == 45) = true := beq_iff_eq.mpr c38
           have c38b1 : ((bt a0 x4_1) != 45) = false := bne_eq_false_iff_eq.mpr c38
           clear c38
           have H' := Aside0.mk H
           clear H
           go_wp2
           repeat (go_quiet (fail); try go_wp2)
           go_meet
           case rel => exact ⟨_, (true), (by first | rfl | (simp; done) | (simp [*]; done)), H', ⟨by have := HK1.out; first | omega | exact Nat.le_refl _⟩, by repeat (first | exact Drawn0.refl _ | apply Drawn0.step)⟩
          ·rw [if_neg c38] at H
           have c38b0 : ((bt a0 x4_1) == 45) = false := beq_eq_false_iff_ne.mpr c38
           have c38b1 : ((bt a0 x4_1) != 45) = true := bne_iff_ne.mpr c38
           by_cases c39 : (bt a0 x4_1) = 46
           ·rw [if_pos c39] at H
            have c39b0 : ((bt a0 x4_1) == 46) = true := beq_iff_eq.mpr c39
            have c39b1 : ((bt a0 x4_1) != 46) = false := bne_eq_false_iff_eq.mpr c39
            clear c39
            have H' := Aside0.mk H
            clear H
            go_wp2
            repeat (go_quiet (fail); try go_wp2)
            go_meet
            case rel => exact ⟨_, (true), (by first | rfl | (simp; done) | (simp [*]; done)), H', ⟨by have := HK1.out; first | omega | exact Nat.le_refl _⟩, by repeat (first | exact Drawn0.refl _ | apply Drawn0.step)⟩
           ·rw [if_neg c39] at H
            have c39b0 : ((bt a0 x4_1) == 46) = false := beq_eq_false_iff_ne.mpr c39
            have c39b1 : ((bt a0 x4_1) != 46) = true := bne_iff_ne.mpr c39
            by_cases c40 : (bt a0 x4_1) = 95
            ·rw [if_pos c40] at H
             have c40b0 : ((bt a0 x4_1) == 95) = true := beq_iff_eq.mpr c40
             have c40b1 : ((bt a0 x4_1) != 95) = false := bne_eq_false_iff_eq.mpr c40
             clear c40
             have H' := Aside0.mk H
             clear H
             go_wp2
             repeat (go_quiet (fail); try go_wp2)
             go_meet
             case rel => exact ⟨_, (true), (by first | rfl | (simp; done) | (simp [*]; done)), H', ⟨by have := HK1.out; first | omega | exact Nat.le_refl _⟩, by repeat (first | exact Drawn0.refl _ | apply Drawn0.step)⟩
            ·rw [if_neg c40] at H
             have c40b0 : ((bt a0 x4_1) == 95) = false := beq_eq_false_iff_ne.mpr c40
             have c40b1 : ((bt a0 x4_1) != 95) = true := bne_iff_ne.mpr c40
             have H' := Aside0.mk H
             clear H
             go_wp2
             repeat (go_quiet (fail); try go_wp2)
             go_meet
             case rel => exact ⟨_, (((bt a0 x4_1) == 126)), (by first | rfl | (simp; done) | (simp [*]; done)), H', ⟨by have := HK1.out; first | omega | exact Nat.le_refl _⟩, by repeat (first | exact Drawn0.refl _ | apply Drawn0.step)⟩
        ·rw [if_neg c36] at H
         have c36b0 : decide (48 ≤ (bt a0 x4_1)) = false := decide_eq_false c36
         clear c36
         by_cases c41 : (bt a0 x4_1) = 45
         ·rw [if_pos c41] at H
          have c41b0 : ((bt a0 x4_1) == 45) = true := beq_iff_eq.mpr c41
          have c41b1 : ((bt a0 x4_1) != 45) = false := bne_eq_false_iff_eq.mpr c41
          clear c41
          have H' := Aside0.mk H
          clear H
          go_wp2
          repeat (go_quiet (fail); try go_wp2)
          go_meet
          case rel => exact ⟨_, (true), (by first | rfl | (simp; done) | (simp [*]; done)), H', ⟨by have := HK1.out; first | omega | exact Nat.le_refl _⟩, by repeat (first | exact Drawn0.refl _ | apply Drawn0.step)⟩
         ·rw [if_neg c41] at H
          have c41b0 : ((bt a0 x4_1) == 45) = false := beq_eq_false_iff_ne.mpr c41
          have c41b1 : ((bt a0 x4_1) != 45) = true := bne_iff_ne.mpr c41
          by_cases c42 : (bt a0 x4_1) = 46
          ·rw [if_pos c42] at H
           have c42b0 : ((bt a0 x4_1) == 46) = true := beq_iff_eq.mpr c42
           have c42b1 : ((bt a0 x4_1) != 46) = false := bne_eq_false_iff_eq.mpr c42
           clear c42
           have H' := Aside0.mk H
           clear H
           go_wp2
           repeat (go_quiet (fail); try go_wp2)
           go_meet
           case rel => exact ⟨_, (true), (by first | rfl | (simp; done) | (simp [*]; done)), H', ⟨by have := HK1.out; first | omega | exact Nat.le_refl _⟩, by repeat (first | exact Drawn0.refl _ | apply Drawn0.step)⟩
          ·rw [if_neg c42] at H
           have c42b0 : ((bt a0 x4_1) == 46) = false := beq_eq_false_iff_ne.mpr c42
           have c42b1 : ((bt a0 x4_1) != 46) = true := bne_iff_ne.mpr c42
           by_cases c43 : (bt a0 x4_1) = 95
           ·rw [if_pos c43] at H
            have c43b0 : ((bt a0 x4_1) == 95) = true := beq_iff_eq.mpr c43
            have c43b1 : ((bt a0 x4_1) != 95) = false := bne_eq_false_iff_eq.mpr c43
            clear c43
            have H' := Aside0.mk H
            clear H
            go_wp2
            repeat (go_quiet (fail); try go_wp2)
            go_meet
            case rel => exact ⟨_, (true), (by first | rfl | (simp; done) | (simp [*]; done)), H', ⟨by have := HK1.out; first | omega | exact Nat.le_refl _⟩, by repeat (first | exact Drawn0.refl _ | apply Drawn0.step)⟩
           ·rw [if_neg c43] at H
            have c43b0 : ((bt a0 x4_1) == 95) = false := beq_eq_false_iff_ne.mpr c43
            have c43b1 : ((bt a0 x4_1) != 95) = true := bne_iff_ne.mpr c43
            have H' := Aside0.mk H
            clear H
            go_wp2
            repeat (go_quiet (fail); try go_wp2)
            go_meet
            case rel => exact ⟨_, (((bt a0 x4_1) == 126)), (by first | rfl | (simp; done) | (simp [*]; done)), H', ⟨by have := HK1.out; first | omega | exact Nat.le_refl _⟩, by repeat (first | exact Drawn0.refl _ | apply Drawn0.step)⟩
     case rest =>
      clear HC5
      try clear c1
      try clear c2
      try clear c2b0
      try clear p2
      try clear c3
      try clear c3b0
      try clear c4
      try clear p4
      try clear q4
      try clear hx4
      try clear c6
      try clear c6b0
      try clear c7
      try clear c7b0
      try clear c8
      try clear c8b0
      try clear c9
      try clear c9b0
      try clear c10
      try clear c10b0
      try clear c11
      try clear c11b0
      try clear c12
      try clear c12b0
      try clear c12b1
      try clear c13
      try clear c13b0
      try clear c13b1
      try clear c14
      try clear c14b0
      try clear c14b1
      try clear c15
      try clear c15b0
      try clear c15b1
      try clear c16
      try clear c16b0
      try clear c16b1
      try clear c17
      try clear c17b0
      try clear c17b1
      try clear c18
      try clear c18b0
      try clear c19
      try clear c19b0
      try clear c20
      try clear c20b0
      try clear c20b1
      try clear c21
      try clear c21b0
      try clear c21b1
      try clear c22
      try clear c22b0
      try clear c22b1
      try clear c23
      try clear c23b0
      try clear c23b1
      try clear c24
      try clear c24b0
      try clear c24b1
      try clear c25
      try clear c25b0
      try clear c25b1
      try clear c26
      try clear c26b0
      try clear c27
      try clear c27b0
      try clear c28
      try clear c28b0
      try clear c29
      try clear c29b0
      try clear c30
      try clear c30b0
      try clear c30b1
      try clear c31
      try clear c31b0
      try clear c31b1
      try clear c32
      try clear c32b0
      try clear c32b1
      try clear c33
      try clear c33b0
      try clear c33b1
      try clear c34
      try clear c34b0
      try clear c34b1
      try clear c35
      try clear c35b0
      try clear c35b1
      try clear c36
      try clear c36b0
      try clear c37
      try clear c37b0
      try clear c38
      try clear c38b0
      try clear c38b1
      try clear c39
      try clear c39b0
      try clear c39b1
      try clear c40
      try clear c40b0
      try clear c40b1
      try clear c41
      try clear c41b0
      try clear c41b1
      try clear c42
      try clear c42b0
      try clear c42b1
      try clear c43
      try clear c43b0
      try clear c43b1
      try clear p4
      try clear q4
      obtain ⟨kq, x52_4, rfl, HA, HJ4, ⟨mc4, rfl⟩⟩ := hcut
      cases kq with
      | zero => exact absurd HA.out (by simp [wicketmanref07_Escape.j1])
      | succ kj4 =>
       have H := HA.out
       clear HA
       simp only [wicketmanref07_Escape.j1] at H
       by_cases c44 : x52_4 = true
       ·subst c44
        rw [if_pos rfl] at H
        by_cases c45 : 0 ≤ x4_1
        ·rw [if_pos c45] at H
         have c45b0 := eq_true c45
         have c45b1 : decide (0 ≤ x4_1) = true := decide_eq_true c45
         clear c45
         by_cases c46 : x4_1 ≤ (wrap64 (x4_1 + 1))
         ·rw [if_pos c46] at H
          have c46b0 := eq_true c46
          have c46b1 : decide (x4_1 ≤ (wrap64 (x4_1 + 1))) = true := decide_eq_true c46
          by_cases c47 : (wrap64 (x4_1 + 1)) ≤ (a0.size : Int)
          ·rw [if_pos c47] at H
           have c47b0 := eq_true c47
           have c47b1 : decide ((wrap64 (x4_1 + 1)) ≤ (a0.size : Int)) = true := decide_eq_true c47
           by_cases c48 : x3_1.size + (a0.extract (x4_1 : Int).toNat ((wrap64 (x4_1 + 1)) : Int).toNat).size ≤ 9223372036854775807
           ·rw [if_pos c48] at H
            have c48b0 := eq_true c48
            have c48b1 : decide (x3_1.size + (a0.extract (x4_1 : Int).toNat ((wrap64 (x4_1 + 1)) : Int).toNat).size ≤ 9223372036854775807) = true := decide_eq_true c48
            try have c48b2 : (9223372036854775807 < x3_1.size + (a0.extract (x4_1 : Int).toNat ((wrap64 (x4_1 + 1)) : Int).toNat).size) = False := eq_false (Nat.not_lt.2 c48)
            have H' := Aside0.mk H
            clear H
            go_wp2
            repeat (go_quiet (fail); try go_wp2)
            go_roundg kj4
            case measure => have := HK1.out; have := HJ4.out; omega
            case rel => exact ⟨(x3_1 ++ (a0.extract (x4_1 : Int).toNat ((wrap64 (x4_1 + 1)) : Int).toNat)), (wrap64 (x4_1 + 1)), (by first | rfl | (simp; done) | (simp [*]; done)), (by first | rfl | (simp; done) | (simp [*]; done)), H', ⟨by have := HK1.out; have := HJ4.out; omega⟩, by repeat (first | exact Drawn0.refl _ | apply Drawn0.step)⟩
           ·rw [if_neg c48] at H
            exact absurd H (by simp)
          ·rw [if_neg c47] at H
           exact absurd H (by simp)
         ·rw [if_neg c46] at H
          exact absurd H (by simp)
        ·rw [if_neg c45] at H
         exact absurd H (by simp)
       ·replace c44 := Bool.eq_false_iff.mpr c44
        subst c44
        rw [if_neg (show ¬ (false = true) by decide)] at H
        by_cases c49 : (bt a0 x4_1) = 32
        ·rw [if_pos c49] at H
         have c49b0 : ((bt a0 x4_1) == 32) = true := beq_iff_eq.mpr c49
         have c49b1 : ((bt a0 x4_1) != 32) = false := bne_eq_false_iff_eq.mpr c49
         clear c49
         by_cases c50 : x3_1.size + 1 ≤ 9223372036854775807
         ·rw [if_pos c50] at H
          have c50b0 := eq_true c50
          have c50b1 : decide (x3_1.size + 1 ≤ 9223372036854775807) = true := decide_eq_true c50
          try have c50b2 : (9223372036854775807 < x3_1.size + 1) = False := eq_false (Nat.not_lt.2 c50)
          have H' := Aside0.mk H
          clear H
          go_wp2
          repeat (go_quiet (fail); try go_wp2)
          go_roundg kj4
          case measure => have := HK1.out; have := HJ4.out; omega
          case rel => exact ⟨(x3_1 ++ (⟨#[43]⟩ : ByteArray)), (wrap64 (x4_1 + 1)), (by first | rfl | (simp; done) | (simp [*]; done)), (by first | rfl | (simp; done) | (simp [*]; done)), H', ⟨by have := HK1.out; have := HJ4.out; omega⟩, by repeat (first | exact Drawn0.refl _ | apply Drawn0.step)⟩
         ·rw [if_neg c50] at H
          exact absurd H (by simp)
        ·rw [if_neg c49] at H
         have c49b0 : ((bt a0 x4_1) == 32) = false := beq_eq_false_iff_ne.mpr c49
         have c49b1 : ((bt a0 x4_1) != 32) = true := bne_iff_ne.mpr c49
         by_cases c51 : x3_1.size + 1 ≤ 9223372036854775807
         ·rw [if_pos c51] at H
          have c51b0 := eq_true c51
          have c51b1 : decide (x3_1.size + 1 ≤ 9223372036854775807) = true := decide_eq_true c51
          try have c51b2 : (9223372036854775807 < x3_1.size + 1) = False := eq_false (Nat.not_lt.2 c51)
          obtain ⟨ji52, hji52⟩ : ∃ j_ : Int, ((Int.tdiv (bt a0 x4_1) 16) % 256) = j_ := ⟨_, rfl⟩
          replace H : (if 0 ≤ (ji52) then (if (ji52) ≤ (((ji52) + 1) % 256) then (if (((ji52) + 1) % 256) ≤ 16 then (if (x3_1 ++ (⟨#[37]⟩ : ByteArray)).size + ((⟨#[48, 49, 50, 51, 52, 53, 54, 55, 56, 57, 65, 66, 67, 68, 69, 70]⟩ : ByteArray).extract ((ji52) : Int).toNat ((((ji52) + 1) % 256) : Int).toNat).size ≤ 9223372036854775807 then (if 0 ≤ (Int.tmod (bt a0 x4_1) 16) then (if (Int.tmod (bt a0 x4_1) 16) ≤ (((Int.tmod (bt a0 x4_1) 16) + 1) % 256) then (if (((Int.tmod (bt a0 x4_1) 16) + 1) % 256) ≤ 16 then (if ((x3_1 ++ (⟨#[37]⟩ : ByteArray)) ++ ((⟨#[48, 49, 50, 51, 52, 53, 54, 55, 56, 57, 65, 66, 67, 68, 69, 70]⟩ : ByteArray).extract ((ji52) : Int).toNat ((((ji52) + 1) % 256) : Int).toNat)).size + ((⟨#[48, 49, 50, 51, 52, 53, 54, 55, 56, 57, 65, 66, 67, 68, 69, 70]⟩ : ByteArray).extract ((Int.tmod (bt a0 x4_1) 16) : Int).toNat ((((Int.tmod (bt a0 x4_1) 16) + 1) % 256) : Int).toNat).size ≤ 9223372036854775807 then (wicketmanref07_Escape.l0 kj4 a0 (((x3_1 ++ (⟨#[37]⟩ : ByteArray)) ++ ((⟨#[48, 49, 50, 51, 52, 53, 54, 55, 56, 57, 65, 66, 67, 68, 69, 70]⟩ : ByteArray).extract ((ji52) : Int).toNat ((((ji52) + 1) % 256) : Int).toNat)) ++ ((⟨#[48, 49, 50, 51, 52, 53, 54, 55, 56, 57, 65, 66, 67, 68, 69, 70]⟩ : ByteArray).extract ((Int.tmod (bt a0 x4_1) 16) : Int).toNat ((((Int.tmod (bt a0 x4_1) 16) + 1) % 256) : Int).toNat)) (wrap64 (x4_1 + 1))) else (none)) else (none)) else (none)) else (none)) else (none)) else (none)) else (none)) else (none)) = some r := by first | (rw [hji52] at H; exact H) | (simp only [hji52] at H ⊢; exact H)
          by_cases c53 : 0 ≤ (ji52)
          ·rw [if_pos c53] at H
           have c53b0 := eq_true c53
           have c53b1 : decide (0 ≤ (ji52)) = true := decide_eq_true c53
           clear c53
           by_cases c54 : (ji52) ≤ (((ji52) + 1) % 256)
           ·rw [if_pos c54] at H
            have c54b0 := eq_true c54
            have c54b1 : decide ((ji52) ≤ (((ji52) + 1) % 256)) = true := decide_eq_true c54
            by_cases c55 : (((ji52) + 1) % 256) ≤ 16
            ·rw [if_pos c55] at H
             have c55b0 := eq_true c55
             have c55b1 : decide ((((ji52) + 1) % 256) ≤ 16) = true := decide_eq_true c55
             obtain ⟨vs0, hvs0⟩ : ∃ v_ : ByteArray, ((⟨#[48, 49, 50, 51, 52, 53, 54, 55, 56, 57, 65, 66, 67, 68, 69, 70]⟩ : ByteArray).extract ((ji52) : Int).toNat ((((ji52) + 1) % 256) : Int).toNat) = v_ := ⟨_, rfl⟩
             simp only [hvs0] at H
             have hzvs0 : 0 ≤ (ji52) := of_decide_eq_true (by assumption)
             have hwvs0 : ((ji52) + 1) % 256 = ji52 + 1 := by omega
             rw [hwvs0] at hvs0
             have huvs0 : IntKind.u8.wrap (ji52 + 1) = ji52 + 1 := by rw [IntKind.wrap_u8]; exact hwvs0
             have hvs0x0 : (ji52 ≤ ji52 + 1) = True := eq_true (by omega)
             have hvs0y0 : decide (ji52 ≤ ji52 + 1) = true := decide_eq_true (by omega)
             have hvs0x1 : (ji52 + 1 ≤ 16) = True := eq_true (by omega)
             have hvs0y1 : decide (ji52 + 1 ≤ 16) = true := decide_eq_true (by omega)
             by_cases c56 : (x3_1 ++ (⟨#[37]⟩ : ByteArray)).size + vs0.size ≤ 9223372036854775807
             ·rw [if_pos c56] at H
              have c56b0 := eq_true c56
              have c56b1 : decide ((x3_1 ++ (⟨#[37]⟩ : ByteArray)).size + vs0.size ≤ 9223372036854775807) = true := decide_eq_true c56
              try have c56b2 : (9223372036854775807 < (x3_1 ++ (⟨#[37]⟩ : ByteArray)).size + vs0.size) = False := eq_false (Nat.not_lt.2 c56)
              obtain ⟨ji57, hji57⟩ : ∃ j_ : Int, (Int.tmod (bt a0 x4_1) 16) = j_ := ⟨_, rfl⟩
              replace H : (if 0 ≤ (ji57) then (if (ji57) ≤ (((ji57) + 1) % 256) then (if (((ji57) + 1) % 256) ≤ 16 then (if ((x3_1 ++ (⟨#[37]⟩ : ByteArray)) ++ vs0).size + ((⟨#[48, 49, 50, 51, 52, 53, 54, 55, 56, 57, 65, 66, 67, 68, 69, 70]⟩ : ByteArray).extract ((ji57) : Int).toNat ((((ji57) + 1) % 256) : Int).toNat).size ≤ 9223372036854775807 then (wicketmanref07_Escape.l0 kj4 a0 (((x3_1 ++ (⟨#[37]⟩ : ByteArray)) ++ vs0) ++ ((⟨#[48, 49, 50, 51, 52, 53, 54, 55, 56, 57, 65, 66, 67, 68, 69, 70]⟩ : ByteArray).extract ((ji57) : Int).toNat ((((ji57) + 1) % 256) : Int).toNat)) (wrap64 (x4_1 + 1))) else (none)) else (none)) else (none)) else (none)) = some r := by first | (rw [hji57] at H; exact H) | (simp only [hji57] at H ⊢; exact H)
              by_cases c58 : 0 ≤ (ji57)
              ·rw [if_pos c58] at H
               have c58b0 := eq_true c58
               have c58b1 : decide (0 ≤ (ji57)) = true := decide_eq_true c58
               clear c58
               by_cases c59 : (ji57) ≤ (((ji57) + 1) % 256)
               ·rw [if_pos c59] at H
                have c59b0 := eq_true c59
                have c59b1 : decide ((ji57) ≤ (((ji57) + 1) % 256)) = true := decide_eq_true c59
                by_cases c60 : (((ji57) + 1) % 256) ≤ 16
                ·rw [if_pos c60] at H
                 have c60b0 := eq_true c60
                 have c60b1 : decide ((((ji57) + 1) % 256) ≤ 16) = true := decide_eq_true c60
                 obtain ⟨vs1, hvs1⟩ : ∃ v_ : ByteArray, ((⟨#[48, 49, 50, 51, 52, 53, 54, 55, 56, 57, 65, 66, 67, 68, 69, 70]⟩ : ByteArray).extract ((ji57) : Int).toNat ((((ji57) + 1) % 256) : Int).toNat) = v_ := ⟨_, rfl⟩
                 simp only [hvs1] at H
                 have hzvs1 : 0 ≤ (ji57) := of_decide_eq_true (by assumption)
                 have hwvs1 : ((ji57) + 1) % 256 = ji57 + 1 := by omega
                 rw [hwvs1] at hvs1
                 have huvs1 : IntKind.u8.wrap (ji57 + 1) = ji57 + 1 := by rw [IntKind.wrap_u8]; exact hwvs1
                 have hvs1x0 : (ji57 ≤ ji57 + 1) = True := eq_true (by omega)
                 have hvs1y0 : decide (ji57 ≤ ji57 + 1) = true := decide_eq_true (by omega)
                 have hvs1x1 : (ji57 + 1 ≤ 16) = True := eq_true (by omega)
                 have hvs1y1 : decide (ji57 + 1 ≤ 16) = true := decide_eq_true (by omega)
                 by_cases c61 : ((x3_1 ++ (⟨#[37]⟩ : ByteArray)) ++ vs0).size + vs1.size ≤ 9223372036854775807
                 ·rw [if_pos c61] at H
                  have c61b0 := eq_true c61
                  have c61b1 : decide (((x3_1 ++ (⟨#[37]⟩ : ByteArray)) ++ vs0).size + vs1.size ≤ 9223372036854775807) = true := decide_eq_true c61
                  try have c61b2 : (9223372036854775807 < ((x3_1 ++ (⟨#[37]⟩ : ByteArray)) ++ vs0).size + vs1.size) = False := eq_false (Nat.not_lt.2 c61)
                  have H' := Aside0.mk H
                  clear H
                  go_wp2
                  repeat (go_quiet (fail); try go_wp2)
                  go_roundg kj4
                  case measure => have := HK1.out; have := HJ4.out; omega
                  case rel => exact ⟨(((x3_1 ++ (⟨#[37]⟩ : ByteArray)) ++ vs0) ++ vs1), (wrap64 (x4_1 + 1)), (by first | rfl | (simp; done) | (simp only [← hji52, ← hji57] <;> (first | rfl | simp)) | (simp [*]; done)), (by first | rfl | (simp; done) | (simp [*]; done)), H', ⟨by have := HK1.out; have := HJ4.out; omega⟩, by repeat (first | exact Drawn0.refl _ | apply Drawn0.step)⟩
                 ·rw [if_neg c61] at H
                  exact absurd H (by simp)
                ·rw [if_neg c60] at H
                 exact absurd H (by simp)
               ·rw [if_neg c59] at H
                exact absurd H (by simp)
              ·rw [if_neg c58] at H
               exact absurd H (by simp)
             ·rw [if_neg c56] at H
              exact absurd H (by simp)
            ·rw [if_neg c55] at H
             exact absurd H (by simp)
           ·rw [if_neg c54] at H
            exact absurd H (by simp)
          ·rw [if_neg c53] at H
           exact absurd H (by simp)
         ·rw [if_neg c51] at H
          exact absurd H (by simp)
    ·rw [if_neg c3] at H
     exact absurd H (by simp)
   ·rw [if_neg c2] at H
    have c2b0 : decide (x4_1 < (a0.size : Int)) = false := decide_eq_false c2
    clear c2
    obtain rfl := Option.some.inj H
    go_wp2
    repeat (go_quiet (fail); try go_wp2)
    go_ret
    exact ⟨by first | rfl | (simp; done) | (simp [*]; done), by repeat (first | exact Drawn0.refl _ | apply Drawn0.step)⟩
end Go.Proofs.YtpfbemcoblganaaDoor.Pall

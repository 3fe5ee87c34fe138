import Derived.Test.YthdiiiopjkaifaaGreatDoorZdPall0
namespace Go.Proofs.YthdiiiopjkaifaaGreatDoor.Pall
open Go.RowKit Go.Proofs.YthdiiiopjkaifaaGreatDoorW.PrintWords Go.Proofs.YthdiiiopjkaifaaGreatDoorW.PrintLast
set_option linter.unusedVariables false
set_option linter.unusedSimpArgs false
def hexa_half.j0 : Nat → Int → Bool → Option (Int × Bool)
 | 0, _, _ => none
 | k + 1, x0, x4 => if x4 = true then (some ((wrap32 (x0 - 48)) % 256, true)) else (if x0 ≥ 97 then (if x0 ≤ 102 then (some ((((wrap32 (x0 - 97)) % 256) + 10) % 256, true)) else (some (0, false))) else (some (0, false)))
def hexa_half.f (k : Nat) (a0 : Int) : Option (Int × Bool) := if a0 ≥ 48 then (hexa_half.j0 k a0 (decide (a0 ≤ 57))) else (hexa_half.j0 k a0 false)
theorem hexa_half.mono_l : ∀ k, (∀ y0 y1, LeO (hexa_half.j0 k y0 y1) (hexa_half.j0 (k + 1) y0 y1))
 | 0 => fun _ _ r h => by simp [hexa_half.j0] at h
 | k + 1 => by
  have ih0 := hexa_half.mono_l k
  ·intro y0 y1
   unfold hexa_half.j0
   repeat' first|(with_reducible first|exact ih0 _ _|exact LeO.refl _|exact LeO.none _|refine LeO.ite ?_ ?_|refine LeO.bind ?_ (fun _ => ?_))|exact LeO.none _|refine LeO.ite ?_ ?_|refine LeO.bind ?_ (fun _ => ?_)
theorem hexa_half.mono : ∀ a0 k, LeO (hexa_half.f k a0) (hexa_half.f (k + 1) a0) := by
 intro a0 k
 have ih0 := hexa_half.mono_l k
 unfold hexa_half.f
 repeat' first|(with_reducible first|exact ih0 _ _|exact LeO.refl _|exact LeO.none _|refine LeO.ite ?_ ?_|refine LeO.bind ?_ (fun _ => ?_))|exact LeO.none _|refine LeO.ite ?_ ?_|refine LeO.bind ?_ (fun _ => ?_)
set_option maxHeartbeats 8000000 in
set_option maxRecDepth 100000 in
theorem hexa_half.calls (k : Nat) (a0 : Int) (r1 : Int) (r2 : Bool) (w : World) (h : hexa_half.f k a0 = some (r1, r2)) :
  Calls Tryz.prog 215 #[.int .i32 a0] w fun e w' => e = .returned (.tuple #[.int .u8 r1, .bool r2]) ∧ Drawn0 w w' := by
 have H : (if a0 ≥ 48 then (hexa_half.j0 k a0 (decide (a0 ≤ 57))) else (hexa_half.j0 k a0 false)) = some (r1, r2) := h
 clear h
 have HC2 := aK H
 clear H
 go_enter Tryz.func215, Tryz.ntmps215
 go_upto_region 1 with (fail)
 go_cut [4] (fun v4 wc => ∃ (kq : Nat) (x4_1 : Bool), v4 = .bool x4_1 ∧ Aside0 (hexa_half.j0 kq a0 x4_1 = some (r1, r2)) ∧ Aside0 (kq ≤ k) ∧ Drawn0 w wc)
 case first =>
  have H := HC2.out
  clear HC2
  by_cases c3 : a0 ≥ 48
  ·rw [if_pos c3] at H
   have c3b0 : decide (48 ≤ a0) = true := decide_eq_true c3
   clear c3
   (first|rw [c3b0]|(simp only [i64_w, i32_w];rw [c3b0])|skip)
   have H' := aK H
   clear H
   go_wp2
   go_meet
   case rel => exact ⟨_, (decide (a0 ≤ 57)), (by first|rfl|(simp;done)|(simp [*];done)), H', ⟨by first|omega|exact Nat.le_refl _⟩, by repeat (first|exact Drawn0.refl _|apply Drawn0.step)⟩
  ·rw [if_neg c3] at H
   have c3b0 : decide (48 ≤ a0) = false := decide_eq_false c3
   clear c3
   (first|rw [c3b0]|(simp only [i64_w, i32_w];rw [c3b0])|skip)
   have H' := aK H
   clear H
   go_wp2
   go_meet
   case rel => exact ⟨_, (false), (by first|rfl|(simp;done)|(simp [*];done)), H', ⟨by first|omega|exact Nat.le_refl _⟩, by repeat (first|exact Drawn0.refl _|apply Drawn0.step)⟩
 case rest =>
  clear HC2
  try clear c2
  try clear p2
  try clear c3
  try clear c3b0
  obtain ⟨kq, x4_1, rfl, HA, HJ1, ⟨mc1, rfl⟩⟩ := hcut
  cases kq with
  | zero => exact absurd HA.out (by simp [hexa_half.j0])
  | succ kj1 =>
   have H := HA.out
   clear HA
   simp only [hexa_half.j0] at H
   by_cases c4 : x4_1 = true
   ·subst c4
    rw [if_pos rfl] at H
    simp only [Option.some.injEq, Prod.mk.injEq] at H
    obtain ⟨rfl, rfl⟩ := H
    go_wp2
    go_ret2
    exact ⟨by first|rfl|(simp;done)|(simp [*];done), by repeat (first|exact Drawn0.refl _|apply Drawn0.step)⟩
   ·replace c4 := Bool.eq_false_iff.mpr c4
    subst c4
    rw [if_neg (show ¬ (false = true) by decide)] at H
    by_cases c5 : a0 ≥ 97
    ·rw [if_pos c5] at H
     have c5b0 : decide (97 ≤ a0) = true := decide_eq_true c5
     clear c5
     by_cases c6 : a0 ≤ 102
     ·rw [if_pos c6] at H
      have c6b0 : decide (a0 ≤ 102) = true := decide_eq_true c6
      clear c6
      simp only [Option.some.injEq, Prod.mk.injEq] at H
      obtain ⟨rfl, rfl⟩ := H
      go_wp2
      go_ret2
      exact ⟨by first|rfl|(simp;done)|(simp [*];done), by repeat (first|exact Drawn0.refl _|apply Drawn0.step)⟩
     ·rw [if_neg c6] at H
      have c6b0 : decide (a0 ≤ 102) = false := decide_eq_false c6
      clear c6
      simp only [Option.some.injEq, Prod.mk.injEq] at H
      obtain ⟨rfl, rfl⟩ := H
      go_wp2
      go_ret2
      exact ⟨by first|rfl|(simp;done)|(simp [*];done), by repeat (first|exact Drawn0.refl _|apply Drawn0.step)⟩
    ·rw [if_neg c5] at H
     have c5b0 : decide (97 ≤ a0) = false := decide_eq_false c5
     clear c5
     simp only [Option.some.injEq, Prod.mk.injEq] at H
     obtain ⟨rfl, rfl⟩ := H
     go_wp2
     go_ret2
     exact ⟨by first|rfl|(simp;done)|(simp [*];done), by repeat (first|exact Drawn0.refl _|apply Drawn0.step)⟩
mutual
def wicketmanref09_Lines.l0 : Nat → List Int → List ByteArray → Int → Int → Option (List ByteArray × Int × Bool)
 | 0, _, _, _, _ => none
 | k + 1, x0, x5, x6, x7 => if (wrap64 (x7 + 1)) < (x0.length : Int) then (if 0 ≤ x7 then (if x7 < (x0.length : Int) then (if (rd x0 x7) = 13 then (if 0 ≤ (wrap64 (x7 + 1)) then (if (rd x0 (wrap64 (x7 + 1))) = 10 then (wicketmanref09_Lines.j1 k x0 x5 x6 x7 (decide (x7 < x6))) else (wicketmanref09_Lines.j1 k x0 x5 x6 x7 true)) else (none)) else (wicketmanref09_Lines.j1 k x0 x5 x6 x7 true)) else (none)) else (none)) else (some (([] : List ByteArray), 0, false))
def wicketmanref09_Lines.j1 : Nat → List Int → List ByteArray → Int → Int → Bool → Option (List ByteArray × Int × Bool)
 | 0, _, _, _, _, _ => none
 | k + 1, x0, x5, x6, x7, x32 => if x32 = true then (wicketmanref09_Lines.l0 k x0 x5 x6 (wrap64 (x7 + 1))) else (if x7 = x6 then (some (x5, wrap64 (x7 + 2), true)) else (if 0 ≤ x6 then (if x6 ≤ x7 then (if x7 ≤ (x0.length : Int) then (if x5.length < 8796093022208 then (wicketmanref09_Lines.l0 k x0 (x5 ++ [strOfNums ((x0.take (x7 : Int).toNat).drop (x6 : Int).toNat)]) (wrap64 (x7 + 2)) (wrap64 (x7 + 1))) else (none)) else (none)) else (none)) else (none)))
end
def wicketmanref09_Lines.f (k : Nat) (l0 : List Int) : Option (List ByteArray × Int × Bool) := wicketmanref09_Lines.l0 k l0 ([] : List ByteArray) 0 0
theorem wicketmanref09_Lines.mono_l : ∀ k, (∀ y0 y1 y2 y3, LeO (wicketmanref09_Lines.l0 k y0 y1 y2 y3) (wicketmanref09_Lines.l0 (k + 1) y0 y1 y2 y3)) ∧ (∀ y0 y1 y2 y3 y4, LeO (wicketmanref09_Lines.j1 k y0 y1 y2 y3 y4) (wicketmanref09_Lines.j1 (k + 1) y0 y1 y2 y3 y4))
 | 0 => ⟨fun _ _ _ _ r h => by simp [wicketmanref09_Lines.l0] at h, fun _ _ _ _ _ r h => by simp [wicketmanref09_Lines.j1] at h⟩
 | k + 1 => by
  obtain ⟨ih0, ih1⟩ := wicketmanref09_Lines.mono_l k
  refine ⟨?_, ?_⟩
  ·intro y0 y1 y2 y3
   unfold wicketmanref09_Lines.l0
   repeat' first|(with_reducible first|exact ih0 _ _ _ _|exact ih1 _ _ _ _ _|exact LeO.refl _|exact LeO.none _|refine LeO.ite ?_ ?_|refine LeO.bind ?_ (fun _ => ?_))|exact LeO.none _|refine LeO.ite ?_ ?_|refine LeO.bind ?_ (fun _ => ?_)
  ·intro y0 y1 y2 y3 y4
   unfold wicketmanref09_Lines.j1
   repeat' first|(with_reducible first|exact ih0 _ _ _ _|exact ih1 _ _ _ _ _|exact LeO.refl _|exact LeO.none _|refine LeO.ite ?_ ?_|refine LeO.bind ?_ (fun _ => ?_))|exact LeO.none _|refine LeO.ite ?_ ?_|refine LeO.bind ?_ (fun _ => ?_)
theorem wicketmanref09_Lines.mono : ∀ a0 k, LeO (wicketmanref09_Lines.f k a0) (wicketmanref09_Lines.f (k + 1) a0) := by
 intro a0 k
 obtain ⟨ih0, ih1⟩ := wicketmanref09_Lines.mono_l k
 unfold wicketmanref09_Lines.f
 repeat' first|(with_reducible first|exact ih0 _ _ _ _|exact ih1 _ _ _ _ _|exact LeO.refl _|exact LeO.none _|refine LeO.ite ?_ ?_|refine LeO.bind ?_ (fun _ => ?_))|exact LeO.none _|refine LeO.ite ?_ ?_|refine LeO.bind ?_ (fun _ => ?_)
set_option maxHeartbeats 8000000 in
set_option maxRecDepth 100000 in
theorem wicketmanref09_Lines.calls (k : Nat) (A0 : Option Addr) (c0 : Nat) (l0 : List Int) (r1 : List ByteArray) (r2 : Int) (r3 : Bool) (w : World) (hr0 : Kd.C (Kd.int .u8) w A0 l0.length l0) (hc0 : l0.length ≤ c0) (h : wicketmanref09_Lines.f k l0 = some (r1, r2, r3)) :
  Calls Tryz.prog 58 #[.slice A0 l0.length c0] w fun e w' => ∃ v0_ : Value, e = .returned (.tuple #[v0_, .int .i64 r2, .bool r3]) ∧ Kd.R Kd.string 9 w' w.heap.size (fun _ => True) v0_ r1 ∧ Below w.heap.size w w' := by
 have HR0 := aK hr0
 have HC0 := aK hc0
 clear hr0 hc0
 have HB := aK (Below.refl w.heap.size w)
 have H : (wicketmanref09_Lines.l0 k l0 ([] : List ByteArray) 0 0) = some (r1, r2, r3) := h
 clear h
 have H' := aK H
 clear H
 go_enter Tryz.func58, Tryz.ntmps58
 go_wp2
 go_loopg [5, 6, 7] k (fun kq v5 v6 v7 w' => ∃ (x5_1 : List ByteArray) (x6_1 : Int) (x7_1 : Int), v6 = .int .i64 x6_1 ∧ v7 = .int .i64 x7_1 ∧ Aside0 (wicketmanref09_Lines.l0 kq l0 x5_1 x6_1 x7_1 = some (r1, r2, r3)) ∧ Aside0 (kq ≤ k) ∧ Aside0 (Kd.R Kd.string 9 w' w.heap.size (fun _ => True) v5 x5_1) ∧ Aside0 (Below w.heap.size w w'))
 case atStart => exact ⟨(([] : List ByteArray)), (0), (0), (by first|rfl|(simp;done)|(simp [*];done)), (by first|rfl|(simp;done)|(simp [*];done)), H', ⟨Nat.le_refl _⟩, ⟨by first|exact Kd.R_nil _ _ _ _ _|exact Kd.N_nil _ _ _ _ _|exact Kd.V_nil _ _ _ _ _|exact Kd.Q_nil _ _ _ _ _|exact Kd.S_nil _ _ _ _ _⟩, ⟨by repeat (first|(with_reducible first|apply bA|apply bN|apply bD)|exact HB.out)⟩⟩
 case round =>
  clear H'
  obtain ⟨x5_1, x6_1, x7_1, rfl, rfl, HA, HK1, HO_5, HB⟩ := hrel
  cases gk with
  | zero => exact absurd HA.out (by simp [wicketmanref09_Lines.l0])
  | succ k1 =>
   have H := HA.out
   clear HA
   simp only [wicketmanref09_Lines.l0] at H
   by_cases c2 : (wrap64 (x7_1 + 1)) < (l0.length : Int)
   ·rw [if_pos c2] at H
    have c2b0 : decide ((wrap64 (x7_1 + 1)) < (l0.length : Int)) = true := decide_eq_true c2
    clear c2
    have HC3 := aK H
    clear H
    go_upto_region 6 with (fail)
    go_cut [32] (fun v32 wc => ∃ (kq : Nat) (x32_2 : Bool), v32 = .bool x32_2 ∧ Aside0 (wicketmanref09_Lines.j1 kq l0 x5_1 x6_1 x7_1 x32_2 = some (r1, r2, r3)) ∧ Aside0 (kq ≤ k1) ∧ Aside0 (Kd.R Kd.string 9 wc w.heap.size (fun _ => True) u5 x5_1) ∧ Aside0 (Below w.heap.size w wc))
    case first =>
     have H := HC3.out
     clear HC3
     by_cases c4 : 0 ≤ x7_1
     ·rw [if_pos c4] at H
      have c4b0 : decide (0 ≤ x7_1) = true := decide_eq_true c4
      clear c4
      (first|rw [c4b0]|(simp only [i64_w, i32_w];rw [c4b0])|skip)
      by_cases c5 : x7_1 < (l0.length : Int)
      ·rw [if_pos c5] at H
       have c5b0 : decide (x7_1 < (l0.length : Int)) = true := decide_eq_true c5
       clear c5
       by_cases c6 : (rd l0 x7_1) = 13
       ·rw [if_pos c6] at H
        have c6b0 : ((rd l0 x7_1) == 13) = true := beq_iff_eq.mpr c6
        have c6b1 : ((rd l0 x7_1) != 13) = false := bne_eq_false_iff_eq.mpr c6
        clear c6
        obtain ⟨ji7, hji7⟩ : ∃ j_ : Int, (wrap64 (x7_1 + 1)) = j_ := ⟨_, rfl⟩
        replace H : (if 0 ≤ (ji7) then (if (rd l0 (ji7)) = 10 then (wicketmanref09_Lines.j1 k1 l0 x5_1 x6_1 x7_1 (decide (x7_1 < x6_1))) else (wicketmanref09_Lines.j1 k1 l0 x5_1 x6_1 x7_1 true)) else (none)) = some (r1, r2, r3) := by first|(rw [hji7] at H;exact H)|(simp only [hji7] at H ⊢;exact H)
        (try rw [hji7] at c2b0)
        have hji7w : (IntKind.i64.wrap (x7_1 + 1)) = ji7 := (i64_w _).trans hji7
        by_cases c8 : 0 ≤ (ji7)
        ·rw [if_pos c8] at H
         have c8b0 : decide (0 ≤ (ji7)) = true := decide_eq_true c8
         clear c8
         by_cases c9 : (rd l0 (ji7)) = 10
         ·rw [if_pos c9] at H
          have c9b0 : ((rd l0 (ji7)) == 10) = true := beq_iff_eq.mpr c9
          have c9b1 : ((rd l0 (ji7)) != 10) = false := bne_eq_false_iff_eq.mpr c9
          clear c9
          have H' := aK H
          clear H
          have p187 : 0 ≤ (x7_1 : Int) := of_decide_eq_true (by first|(with_reducible assumption)|assumption)
          have q187 : x7_1 < (l0.length : Int) := of_decide_eq_true (by first|(with_reducible assumption)|assumption)
          obtain ⟨ad187, e187, hx187_0⟩ := Kd.at_int HR0.out x7_1 p187 q187
          cases e187
          replace hx187_0 := (HB.out.cell (World.block_lt_of_cell? w _ hx187_0)).trans hx187_0
          replace p187 := eq_true p187
          replace q187 := eq_true q187
          have p188 : 0 ≤ ((ji7) : Int) := of_decide_eq_true (by first|(with_reducible assumption)|assumption)
          have q188 : (ji7) < (l0.length : Int) := of_decide_eq_true (by first|(with_reducible assumption)|assumption)
          obtain ⟨ad188, e188, hx188_0⟩ := Kd.at_int HR0.out (ji7) p188 q188
          obtain rfl : ad187 = ad188 := (by injection e188)
          replace hx188_0 := (HB.out.cell (World.block_lt_of_cell? w _ hx188_0)).trans hx188_0
          replace p188 := eq_true p188
          replace q188 := eq_true q188
          go_wp2
          go_meet
          case rel => exact ⟨_, (decide (x7_1 < x6_1)), (by first|rfl|(simp;done)|(simp [*];done)), H', ⟨by have := HK1.out;first|omega|exact Nat.le_refl _⟩, ⟨by (with_reducible repeat (first|apply Kd.R_alloc|apply Kd.R_drewN|apply Kd.R_drew));exact HO_5.out⟩, ⟨by repeat (first|(with_reducible first|apply bA|apply bN|apply bD)|exact HB.out)⟩⟩
         ·rw [if_neg c9] at H
          have c9b0 : ((rd l0 (ji7)) == 10) = false := beq_eq_false_iff_ne.mpr c9
          have c9b1 : ((rd l0 (ji7)) != 10) = true := bne_iff_ne.mpr c9
          have H' := aK H
          clear H
          have p187 : 0 ≤ (x7_1 : Int) := of_decide_eq_true (by first|(with_reducible assumption)|assumption)
          have q187 : x7_1 < (l0.length : Int) := of_decide_eq_true (by first|(with_reducible assumption)|assumption)
          obtain ⟨ad187, e187, hx187_0⟩ := Kd.at_int HR0.out x7_1 p187 q187
          cases e187
          replace hx187_0 := (HB.out.cell (World.block_lt_of_cell? w _ hx187_0)).trans hx187_0
          replace p187 := eq_true p187
          replace q187 := eq_true q187
          have p188 : 0 ≤ ((ji7) : Int) := of_decide_eq_true (by first|(with_reducible assumption)|assumption)
          have q188 : (ji7) < (l0.length : Int) := of_decide_eq_true (by first|(with_reducible assumption)|assumption)
          obtain ⟨ad188, e188, hx188_0⟩ := Kd.at_int HR0.out (ji7) p188 q188
          obtain rfl : ad187 = ad188 := (by injection e188)
          replace hx188_0 := (HB.out.cell (World.block_lt_of_cell? w _ hx188_0)).trans hx188_0
          replace p188 := eq_true p188
          replace q188 := eq_true q188
          go_wp2
          go_meet
          case rel => exact ⟨_, (true), (by first|rfl|(simp;done)|(simp [*];done)), H', ⟨by have := HK1.out;first|omega|exact Nat.le_refl _⟩, ⟨by (with_reducible repeat (first|apply Kd.R_alloc|apply Kd.R_drewN|apply Kd.R_drew));exact HO_5.out⟩, ⟨by repeat (first|(with_reducible first|apply bA|apply bN|apply bD)|exact HB.out)⟩⟩
        ·rw [if_neg c8] at H
         exact absurd H (by simp)
       ·rw [if_neg c6] at H
        have c6b0 : ((rd l0 x7_1) == 13) = false := beq_eq_false_iff_ne.mpr c6
        have c6b1 : ((rd l0 x7_1) != 13) = true := bne_iff_ne.mpr c6
        have H' := aK H
        clear H
        have p187 : 0 ≤ (x7_1 : Int) := of_decide_eq_true (by first|(with_reducible assumption)|assumption)
        have q187 : x7_1 < (l0.length : Int) := of_decide_eq_true (by first|(with_reducible assumption)|assumption)
        obtain ⟨ad187, e187, hx187_0⟩ := Kd.at_int HR0.out x7_1 p187 q187
        cases e187
        replace hx187_0 := (HB.out.cell (World.block_lt_of_cell? w _ hx187_0)).trans hx187_0
        replace p187 := eq_true p187
        replace q187 := eq_true q187
        go_wp2
        go_meet
        case rel => exact ⟨_, (true), (by first|rfl|(simp;done)|(simp [*];done)), H', ⟨by have := HK1.out;first|omega|exact Nat.le_refl _⟩, ⟨by (with_reducible repeat (first|apply Kd.R_alloc|apply Kd.R_drewN|apply Kd.R_drew));exact HO_5.out⟩, ⟨by repeat (first|(with_reducible first|apply bA|apply bN|apply bD)|exact HB.out)⟩⟩
      ·rw [if_neg c5] at H
       exact absurd H (by simp)
     ·rw [if_neg c4] at H
      exact absurd H (by simp)
    case rest =>
     clear HC3
     try clear p1
     try clear q1
     try clear hx1
     try clear c2
     try clear c2b0
     try clear p2
     try clear c4
     try clear c4b0
     try clear c5
     try clear c5b0
     try clear c6
     try clear c6b0
     try clear c6b1
     try clear p6
     try clear c8
     try clear c8b0
     try clear c9
     try clear c9b0
     try clear c9b1
     try clear hx187_0
     try clear hx188_0
     try clear p187
     try clear p188
     try clear q187
     try clear q188
     obtain ⟨kq, x32_2, rfl, HA, HJ2, HO_5, HB⟩ := hcut
     cases kq with
     | zero => exact absurd HA.out (by simp [wicketmanref09_Lines.j1])
     | succ kj2 =>
      have H := HA.out
      clear HA
      simp only [wicketmanref09_Lines.j1] at H
      by_cases c10 : x32_2 = true
      ·subst c10
       rw [if_pos rfl] at H
       have H' := aK H
       clear H
       go_wp2
       go_roundg kj2
       case measure => have := HK1.out;have := HJ2.out;omega
       case rel => exact ⟨(x5_1), (x6_1), (wrap64 (x7_1 + 1)), (by first|rfl|(simp;done)|(simp [*];done)), (by first|rfl|(simp;done)|(simp [*];done)), H', ⟨by have := HK1.out;have := HJ2.out;omega⟩, ⟨by (with_reducible repeat (first|apply Kd.R_alloc|apply Kd.R_drewN|apply Kd.R_drew));exact HO_5.out⟩, ⟨by repeat (first|(with_reducible first|apply bA|apply bN|apply bD)|exact HB.out)⟩⟩
      ·replace c10 := Bool.eq_false_iff.mpr c10
       subst c10
       rw [if_neg (show ¬ (false = true) by decide)] at H
       by_cases c11 : x7_1 = x6_1
       ·rw [if_pos c11] at H
        have c11b0 : (x7_1 == x6_1) = true := beq_iff_eq.mpr c11
        have c11b1 : (x7_1 != x6_1) = false := bne_eq_false_iff_eq.mpr c11
        clear c11
        simp only [Option.some.injEq, Prod.mk.injEq] at H
        obtain ⟨rfl, rfl, rfl⟩ := H
        go_wp2
        go_ret3
        exact ⟨_, by first|rfl|(simp [errW_none, errW_some] <;> rfl)|(simp [*, errW_none, errW_some] <;> rfl), by (with_reducible repeat (first|apply Kd.R_alloc|apply Kd.R_drewN|apply Kd.R_drew));exact HO_5.out, by repeat (first|(with_reducible first|apply bA|apply bN|apply bD)|exact HB.out)⟩
       ·rw [if_neg c11] at H
        have c11b0 : (x7_1 == x6_1) = false := beq_eq_false_iff_ne.mpr c11
        have c11b1 : (x7_1 != x6_1) = true := bne_iff_ne.mpr c11
        by_cases c12 : 0 ≤ x6_1
        ·rw [if_pos c12] at H
         have c12b0 := eq_true c12
         have c12b1 : decide (0 ≤ x6_1) = true := decide_eq_true c12
         clear c12
         by_cases c13 : x6_1 ≤ x7_1
         ·rw [if_pos c13] at H
          have c13b0 := eq_true c13
          have c13b1 : decide (x6_1 ≤ x7_1) = true := decide_eq_true c13
          clear c13
          by_cases c14 : x7_1 ≤ (l0.length : Int)
          ·rw [if_pos c14] at H
           have c14b0 := eq_true c14
           have c14b1 : decide (x7_1 ≤ (l0.length : Int)) = true := decide_eq_true c14
           clear c14
           by_cases c15 : x5_1.length < 8796093022208
           ·rw [if_pos c15] at H
            have LMc15 := aK c15
            clear c15
            obtain ⟨y190, hy190⟩ : ∃ y_ : List ByteArray, y_ = (x5_1 ++ [strOfNums ((l0.take (x7_1 : Int).toNat).drop (x6_1 : Int).toNat)]) := ⟨_, rfl⟩
            replace H : (wicketmanref09_Lines.l0 kj2 l0 y190 (wrap64 (x7_1 + 2)) (wrap64 (x7_1 + 1))) = some (r1, r2, r3) := by first|(rw [hy190];with_reducible exact H)|(have H2_ := (Option.bind_some _ _).symm.trans H;rw [hy190];with_reducible exact H2_)|(have H2_ := (Option.bind_some _ _).symm.trans H;with_reducible exact H2_)|with_reducible exact H|(rw [hy190];exact H)|exact H
            have Ny190 := aK hy190
            clear hy190
            have H' := aK H
            clear H
            obtain ⟨i016, hi016, _, hsz16, _⟩ := info_parts info5
            obtain ⟨A16, hcut16, hA16, hC16⟩ := print_mid_of (P := Tryz.prog) (Value.int .u8) 0 23 5 .i64 .i64 Tryz.underlying23 hi016 hsz16 A0 c0 l0 x6_1 x7_1 (of_decide_eq_true (by first|(with_reducible assumption)|assumption)) (by first|omega|exact of_decide_eq_true (by first|(with_reducible assumption)|assumption)) (of_decide_eq_true (by first|(with_reducible assumption)|assumption)) HC0.out
            have HR189 := aK (Kd.C_of_reads (h1 := fun _ => rfl) (hA16 _ (Kd.reads_of_C HR0.out)))
            have HC189 := aK hC16
            clear hA16 hC16 hi016 hsz16
            have hcv17 := Kd.C_string (P := Tryz.prog) (A := A16) (c := (c0 - x6_1.toNat)) Tryz.underlying23 Tryz.underlying5 Tryz.underlying9 (Kd.C_below HR189.out HB.out)
            have hcv17n := fun n_ : Nat => Kd.C_string (P := Tryz.prog) (A := A16) (c := (c0 - x6_1.toNat)) Tryz.underlying23 Tryz.underlying5 Tryz.underlying9 (Kd.C_drewN (Kd.C_below HR189.out HB.out) n_)
            have hcv17l : ((l0.take (x7_1 : Int).toNat).drop (x6_1 : Int).toNat).length = x7_1.toNat - x6_1.toNat := by rw [List.length_drop, List.length_take];have h_ : (x7_1 : Int) ≤ (l0.length : Int) := of_decide_eq_true (by first|(with_reducible assumption)|assumption);omega
            rw [hcv17l] at hcv17
            simp only [hcv17l] at hcv17n
            clear hcv17l
            go_wp2_with (first|((with_reducible refine gate_builtin (b := .append) (xs := #[.tmp 39, .tmp 45]) rfl ?_);at_builtin;refine Kd.R_append Kd.string (w0 := w) w.heap.size rfl (.tmp 39) (.tmp 45) 33 9 (.string ⟨#[]⟩) 16 rfl Tryz.underlying33 info9 rfl (by decide) (by omega) u5 x5_1 (strOfNums ((l0.take (x7_1 : Int).toNat).drop (x6_1 : Int).toNat)) [.string (strOfNums ((l0.take (x7_1 : Int).toNat).drop (x6_1 : Int).toNat))] (fun _ => True) (fun _ => False) rfl rfl ?aP (fun _ hk => hk.elim) ?aF ?aO ?aB ?aS ?aL ?_;(case aP => exact rfl);(case aB => exact (by repeat (first|(with_reducible first|apply bA|apply bN|apply bD)|exact HB.out)));(case aF => exact (fun _ _ => trivial));(case aO => exact (by (with_reducible repeat (first|apply Kd.R_alloc|apply Kd.R_drewN|apply Kd.R_drew));exact HO_5.out));(case aS => exact (below_size (by repeat (first|(with_reducible first|apply bA|apply bN|apply bD)|exact HB.out))));(case aL => have := LMc15.out;omega);intro v191 w18 ho hb hg hat;rw [← Ny190.out] at ho;have n0_ := aK (hb);have n1_ := aK (ho);clear HB;clear HO_5;have HB := n0_;have HO192 := n1_;clear n0_ n1_;clear ho hb hg hat))
            go_roundg kj2
            case measure => have := HK1.out;have := HJ2.out;omega
            case rel => exact ⟨(y190), (wrap64 (x7_1 + 2)), (wrap64 (x7_1 + 1)), (by first|rfl|(simp;done)|(simp [*];done)), (by first|rfl|(simp;done)|(simp [*];done)), H', ⟨by have := HK1.out;have := HJ2.out;omega⟩, ⟨by (with_reducible repeat (first|apply Kd.R_alloc|apply Kd.R_drewN|apply Kd.R_drew));exact HO192.out⟩, ⟨by repeat (first|(with_reducible first|apply bA|apply bN|apply bD)|exact HB.out)⟩⟩
           ·rw [if_neg c15] at H
            exact absurd H (by simp)
          ·rw [if_neg c14] at H
           exact absurd H (by simp)
         ·rw [if_neg c13] at H
          exact absurd H (by simp)
        ·rw [if_neg c12] at H
         exact absurd H (by simp)
   ·rw [if_neg c2] at H
    have c2b0 : decide ((wrap64 (x7_1 + 1)) < (l0.length : Int)) = false := decide_eq_false c2
    clear c2
    simp only [Option.some.injEq, Prod.mk.injEq] at H
    obtain ⟨rfl, rfl, rfl⟩ := H
    go_wp2
    go_ret3
    exact ⟨_, by first|rfl|(simp [errW_none, errW_some] <;> rfl)|(simp [*, errW_none, errW_some] <;> rfl), by first|exact Kd.R_nil _ _ _ _ _|exact Kd.N_nil _ _ _ _ _|exact Kd.V_nil _ _ _ _ _|exact Kd.Q_nil _ _ _ _ _|exact Kd.S_nil _ _ _ _ _, by repeat (first|(with_reducible first|apply bA|apply bN|apply bD)|exact HB.out)⟩
mutual
def wicketmanref01_Decimal.j0 : Nat → ByteArray → Int → Bool → Option (Int × Bool)
 | 0, _, _, _ => none
 | k + 1, x0, x1, x15 => if x15 = true then (some (0, false)) else (wicketmanref01_Decimal.l0 k x0 x1 0 0)
def wicketmanref01_Decimal.l0 : Nat → ByteArray → Int → Int → Int → Option (Int × Bool)
 | 0, _, _, _, _ => none
 | k + 1, x0, x1, x6, x7 => if x7 < (x0.size : Int) then (if 0 ≤ x7 then (if (bt x0 x7) < 48 then (some (0, false)) else (if (bt x0 x7) > 57 then (some (0, false)) else (wicketmanref01_Decimal.l0 k x0 x1 (wrap64 ((wrap64 (10 * x6)) + (((bt x0 x7) - 48) % 256))) (wrap64 (x7 + 1))))) else (none)) else (if x6 > x1 then (some (0, false)) else (some (x6, true)))
end
def wicketmanref01_Decimal.f (k : Nat) (a0 : ByteArray) (a1 : Int) : Option (Int × Bool) := if (a0.size : Int) < 1 then (wicketmanref01_Decimal.j0 k a0 a1 true) else (wicketmanref01_Decimal.j0 k a0 a1 (decide ((a0.size : Int) > 9)))
theorem wicketmanref01_Decimal.mono_l : ∀ k, (∀ y0 y1 y2, LeO (wicketmanref01_Decimal.j0 k y0 y1 y2) (wicketmanref01_Decimal.j0 (k + 1) y0 y1 y2)) ∧ (∀ y0 y1 y2 y3, LeO (wicketmanref01_Decimal.l0 k y0 y1 y2 y3) (wicketmanref01_Decimal.l0 (k + 1) y0 y1 y2 y3))
 | 0 => ⟨fun _ _ _ r h => by simp [wicketmanref01_Decimal.j0] at h, fun _ _ _ _ r h => by simp [wicketmanref01_Decimal.l0] at h⟩
 | k + 1 => by
  obtain ⟨ih0, ih1⟩ := wicketmanref01_Decimal.mono_l k
  refine ⟨?_, ?_⟩
  ·intro y0 y1 y2
   unfold wicketmanref01_Decimal.j0
   repeat' first|(with_reducible first|exact ih0 _ _ _|exact ih1 _ _ _ _|exact LeO.refl _|exact LeO.none _|refine LeO.ite ?_ ?_|refine LeO.bind ?_ (fun _ => ?_))|exact LeO.none _|refine LeO.ite ?_ ?_|refine LeO.bind ?_ (fun _ => ?_)
  ·intro y0 y1 y2 y3
   unfold wicketmanref01_Decimal.l0
   repeat' first|(with_reducible first|exact ih0 _ _ _|exact ih1 _ _ _ _|exact LeO.refl _|exact LeO.none _|refine LeO.ite ?_ ?_|refine LeO.bind ?_ (fun _ => ?_))|exact LeO.none _|refine LeO.ite ?_ ?_|refine LeO.bind ?_ (fun _ => ?_)
theorem wicketmanref01_Decimal.mono : ∀ a0 a1 k, LeO (wicketmanref01_Decimal.f k a0 a1) (wicketmanref01_Decimal.f (k + 1) a0 a1) := by
 intro a0 a1 k
 obtain ⟨ih0, ih1⟩ := wicketmanref01_Decimal.mono_l k
 unfold wicketmanref01_Decimal.f
 repeat' first|(with_reducible first|exact ih0 _ _ _|exact ih1 _ _ _ _|exact LeO.refl _|exact LeO.none _|refine LeO.ite ?_ ?_|refine LeO.bind ?_ (fun _ => ?_))|exact LeO.none _|refine LeO.ite ?_ ?_|refine LeO.bind ?_ (fun _ => ?_)
set_option maxHeartbeats 8000000 in
set_option maxRecDepth 100000 in
theorem wicketmanref01_Decimal.calls (k : Nat) (a0 : ByteArray) (a1 : Int) (r1 : Int) (r2 : Bool) (w : World) (h : wicketmanref01_Decimal.f k a0 a1 = some (r1, r2)) :
  Calls Tryz.prog 59 #[.string a0, .int .i64 a1] w fun e w' => e = .returned (.tuple #[.int .i64 r1, .bool r2]) ∧ Drawn0 w w' := by
 have H : (if (a0.size : Int) < 1 then (wicketmanref01_Decimal.j0 k a0 a1 true) else (wicketmanref01_Decimal.j0 k a0 a1 (decide ((a0.size : Int) > 9)))) = some (r1, r2) := h
 clear h
 have HC3 := aK H
 clear H
 go_enter Tryz.func59, Tryz.ntmps59
 go_upto_region 1 with (fail)
 go_cut [15] (fun v15 wc => ∃ (kq : Nat) (x15_2 : Bool), v15 = .bool x15_2 ∧ Aside0 (wicketmanref01_Decimal.j0 kq a0 a1 x15_2 = some (r1, r2)) ∧ Aside0 (kq ≤ k) ∧ Drawn0 w wc)
 case first =>
  have H := HC3.out
  clear HC3
  by_cases c4 : (a0.size : Int) < 1
  ·rw [if_pos c4] at H
   have c4b0 : decide ((a0.size : Int) < 1) = true := decide_eq_true c4
   have c4b1 : decide (a0.size < 1) = true := decide_eq_true (by omega)
   clear c4
   (first|rw [c4b0]|(simp only [i64_w, i32_w];rw [c4b0])|skip)
   have H' := aK H
   clear H
   go_wp2
   go_meet
   case rel => exact ⟨_, (true), (by first|rfl|(simp;done)|(simp [*];done)), H', ⟨by first|omega|exact Nat.le_refl _⟩, by repeat (first|exact Drawn0.refl _|apply Drawn0.step)⟩
  ·rw [if_neg c4] at H
   have c4b0 : decide ((a0.size : Int) < 1) = false := decide_eq_false c4
   have c4b1 : decide (a0.size < 1) = false := decide_eq_false (by omega)
   clear c4
   (first|rw [c4b0]|(simp only [i64_w, i32_w];rw [c4b0])|skip)
   have H' := aK H
   clear H
   go_wp2
   go_meet
   case rel => exact ⟨_, (decide ((a0.size : Int) > 9)), (by first|rfl|(simp;done)|(simp [*];done)), H', ⟨by first|omega|exact Nat.le_refl _⟩, by repeat (first|exact Drawn0.refl _|apply Drawn0.step)⟩
 case rest =>
  clear HC3
  try clear p2
  try clear c4
  try clear c4b0
  try clear c4b1
  obtain ⟨kq, x15_2, rfl, HA, HJ2, ⟨mc2, rfl⟩⟩ := hcut
  cases kq with
  | zero => exact absurd HA.out (by simp [wicketmanref01_Decimal.j0])
  | succ kj2 =>
   have H := HA.out
   clear HA
   simp only [wicketmanref01_Decimal.j0] at H
   by_cases c5 : x15_2 = true
   ·subst c5
    rw [if_pos rfl] at H
    simp only [Option.some.injEq, Prod.mk.injEq] at H
    obtain ⟨rfl, rfl⟩ := H
    go_wp2
    go_ret2
    exact ⟨by first|rfl|(simp;done)|(simp [*];done), by repeat (first|exact Drawn0.refl _|apply Drawn0.step)⟩
   ·replace c5 := Bool.eq_false_iff.mpr c5
    subst c5
    rw [if_neg (show ¬ (false = true) by decide)] at H
    have H' := aK H
    clear H
    go_wp2
    go_loopg [6, 7] kj2 (fun kq v6 v7 w' => ∃ (x6_2 : Int) (x7_2 : Int), v6 = .int .i64 x6_2 ∧ v7 = .int .i64 x7_2 ∧ Aside0 (wicketmanref01_Decimal.l0 kq a0 a1 x6_2 x7_2 = some (r1, r2)) ∧ Aside0 (kq ≤ kj2) ∧ Drawn0 w w')
    case atStart => exact ⟨(0), (0), (by first|rfl|(simp;done)|(simp [*];done)), (by first|rfl|(simp;done)|(simp [*];done)), H', ⟨Nat.le_refl _⟩, by repeat (first|exact Drawn0.refl _|apply Drawn0.step)⟩
    case round =>
     clear H'
     try clear c2
     try clear p2
     try clear c4
     try clear c4b0
     try clear c4b1
     try clear c5
     try clear p2
     obtain ⟨x6_2, x7_2, rfl, rfl, HA, HK2, ⟨m2, rfl⟩⟩ := hrel
     cases gk with
     | zero => exact absurd HA.out (by simp [wicketmanref01_Decimal.l0])
     | succ k2 =>
      have H := HA.out
      clear HA
      simp only [wicketmanref01_Decimal.l0] at H
      by_cases c6 : x7_2 < (a0.size : Int)
      ·rw [if_pos c6] at H
       have c6b0 : decide (x7_2 < (a0.size : Int)) = true := decide_eq_true c6
       clear c6
       by_cases c7 : 0 ≤ x7_2
       ·rw [if_pos c7] at H
        have c7b0 : decide (0 ≤ x7_2) = true := decide_eq_true c7
        clear c7
        by_cases c9 : (bt a0 x7_2) < 48
        ·rw [if_pos c9] at H
         have c9b0 : decide ((bt a0 x7_2) < 48) = true := decide_eq_true c9
         clear c9
         simp only [Option.some.injEq, Prod.mk.injEq] at H
         obtain ⟨rfl, rfl⟩ := H
         have p8 : 0 ≤ (x7_2 : Int) := of_decide_eq_true (by first|(with_reducible assumption)|assumption)
         have q8 : x7_2 < (a0.size : Int) := of_decide_eq_true (by first|(with_reducible assumption)|assumption)
         have hx8 := bt_at a0 x7_2
         replace p8 := eq_true p8
         replace q8 := eq_true q8
         go_wp2
         go_ret2
         exact ⟨by first|rfl|(simp;done)|(simp [*];done), by repeat (first|exact Drawn0.refl _|apply Drawn0.step)⟩
        ·rw [if_neg c9] at H
         have c9b0 : decide ((bt a0 x7_2) < 48) = false := decide_eq_false c9
         clear c9
         by_cases c11 : (bt a0 x7_2) > 57
         ·rw [if_pos c11] at H
          have c11b0 : decide (57 < (bt a0 x7_2)) = true := decide_eq_true c11
          clear c11
          simp only [Option.some.injEq, Prod.mk.injEq] at H
          obtain ⟨rfl, rfl⟩ := H
          have p8 : 0 ≤ (x7_2 : Int) := of_decide_eq_true (by first|(with_reducible assumption)|assumption)
          have q8 : x7_2 < (a0.size : Int) := of_decide_eq_true (by first|(with_reducible assumption)|assumption)
          have hx8 := bt_at a0 x7_2
          replace p8 := eq_true p8
          replace q8 := eq_true q8
          have p10 : 0 ≤ (x7_2 : Int) := of_decide_eq_true (by first|(with_reducible assumption)|assumption)
          have q10 : x7_2 < (a0.size : Int) := of_decide_eq_true (by first|(with_reducible assumption)|assumption)
          have hx10 := bt_at a0 x7_2
          replace p10 := eq_true p10
          replace q10 := eq_true q10
          go_wp2
          go_ret2
          exact ⟨by first|rfl|(simp;done)|(simp [*];done), by repeat (first|exact Drawn0.refl _|apply Drawn0.step)⟩
         ·rw [if_neg c11] at H
          have c11b0 : decide (57 < (bt a0 x7_2)) = false := decide_eq_false c11
          clear c11
          have H' := aK H
          clear H
          have p8 : 0 ≤ (x7_2 : Int) := of_decide_eq_true (by first|(with_reducible assumption)|assumption)
          have q8 : x7_2 < (a0.size : Int) := of_decide_eq_true (by first|(with_reducible assumption)|assumption)
          have hx8 := bt_at a0 x7_2
          replace p8 := eq_true p8
          replace q8 := eq_true q8
          have p10 : 0 ≤ (x7_2 : Int) := of_decide_eq_true (by first|(with_reducible assumption)|assumption)
          have q10 : x7_2 < (a0.size : Int) := of_decide_eq_true (by first|(with_reducible assumption)|assumption)
          have hx10 := bt_at a0 x7_2
          replace p10 := eq_true p10
          replace q10 := eq_true q10
          have p12 : 0 ≤ (x7_2 : Int) := of_decide_eq_true (by first|(with_reducible assumption)|assumption)
          have q12 : x7_2 < (a0.size : Int) := of_decide_eq_true (by first|(with_reducible assumption)|assumption)
          have hx12 := bt_at a0 x7_2
          replace p12 := eq_true p12
          replace q12 := eq_true q12
          go_wp2
          go_roundg k2
          case measure => have := HJ2.out;have := HK2.out;omega
          case rel => exact ⟨(wrap64 ((wrap64 (10 * x6_2)) + (((bt a0 x7_2) - 48) % 256))), (wrap64 (x7_2 + 1)), (by first|rfl|(simp;done)|(simp [*];done)), (by first|rfl|(simp;done)|(simp [*];done)), H', ⟨by have := HJ2.out;have := HK2.out;omega⟩, by repeat (first|exact Drawn0.refl _|apply Drawn0.step)⟩
       ·rw [if_neg c7] at H
        exact absurd H (by simp)
      ·rw [if_neg c6] at H
       have c6b0 : decide (x7_2 < (a0.size : Int)) = false := decide_eq_false c6
       clear c6
       by_cases c13 : x6_2 > a1
       ·rw [if_pos c13] at H
        have c13b0 : decide (a1 < x6_2) = true := decide_eq_true c13
        clear c13
        simp only [Option.some.injEq, Prod.mk.injEq] at H
        obtain ⟨rfl, rfl⟩ := H
        go_wp2
        go_ret2
        exact ⟨by first|rfl|(simp;done)|(simp [*];done), by repeat (first|exact Drawn0.refl _|apply Drawn0.step)⟩
       ·rw [if_neg c13] at H
        have c13b0 : decide (a1 < x6_2) = false := decide_eq_false c13
        clear c13
        simp only [Option.some.injEq, Prod.mk.injEq] at H
        obtain ⟨rfl, rfl⟩ := H
        go_wp2
        go_ret2
        exact ⟨by first|rfl|(simp;done)|(simp [*];done), by repeat (first|exact Drawn0.refl _|apply Drawn0.step)⟩
def wicketmanref08_blank.f (a0 : Int) : Option (Bool) := if a0 = 32 then (some true) else (some (a0 == 9))
set_option maxHeartbeats 8000000 in
set_option maxRecDepth 100000 in
theorem wicketmanref08_blank.calls (a0 : Int) (r : Bool) (w : World) (h : wicketmanref08_blank.f a0 = some r) :
  Calls Tryz.prog 164 #[.int .u8 a0] w fun e w' => e = .returned (.bool r) ∧ Drawn0 w w' := by
 have H : (if a0 = 32 then (some true) else (some (a0 == 9))) = some r := h
 clear h
 by_cases c2 : a0 = 32
 ·rw [if_pos c2] at H
  have c2b0 : (a0 == 32) = true := beq_iff_eq.mpr c2
  have c2b1 : (a0 != 32) = false := bne_eq_false_iff_eq.mpr c2
  clear c2
  obtain rfl := Option.some.inj H
  go_enter Tryz.func164, Tryz.ntmps164
  go_wp2
  go_ret
  exact ⟨by first|rfl|(simp;done)|(simp [*];done), by repeat (first|exact Drawn0.refl _|apply Drawn0.step)⟩
 ·rw [if_neg c2] at H
  have c2b0 : (a0 == 32) = false := beq_eq_false_iff_ne.mpr c2
  have c2b1 : (a0 != 32) = true := bne_iff_ne.mpr c2
  obtain rfl := Option.some.inj H
  go_enter Tryz.func164, Tryz.ntmps164
  go_wp2
  go_ret
  exact ⟨by first|rfl|(simp;done)|(simp [*];done), by repeat (first|exact Drawn0.refl _|apply Drawn0.step)⟩
end Go.Proofs.YthdiiiopjkaifaaGreatDoor.Pall

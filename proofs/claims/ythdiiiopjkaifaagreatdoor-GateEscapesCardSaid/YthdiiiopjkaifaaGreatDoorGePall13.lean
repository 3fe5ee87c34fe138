import Derived.Test.YthdiiiopjkaifaaGreatDoorGePall0
import Derived.Test.YthdiiiopjkaifaaGreatDoorGePall7
namespace Go.Proofs.YthdiiiopjkaifaaGreatDoor.Pall
open Go.RowKit Go.Proofs.YthdiiiopjkaifaaGreatDoorW.PrintWords Go.Proofs.YthdiiiopjkaifaaGreatDoorW.PrintLast Go.Proofs.YthdiiiopjkaifaaGreatDoorW.PrintMore
attribute [local go_sem] max2_int min2_int max_two min_two
set_option linter.unusedVariables false
set_option linter.unusedSimpArgs false
def wicketmanref11_Octets.l0 : Nat → ByteArray → Int → Option (Bool)
 | 0, _, _ => none
 | k + 1, x0, x3 => if x3 < (x0.size : Int) then (if 0 ≤ x3 then (if (bt x0 x3) < 33 then (some false) else (if (bt x0 x3) > 126 then (some false) else (if (bt x0 x3) = 34 then (some false) else (if (bt x0 x3) = 44 then (some false) else (if (bt x0 x3) = 59 then (some false) else (if (bt x0 x3) = 92 then (some false) else (wicketmanref11_Octets.l0 k x0 (wrap64 (x3 + 1))))))))) else (none)) else (some true)
def wicketmanref11_Octets.f (k : Nat) (a0 : ByteArray) : Option (Bool) := wicketmanref11_Octets.l0 k a0 0
theorem wicketmanref11_Octets.mono_l : ∀ k, (∀ y0 y1, LeO (wicketmanref11_Octets.l0 k y0 y1) (wicketmanref11_Octets.l0 (k + 1) y0 y1))
 | 0 => fun _ _ r h => by simp [wicketmanref11_Octets.l0] at h
 | k + 1 => by
  have ih0 := wicketmanref11_Octets.mono_l k
  ·intro y0 y1
   unfold wicketmanref11_Octets.l0
   repeat' first|(with_reducible first|exact ih0 _ _|exact LeO.refl _|exact LeO.none _|refine LeO.ite ?_ ?_|refine LeO.bind ?_ (fun _ => ?_))|exact LeO.none _|refine LeO.ite ?_ ?_|refine LeO.bind ?_ (fun _ => ?_)
theorem wicketmanref11_Octets.mono : ∀ a0 k, LeO (wicketmanref11_Octets.f k a0) (wicketmanref11_Octets.f (k + 1) a0) := by
 intro a0 k
 have ih0 := wicketmanref11_Octets.mono_l k
 unfold wicketmanref11_Octets.f
 repeat' first|(with_reducible first|exact ih0 _ _|exact LeO.refl _|exact LeO.none _|refine LeO.ite ?_ ?_|refine LeO.bind ?_ (fun _ => ?_))|exact LeO.none _|refine LeO.ite ?_ ?_|refine LeO.bind ?_ (fun _ => ?_)
set_option maxHeartbeats 8000000 in
set_option maxRecDepth 100000 in
theorem wicketmanref11_Octets.calls (k : Nat) (a0 : ByteArray) (r : Bool) (w : World) (h : wicketmanref11_Octets.f k a0 = some r) :
  Calls Tryz.prog 114 #[.string a0] w fun e w' => e = .returned (.bool r) ∧ Drawn0 w w' := by
 have H : (wicketmanref11_Octets.l0 k a0 0) = some r := h
 clear h
 have H' := aK H
 clear H
 go_enter Tryz.func114, Tryz.ntmps114
 go_wp2
 go_loopg [3] k (fun kq v3 w' => ∃ (x3_1 : Int), v3 = .int .i64 x3_1 ∧ Aside0 (wicketmanref11_Octets.l0 kq a0 x3_1 = some r) ∧ Aside0 (kq ≤ k) ∧ Drawn0 w w')
 case atStart => exact ⟨(0), (by first|rfl|(simp;done)|(simp [*];done)), H', ⟨Nat.le_refl _⟩, by repeat (first|exact Drawn0.refl _|apply Drawn0.step)⟩
 case round =>
  clear H'
  try clear c1
  obtain ⟨x3_1, rfl, HA, HK1, ⟨m1, rfl⟩⟩ := hrel
  cases gk with
  | zero => exact absurd HA.out (by simp [wicketmanref11_Octets.l0])
  | succ k1 =>
   have H := HA.out
   clear HA
   simp only [wicketmanref11_Octets.l0] at H
   by_cases c2 : x3_1 < (a0.size : Int)
   ·rw [if_pos c2] at H
    have c2b0 : decide (x3_1 < (a0.size : Int)) = true := decide_eq_true c2
    clear c2
    by_cases c3 : 0 ≤ x3_1
    ·rw [if_pos c3] at H
     have c3b0 : decide (0 ≤ x3_1) = true := decide_eq_true c3
     clear c3
     by_cases c5 : (bt a0 x3_1) < 33
     ·rw [if_pos c5] at H
      have c5b0 : decide ((bt a0 x3_1) < 33) = true := decide_eq_true c5
      clear c5
      obtain rfl := Option.some.inj H
      have p4 : 0 ≤ (x3_1 : Int) := of_decide_eq_true (by first|(with_reducible assumption)|assumption)
      have q4 : x3_1 < (a0.size : Int) := of_decide_eq_true (by first|(with_reducible assumption)|assumption)
      have hx4 := bt_at a0 x3_1
      replace p4 := eq_true p4
      replace q4 := eq_true q4
      go_wp2
      go_ret
      exact ⟨by first|rfl|(simp;done)|(simp [*];done), by repeat (first|exact Drawn0.refl _|apply Drawn0.step)⟩
     ·rw [if_neg c5] at H
      have c5b0 : decide ((bt a0 x3_1) < 33) = false := decide_eq_false c5
      clear c5
      by_cases c6 : (bt a0 x3_1) > 126
      ·rw [if_pos c6] at H
       have c6b0 : decide (126 < (bt a0 x3_1)) = true := decide_eq_true c6
       clear c6
       obtain rfl := Option.some.inj H
       have p4 : 0 ≤ (x3_1 : Int) := of_decide_eq_true (by first|(with_reducible assumption)|assumption)
       have q4 : x3_1 < (a0.size : Int) := of_decide_eq_true (by first|(with_reducible assumption)|assumption)
       have hx4 := bt_at a0 x3_1
       replace p4 := eq_true p4
       replace q4 := eq_true q4
       go_wp2
       go_ret
       exact ⟨by first|rfl|(simp;done)|(simp [*];done), by repeat (first|exact Drawn0.refl _|apply Drawn0.step)⟩
      ·rw [if_neg c6] at H
       have c6b0 : decide (126 < (bt a0 x3_1)) = false := decide_eq_false c6
       clear c6
       by_cases c7 : (bt a0 x3_1) = 34
       ·rw [if_pos c7] at H
        have c7b0 : ((bt a0 x3_1) == 34) = true := beq_iff_eq.mpr c7
        have c7b1 : ((bt a0 x3_1) != 34) = false := bne_eq_false_iff_eq.mpr c7
        clear c7
        obtain rfl := Option.some.inj H
        have p4 : 0 ≤ (x3_1 : Int) := of_decide_eq_true (by first|(with_reducible assumption)|assumption)
        have q4 : x3_1 < (a0.size : Int) := of_decide_eq_true (by first|(with_reducible assumption)|assumption)
        have hx4 := bt_at a0 x3_1
        replace p4 := eq_true p4
        replace q4 := eq_true q4
        go_wp2
        go_ret
        exact ⟨by first|rfl|(simp;done)|(simp [*];done), by repeat (first|exact Drawn0.refl _|apply Drawn0.step)⟩
       ·rw [if_neg c7] at H
        have c7b0 : ((bt a0 x3_1) == 34) = false := beq_eq_false_iff_ne.mpr c7
        have c7b1 : ((bt a0 x3_1) != 34) = true := bne_iff_ne.mpr c7
        by_cases c8 : (bt a0 x3_1) = 44
        ·rw [if_pos c8] at H
         have c8b0 : ((bt a0 x3_1) == 44) = true := beq_iff_eq.mpr c8
         have c8b1 : ((bt a0 x3_1) != 44) = false := bne_eq_false_iff_eq.mpr c8
         clear c8
         obtain rfl := Option.some.inj H
         have p4 : 0 ≤ (x3_1 : Int) := of_decide_eq_true (by first|(with_reducible assumption)|assumption)
         have q4 : x3_1 < (a0.size : Int) := of_decide_eq_true (by first|(with_reducible assumption)|assumption)
         have hx4 := bt_at a0 x3_1
         replace p4 := eq_true p4
         replace q4 := eq_true q4
         go_wp2
         go_ret
         exact ⟨by first|rfl|(simp;done)|(simp [*];done), by repeat (first|exact Drawn0.refl _|apply Drawn0.step)⟩
        ·rw [if_neg c8] at H
         have c8b0 : ((bt a0 x3_1) == 44) = false := beq_eq_false_iff_ne.mpr c8
         have c8b1 : ((bt a0 x3_1) != 44) = true := bne_iff_ne.mpr c8
         by_cases c9 : (bt a0 x3_1) = 59
         ·rw [if_pos c9] at H
          have c9b0 : ((bt a0 x3_1) == 59) = true := beq_iff_eq.mpr c9
          have c9b1 : ((bt a0 x3_1) != 59) = false := bne_eq_false_iff_eq.mpr c9
          clear c9
          obtain rfl := Option.some.inj H
          have p4 : 0 ≤ (x3_1 : Int) := of_decide_eq_true (by first|(with_reducible assumption)|assumption)
          have q4 : x3_1 < (a0.size : Int) := of_decide_eq_true (by first|(with_reducible assumption)|assumption)
          have hx4 := bt_at a0 x3_1
          replace p4 := eq_true p4
          replace q4 := eq_true q4
          go_wp2
          go_ret
          exact ⟨by first|rfl|(simp;done)|(simp [*];done), by repeat (first|exact Drawn0.refl _|apply Drawn0.step)⟩
         ·rw [if_neg c9] at H
          have c9b0 : ((bt a0 x3_1) == 59) = false := beq_eq_false_iff_ne.mpr c9
          have c9b1 : ((bt a0 x3_1) != 59) = true := bne_iff_ne.mpr c9
          by_cases c10 : (bt a0 x3_1) = 92
          ·rw [if_pos c10] at H
           have c10b0 : ((bt a0 x3_1) == 92) = true := beq_iff_eq.mpr c10
           have c10b1 : ((bt a0 x3_1) != 92) = false := bne_eq_false_iff_eq.mpr c10
           clear c10
           obtain rfl := Option.some.inj H
           have p4 : 0 ≤ (x3_1 : Int) := of_decide_eq_true (by first|(with_reducible assumption)|assumption)
           have q4 : x3_1 < (a0.size : Int) := of_decide_eq_true (by first|(with_reducible assumption)|assumption)
           have hx4 := bt_at a0 x3_1
           replace p4 := eq_true p4
           replace q4 := eq_true q4
           go_wp2
           go_ret
           exact ⟨by first|rfl|(simp;done)|(simp [*];done), by repeat (first|exact Drawn0.refl _|apply Drawn0.step)⟩
          ·rw [if_neg c10] at H
           have c10b0 : ((bt a0 x3_1) == 92) = false := beq_eq_false_iff_ne.mpr c10
           have c10b1 : ((bt a0 x3_1) != 92) = true := bne_iff_ne.mpr c10
           have H' := aK H
           clear H
           have p4 : 0 ≤ (x3_1 : Int) := of_decide_eq_true (by first|(with_reducible assumption)|assumption)
           have q4 : x3_1 < (a0.size : Int) := of_decide_eq_true (by first|(with_reducible assumption)|assumption)
           have hx4 := bt_at a0 x3_1
           replace p4 := eq_true p4
           replace q4 := eq_true q4
           go_wp2
           go_roundg k1
           case measure => have := HK1.out;omega
           case rel => exact ⟨(wrap64 (x3_1 + 1)), (by first|rfl|(simp;done)|(simp [*];done)), H', ⟨by have := HK1.out;omega⟩, by repeat (first|exact Drawn0.refl _|apply Drawn0.step)⟩
    ·rw [if_neg c3] at H
     exact absurd H (by simp)
   ·rw [if_neg c2] at H
    have c2b0 : decide (x3_1 < (a0.size : Int)) = false := decide_eq_false c2
    clear c2
    obtain rfl := Option.some.inj H
    go_wp2
    go_ret
    exact ⟨by first|rfl|(simp;done)|(simp [*];done), by repeat (first|exact Drawn0.refl _|apply Drawn0.step)⟩
def wicketmanref11_Set.f (k : Nat) (a0_0 : ByteArray) (a0_1 : ByteArray) (a1 : Int) : Option (ByteArray × Int) := (wicketmanref08_Token.f k a0_0).bind fun t261 => (if t261 = true then ((wicketmanref11_Octets.f k a0_1).bind fun t262 => (if t262 = true then (if a1 < 0 then (some ((⟨#[]⟩ : BA), 1)) else (if a1 > 999999999 then (some ((⟨#[]⟩ : BA), 1)) else (if a0_0.size + 1 ≤ 9223372036854775807 then (if (a0_0 ++ (⟨#[61]⟩ : BA)).size + a0_1.size ≤ 9223372036854775807 then (if ((a0_0 ++ (⟨#[61]⟩ : BA)) ++ a0_1).size + 10 ≤ 9223372036854775807 then ((strconv_Itoa.f a1).bind fun t263 => (if (((a0_0 ++ (⟨#[61]⟩ : BA)) ++ a0_1) ++ (⟨#[59, 32, 77, 97, 120, 45, 65, 103, 101, 61]⟩ : BA)).size + t263.size ≤ 9223372036854775807 then (if ((((a0_0 ++ (⟨#[61]⟩ : BA)) ++ a0_1) ++ (⟨#[59, 32, 77, 97, 120, 45, 65, 103, 101, 61]⟩ : BA)) ++ t263).size + 43 ≤ 9223372036854775807 then (some (((((a0_0 ++ (⟨#[61]⟩ : BA)) ++ a0_1) ++ (⟨#[59, 32, 77, 97, 120, 45, 65, 103, 101, 61]⟩ : BA)) ++ t263) ++ (⟨#[59, 32, 80, 97, 116, 104, 61, 47, 59, 32, 83, 101, 99, 117, 114, 101, 59, 32, 72, 116, 116, 112, 79, 110, 108, 121, 59, 32, 83, 97, 109, 101, 83, 105, 116, 101, 61, 83, 116, 114, 105, 99, 116]⟩ : BA), 0)) else (none)) else (none))) else (none)) else (none)) else (none)))) else (some ((⟨#[]⟩ : BA), 1)))) else (some ((⟨#[]⟩ : BA), 1)))
theorem wicketmanref11_Set.mono : ∀ a0 a1 a2 k, LeO (wicketmanref11_Set.f k a0 a1 a2) (wicketmanref11_Set.f (k + 1) a0 a1 a2) := by
 intro a0 a1 a2 k
 unfold wicketmanref11_Set.f
 repeat' first|(with_reducible first|exact wicketmanref08_Token.mono _ _|exact wicketmanref11_Octets.mono _ _|exact LeO.refl _|exact LeO.none _|refine LeO.ite ?_ ?_|refine LeO.bind ?_ (fun _ => ?_))|exact LeO.none _|refine LeO.ite ?_ ?_|refine LeO.bind ?_ (fun _ => ?_)
def wicketmanref11_Set.T3 : Bool × List (List Nat × List Nat) := (true, [([], []), ([0], [0]), ([1], [1]), ([], []), ([3], [3]), ([2, 4], [2, 4]), ([5], [5]), ([], []), ([7], [7]), ([6, 8], [6, 8]), ([9], [9]), ([10, 8, 0, 1, 2, 3, 4, 5, 6, 7, 8, 9, 10], [10]), ([11, 0, 1, 2, 3, 4, 5, 6, 7, 8, 9, 10, 11], [])])
def wicketmanref11_Set.B3 : List Nat := [0, 1, 3, 0, 8, 31, 63, 0, 128, 511, 1023, 2047, 4095]
theorem wicketmanref11_Set.tab3 : rtab .any (opsOf Tryz.f64 3) = wicketmanref11_Set.T3 := by kernel_rfl
theorem wicketmanref11_Set.bits3 : waitsOk wicketmanref11_Set.T3.2 wicketmanref11_Set.B3 = true := by kernel_rfl
set_option maxHeartbeats 8000000 in
set_option maxRecDepth 100000 in
theorem wicketmanref11_Set.calls (k : Nat) (a0_0 : ByteArray) (a0_1 : ByteArray) (a1 : Int) (r1 : ByteArray) (r2 : Int) (w : World) (hT : Tb w) (h : wicketmanref11_Set.f k a0_0 a0_1 a1 = some (r1, r2)) :
  Calls Tryz.prog 64 #[.agg #[.string a0_0, .string a0_1], .int .i64 a1] w fun e w' => e = .returned (.tuple #[.string r1, .int .i64 r2]) ∧ Below w.heap.size w w' := by
 have hu76 := Tryz.underlying76
 have HB := aK (Below.refl w.heap.size w)
 have H : ((wicketmanref08_Token.f k a0_0).bind fun t261 => (if t261 = true then ((wicketmanref11_Octets.f k a0_1).bind fun t262 => (if t262 = true then (if a1 < 0 then (some ((⟨#[]⟩ : BA), 1)) else (if a1 > 999999999 then (some ((⟨#[]⟩ : BA), 1)) else (if a0_0.size + 1 ≤ 9223372036854775807 then (if (a0_0 ++ (⟨#[61]⟩ : BA)).size + a0_1.size ≤ 9223372036854775807 then (if ((a0_0 ++ (⟨#[61]⟩ : BA)) ++ a0_1).size + 10 ≤ 9223372036854775807 then ((strconv_Itoa.f a1).bind fun t263 => (if (((a0_0 ++ (⟨#[61]⟩ : BA)) ++ a0_1) ++ (⟨#[59, 32, 77, 97, 120, 45, 65, 103, 101, 61]⟩ : BA)).size + t263.size ≤ 9223372036854775807 then (if ((((a0_0 ++ (⟨#[61]⟩ : BA)) ++ a0_1) ++ (⟨#[59, 32, 77, 97, 120, 45, 65, 103, 101, 61]⟩ : BA)) ++ t263).size + 43 ≤ 9223372036854775807 then (some (((((a0_0 ++ (⟨#[61]⟩ : BA)) ++ a0_1) ++ (⟨#[59, 32, 77, 97, 120, 45, 65, 103, 101, 61]⟩ : BA)) ++ t263) ++ (⟨#[59, 32, 80, 97, 116, 104, 61, 47, 59, 32, 83, 101, 99, 117, 114, 101, 59, 32, 72, 116, 116, 112, 79, 110, 108, 121, 59, 32, 83, 97, 109, 101, 83, 105, 116, 101, 61, 83, 116, 114, 105, 99, 116]⟩ : BA), 0)) else (none)) else (none))) else (none)) else (none)) else (none)))) else (some ((⟨#[]⟩ : BA), 1)))) else (some ((⟨#[]⟩ : BA), 1)))) = some (r1, r2) := h
 clear h
 replace H := Option.bind_eq_some_iff.mp H
 obtain ⟨t261, A30, H⟩ := H
 try dsimp only at H
 have A3 := aK A30
 clear A30
 by_cases c4 : t261 = true
 ·subst c4
  rw [if_pos rfl] at H
  replace H := Option.bind_eq_some_iff.mp H
  obtain ⟨t262, A50, H⟩ := H
  try dsimp only at H
  have A5 := aK A50
  clear A50
  by_cases c6 : t262 = true
  ·subst c6
   rw [if_pos rfl] at H
   by_cases c7 : a1 < 0
   ·rw [if_pos c7] at H
    have c7b0 : decide (a1 < 0) = true := decide_eq_true c7
    clear c7
    simp only [Option.some.injEq, Prod.mk.injEq] at H
    obtain ⟨rfl, rfl⟩ := H
    go_enter Tryz.func64, Tryz.ntmps64
    go_wp2_with (first|((with_reducible refine gate_dst (N := 2) rfl ?_);refine box_event ?hg (N := 2) ?hd (cs := #[.string a0_0, .string a0_1]) (t := 76) ?hr ?_;(case hd => rfl);(case hg => rfl);(case hr => first|(go_simp;done)|(go_simp;rfl));intro gb260 hg w8 hbox hb;have n0_ := aK (below_step (by repeat (first|(with_reducible first|apply bA|apply bN|apply bD)|exact HB.out)) hb);have n1_ := aK (hbox);have n2_ := aK ((by rw [hg];exact (below_size (by repeat (first|(with_reducible first|apply bA|apply bN|apply bD)|exact HB.out))) : w.heap.size ≤ gb260));have n3_ := aK ((by rw [hg];exact (below_size (by repeat (first|(with_reducible first|apply bA|apply bN|apply bD)|exact HB.out))) : w.heap.size ≤ gb260));clear HB;have HB := n0_;have BK260 := n1_;have GW260 := n2_;have GE260 := n3_;clear n0_ n1_ n2_ n3_;clear hb hbox hg;have hcz9_0 : w8.cell? ⟨gb260, 0, none⟩ = some (.string a0_0) := (blk_cell BK260.out 0).trans rfl;have hcz9_1 : w8.cell? ⟨gb260, 1, none⟩ = some (.string a0_1) := (blk_cell BK260.out 1).trans rfl;have hfz9_0 := blk_frozen BK260.out 0;have hfz9_1 := blk_frozen BK260.out 1)|((with_reducible refine gate_callee (f := 110) rfl ?_);refine goesL_ (some 8) rfl rfl Tryz.func110 (by kernel_rfl) rfl #[.string a0_0] rfl (by (try simp only [List.map_toArray, List.map_cons, List.map_nil]);first|done|rfl|(simp only [List.length_drop, List.length_take];rfl)) ?_;(with_reducible refine (wicketmanref08_Token.calls k a0_0 true _ A3.out).mono ?_);rintro e w' ⟨rfl, ⟨nd, rfl⟩⟩;refine ⟨_, rfl, ?_⟩)|(go_at_call 114;(with_reducible refine (wicketmanref11_Octets.calls k a0_1 true _ A5.out).mono ?_);rintro e w' ⟨rfl, ⟨nd, rfl⟩⟩))
    go_ret2
    exact ⟨by first|rfl|(simp [errW_none, errW_some] <;> rfl)|(simp [*, errW_none, errW_some] <;> rfl), by repeat (first|(with_reducible first|apply bA|apply bN|apply bD|refine below_set ?_ GE260.out)|exact HB.out)⟩
   ·rw [if_neg c7] at H
    have c7b0 : decide (a1 < 0) = false := decide_eq_false c7
    clear c7
    by_cases c10 : a1 > 999999999
    ·rw [if_pos c10] at H
     have c10b0 : decide (999999999 < a1) = true := decide_eq_true c10
     clear c10
     simp only [Option.some.injEq, Prod.mk.injEq] at H
     obtain ⟨rfl, rfl⟩ := H
     go_enter Tryz.func64, Tryz.ntmps64
     go_wp2_with (first|((with_reducible refine gate_dst (N := 2) rfl ?_);refine box_event ?hg (N := 2) ?hd (cs := #[.string a0_0, .string a0_1]) (t := 76) ?hr ?_;(case hd => rfl);(case hg => rfl);(case hr => first|(go_simp;done)|(go_simp;rfl));intro gb260 hg w11 hbox hb;have n0_ := aK (below_step (by repeat (first|(with_reducible first|apply bA|apply bN|apply bD)|exact HB.out)) hb);have n1_ := aK (hbox);have n2_ := aK ((by rw [hg];exact (below_size (by repeat (first|(with_reducible first|apply bA|apply bN|apply bD)|exact HB.out))) : w.heap.size ≤ gb260));have n3_ := aK ((by rw [hg];exact (below_size (by repeat (first|(with_reducible first|apply bA|apply bN|apply bD)|exact HB.out))) : w.heap.size ≤ gb260));clear HB;have HB := n0_;have BK260 := n1_;have GW260 := n2_;have GE260 := n3_;clear n0_ n1_ n2_ n3_;clear hb hbox hg;have hcz12_0 : w11.cell? ⟨gb260, 0, none⟩ = some (.string a0_0) := (blk_cell BK260.out 0).trans rfl;have hcz12_1 : w11.cell? ⟨gb260, 1, none⟩ = some (.string a0_1) := (blk_cell BK260.out 1).trans rfl;have hfz12_0 := blk_frozen BK260.out 0;have hfz12_1 := blk_frozen BK260.out 1)|((with_reducible refine gate_callee (f := 110) rfl ?_);refine goesL_ (some 8) rfl rfl Tryz.func110 (by kernel_rfl) rfl #[.string a0_0] rfl (by (try simp only [List.map_toArray, List.map_cons, List.map_nil]);first|done|rfl|(simp only [List.length_drop, List.length_take];rfl)) ?_;(with_reducible refine (wicketmanref08_Token.calls k a0_0 true _ A3.out).mono ?_);rintro e w' ⟨rfl, ⟨nd, rfl⟩⟩;refine ⟨_, rfl, ?_⟩)|(go_at_call 114;(with_reducible refine (wicketmanref11_Octets.calls k a0_1 true _ A5.out).mono ?_);rintro e w' ⟨rfl, ⟨nd, rfl⟩⟩))
     go_ret2
     exact ⟨by first|rfl|(simp [errW_none, errW_some] <;> rfl)|(simp [*, errW_none, errW_some] <;> rfl), by repeat (first|(with_reducible first|apply bA|apply bN|apply bD|refine below_set ?_ GE260.out)|exact HB.out)⟩
    ·rw [if_neg c10] at H
     have c10b0 : decide (999999999 < a1) = false := decide_eq_false c10
     clear c10
     by_cases c13 : a0_0.size + 1 ≤ 9223372036854775807
     ·rw [if_pos c13] at H
      have c13b0 := eq_true c13
      have c13b1 : decide (a0_0.size + 1 ≤ 9223372036854775807) = true := decide_eq_true c13
      try have c13b2 : (9223372036854775807 < a0_0.size + 1) = False := eq_false (Nat.not_lt.2 c13)
      by_cases c14 : (a0_0 ++ (⟨#[61]⟩ : BA)).size + a0_1.size ≤ 9223372036854775807
      ·rw [if_pos c14] at H
       have c14b0 := eq_true c14
       have c14b1 : decide ((a0_0 ++ (⟨#[61]⟩ : BA)).size + a0_1.size ≤ 9223372036854775807) = true := decide_eq_true c14
       try have c14b2 : (9223372036854775807 < (a0_0 ++ (⟨#[61]⟩ : BA)).size + a0_1.size) = False := eq_false (Nat.not_lt.2 c14)
       try (have c14b8 := c14b2;simp only [ByteArray.size_append, show ((⟨#[61]⟩ : BA) : ByteArray).size = 1 from rfl] at c14b8)
       by_cases c15 : ((a0_0 ++ (⟨#[61]⟩ : BA)) ++ a0_1).size + 10 ≤ 9223372036854775807
       ·rw [if_pos c15] at H
        have c15b0 := eq_true c15
        have c15b1 : decide (((a0_0 ++ (⟨#[61]⟩ : BA)) ++ a0_1).size + 10 ≤ 9223372036854775807) = true := decide_eq_true c15
        try have c15b2 : (9223372036854775807 < ((a0_0 ++ (⟨#[61]⟩ : BA)) ++ a0_1).size + 10) = False := eq_false (Nat.not_lt.2 c15)
        try (have c15b8 := c15b2;simp only [ByteArray.size_append, show ((⟨#[61]⟩ : BA) : ByteArray).size = 1 from rfl] at c15b8)
        replace H := Option.bind_eq_some_iff.mp H
        obtain ⟨t263, A160, H⟩ := H
        try dsimp only at H
        have A16 := aK A160
        clear A160
        by_cases c17 : (((a0_0 ++ (⟨#[61]⟩ : BA)) ++ a0_1) ++ (⟨#[59, 32, 77, 97, 120, 45, 65, 103, 101, 61]⟩ : BA)).size + t263.size ≤ 9223372036854775807
        ·rw [if_pos c17] at H
         have c17b0 := eq_true c17
         have c17b1 : decide ((((a0_0 ++ (⟨#[61]⟩ : BA)) ++ a0_1) ++ (⟨#[59, 32, 77, 97, 120, 45, 65, 103, 101, 61]⟩ : BA)).size + t263.size ≤ 9223372036854775807) = true := decide_eq_true c17
         try have c17b2 : (9223372036854775807 < (((a0_0 ++ (⟨#[61]⟩ : BA)) ++ a0_1) ++ (⟨#[59, 32, 77, 97, 120, 45, 65, 103, 101, 61]⟩ : BA)).size + t263.size) = False := eq_false (Nat.not_lt.2 c17)
         try (have c17b8 := c17b2;simp only [ByteArray.size_append, show ((⟨#[59, 32, 77, 97, 120, 45, 65, 103, 101, 61]⟩ : BA) : ByteArray).size = 10 from rfl, show ((⟨#[61]⟩ : BA) : ByteArray).size = 1 from rfl] at c17b8)
         by_cases c18 : ((((a0_0 ++ (⟨#[61]⟩ : BA)) ++ a0_1) ++ (⟨#[59, 32, 77, 97, 120, 45, 65, 103, 101, 61]⟩ : BA)) ++ t263).size + 43 ≤ 9223372036854775807
         ·rw [if_pos c18] at H
          have c18b0 := eq_true c18
          have c18b1 : decide (((((a0_0 ++ (⟨#[61]⟩ : BA)) ++ a0_1) ++ (⟨#[59, 32, 77, 97, 120, 45, 65, 103, 101, 61]⟩ : BA)) ++ t263).size + 43 ≤ 9223372036854775807) = true := decide_eq_true c18
          try have c18b2 : (9223372036854775807 < ((((a0_0 ++ (⟨#[61]⟩ : BA)) ++ a0_1) ++ (⟨#[59, 32, 77, 97, 120, 45, 65, 103, 101, 61]⟩ : BA)) ++ t263).size + 43) = False := eq_false (Nat.not_lt.2 c18)
          try (have c18b8 := c18b2;simp only [ByteArray.size_append, show ((⟨#[59, 32, 77, 97, 120, 45, 65, 103, 101, 61]⟩ : BA) : ByteArray).size = 10 from rfl, show ((⟨#[61]⟩ : BA) : ByteArray).size = 1 from rfl] at c18b8)
          simp only [Option.some.injEq, Prod.mk.injEq] at H
          obtain ⟨rfl, rfl⟩ := H
          go_enter Tryz.func64, Tryz.ntmps64
          try go_wp2_with (first|((with_reducible refine gate_dst (N := 2) rfl ?_);refine box_event ?hg (N := 2) ?hd (cs := #[.string a0_0, .string a0_1]) (t := 76) ?hr ?_;(case hd => rfl);(case hg => rfl);(case hr => first|(go_simp;done)|(go_simp;rfl));intro gb260 hg w19 hbox hb;have n0_ := aK (below_step (by repeat (first|(with_reducible first|apply bA|apply bN|apply bD)|exact HB.out)) hb);have n1_ := aK (hbox);have n2_ := aK ((by rw [hg];exact (below_size (by repeat (first|(with_reducible first|apply bA|apply bN|apply bD)|exact HB.out))) : w.heap.size ≤ gb260));have n3_ := aK ((by rw [hg];exact (below_size (by repeat (first|(with_reducible first|apply bA|apply bN|apply bD)|exact HB.out))) : w.heap.size ≤ gb260));clear HB;have HB := n0_;have BK260 := n1_;have GW260 := n2_;have GE260 := n3_;clear n0_ n1_ n2_ n3_;clear hb hbox hg;have hcz20_0 : w19.cell? ⟨gb260, 0, none⟩ = some (.string a0_0) := (blk_cell BK260.out 0).trans rfl;have hcz20_1 : w19.cell? ⟨gb260, 1, none⟩ = some (.string a0_1) := (blk_cell BK260.out 1).trans rfl;have hfz20_0 := blk_frozen BK260.out 0;have hfz20_1 := blk_frozen BK260.out 1)|((with_reducible refine gate_callee (f := 110) rfl ?_);refine goesL_ (some 8) rfl rfl Tryz.func110 (by kernel_rfl) rfl #[.string a0_0] rfl (by (try simp only [List.map_toArray, List.map_cons, List.map_nil]);first|done|rfl|(simp only [List.length_drop, List.length_take];rfl)) ?_;(with_reducible refine (wicketmanref08_Token.calls k a0_0 true _ A3.out).mono ?_);rintro e w' ⟨rfl, ⟨nd, rfl⟩⟩;refine ⟨_, rfl, ?_⟩)|(go_at_call 114;(with_reducible refine (wicketmanref11_Octets.calls k a0_1 true _ A5.out).mono ?_);rintro e w' ⟨rfl, ⟨nd, rfl⟩⟩))
          (try (rw [drewN_self w19];generalize hq_ : World.drewN w19 _ = w19;have n0_ : Aside0 (w19.heap[gb260]? = some (.cells #[.string a0_0, .string a0_1] 76 (0, 0))) := ⟨by rw [← hq_];exact (by (with_reducible repeat (first|refine blk_drewN ?_ _|refine blk_drew ?_|refine blk_alloc ?_ _));exact BK260.out)⟩;have n1_ : Aside0 (Below w.heap.size w w19) := ⟨by rw [← hq_];exact (by repeat (first|(with_reducible first|apply bA|apply bN|apply bD|refine below_set ?_ GE260.out)|exact HB.out))⟩;clear BK260 HB hq_;have BK260 := n0_;have HB := n1_;clear n0_ n1_))
          have n0_ := aK (blk_drew BK260.out)
          have n1_ := aK (below_drew1 HB.out)
          clear BK260
          clear HB
          have BK260 := n0_
          have HB := n1_
          clear n0_ n1_
          refine start_ (n := 13) (S := fun w' => w'.cell? ⟨gb260, 0, none⟩ = some (.string a0_0) ∧ w'.cell? ⟨gb260, 1, none⟩ = some (.string a0_1)) (ds := []) #[false, false, false, false, false, false, false, false, false, false, false, false, false] (by kernel_rfl) rfl rfl ⟨(blk_cell BK260.out 0).trans rfl, (blk_cell BK260.out 1).trans rfl⟩ (fun hHeld => ?_);refine with_tabW wicketmanref11_Set.tab3 wicketmanref11_Set.bits3 (fun HT_ HW_ => ?_)
          generalize w19.drew = w21 at BK260 HB hHeld ⊢
          refine pure_ (i := 0) (N := some 24) (v := ?_) (a' := ?_) #[true, false, false, false, false, false, false, false, false, false, false, false, false] rfl rfl (any_of HT_.out (by kernel_rfl)) (fun _ _ _ h => h) (Or.inl ⟨by rfl, ?_⟩) ?_ ?_
          rotate_left
          ·intro w'
           go_simp
           with_reducible rfl
          rotate_left
          ·simp only [Act.put, List.setIfInBounds_toArray, List.set_cons_zero, List.set_cons_succ, i64_w, i32_w]
           rfl
          refine pure_ (i := 3) (N := some 27) (v := ?_) (a' := ?_) #[true, false, false, true, false, false, false, false, false, false, false, false, false] rfl rfl (any_of HT_.out (by kernel_rfl)) (fun _ _ _ h => h) (Or.inl ⟨by rfl, ?_⟩) ?_ ?_
          rotate_left
          ·intro w'
           go_simp
           with_reducible rfl
          rotate_left
          ·simp only [Act.put, List.setIfInBounds_toArray, List.set_cons_zero, List.set_cons_succ, i64_w, i32_w]
           rfl
          refine pure_ (i := 7) (N := some 31) (v := ?_) (a' := ?_) #[true, false, false, true, false, false, false, true, false, false, false, false, false] rfl rfl (any_of HT_.out (by kernel_rfl)) (fun _ _ _ h => h) (Or.inl ⟨by rfl, ?_⟩) ?_ ?_
          rotate_left
          ·intro w'
           go_simp
           with_reducible rfl
          rotate_left
          ·simp only [Act.put, List.setIfInBounds_toArray, List.set_cons_zero, List.set_cons_succ, i64_w, i32_w]
           rfl
          refine take_ (i := 1) (N := some 25) (v := ?_) (a' := ?_) #[true, true, false, true, false, false, false, true, false, false, false, false, false] rfl rfl (take_ofW HT_.out HW_.out (by kernel_rfl)) (fun _ _ _ h => h) (Or.inl ⟨by rfl, ?_⟩) hHeld ?_ ?_
          rotate_left
          ·rintro w' ⟨s0, s1⟩
           go_simp
           with_reducible rfl
          rotate_left
          ·simp only [Act.put, List.setIfInBounds_toArray, List.set_cons_zero, List.set_cons_succ, i64_w, i32_w]
           rfl
          refine pure_ (i := 2) (N := some 26) (v := ?_) (a' := ?_) #[true, true, true, true, false, false, false, true, false, false, false, false, false] rfl rfl (any_of HT_.out (by kernel_rfl)) (fun _ _ _ h => h) (Or.inl ⟨by rfl, ?_⟩) ?_ ?_
          rotate_left
          ·intro w'
           go_simp
           with_reducible rfl
          rotate_left
          ·simp only [Act.put, List.setIfInBounds_toArray, List.set_cons_zero, List.set_cons_succ, i64_w, i32_w]
           rfl
          refine take_ (i := 4) (N := some 28) (v := ?_) (a' := ?_) #[true, true, true, true, true, false, false, true, false, false, false, false, false] rfl rfl (take_ofW HT_.out HW_.out (by kernel_rfl)) (fun _ _ _ h => h) (Or.inl ⟨by rfl, ?_⟩) hHeld ?_ ?_
          rotate_left
          ·rintro w' ⟨s0, s1⟩
           go_simp
           with_reducible rfl
          rotate_left
          ·simp only [Act.put, List.setIfInBounds_toArray, List.set_cons_zero, List.set_cons_succ, i64_w, i32_w]
           rfl
          refine pure_ (i := 5) (N := some 29) (v := ?_) (a' := ?_) #[true, true, true, true, true, true, false, true, false, false, false, false, false] rfl rfl (any_of HT_.out (by kernel_rfl)) (fun _ _ _ h => h) (Or.inl ⟨by rfl, ?_⟩) ?_ ?_
          rotate_left
          ·intro w'
           go_simp
           with_reducible rfl
          rotate_left
          ·simp only [Act.put, List.setIfInBounds_toArray, List.set_cons_zero, List.set_cons_succ, i64_w, i32_w]
           rfl
          refine pure_ (i := 6) (N := some 30) (v := ?_) (a' := ?_) #[true, true, true, true, true, true, true, true, false, false, false, false, false] rfl rfl (any_of HT_.out (by kernel_rfl)) (fun _ _ _ h => h) (Or.inl ⟨by rfl, ?_⟩) ?_ ?_
          rotate_left
          ·intro w'
           go_simp
           with_reducible rfl
          rotate_left
          ·simp only [Act.put, List.setIfInBounds_toArray, List.set_cons_zero, List.set_cons_succ, i64_w, i32_w]
           rfl
          refine one_ (i := 8) (N := some 32) #[true, true, true, true, true, true, true, true, true, false, false, false, false] rfl rfl (one_of HT_.out (by kernel_rfl)) (by decide) (fun K hK => ?_)
          refine goes_ Tryz.func112 (by kernel_rfl) rfl #[.int .i64 a1] (by rfl) rfl rfl (by (try simp only [List.map_toArray, List.map_cons, List.map_nil]);first|done|rfl|(simp only [List.length_drop, List.length_take];rfl)) ?_
          with_reducible refine (strconv_Itoa.calls a1 t263 _ (by first|exact hT|(refine Tb.of_below hT ?_;repeat (first|(with_reducible first|apply bA|apply bN|apply bD)|exact HB.out|refine Below.setCell ?_ (Aside0.out (by assumption)) _))|(refine Tb.of_below hT ?_;assumption)) A16.out).mono ?_
          rintro e w22 ⟨rfl, hb⟩
          refine ⟨_, rfl, ?_⟩
          have n0_ := aK (blk_below (g := gb260) (o := .cells #[.string a0_0, .string a0_1] 76 (0, 0)) (by (with_reducible repeat (first|refine blk_drewN ?_ _|refine blk_drew ?_|refine blk_alloc ?_ _));exact BK260.out) hb)
          have n1_ := aK (below_step (by repeat (first|(with_reducible first|apply bA|apply bN|apply bD|refine below_set ?_ GE260.out)|exact HB.out)) hb)
          clear BK260
          clear HB
          have BK260 := n0_
          have HB := n1_
          clear n0_ n1_
          (try clear hb)
          (try clear hb2)
          (try clear hk)
          (try clear hi)
          refine hK.out _ _ ⟨(blk_cell BK260.out 0).trans rfl, (blk_cell BK260.out 1).trans rfl⟩ (fun hHeld => ?_)
          clear hK K
          refine norm_ (a' := ?_) ?_ ?_
          rotate_left
          ·show Act.put _ (some 32) _ = _
           simp only [Act.put, List.setIfInBounds_toArray, List.set_cons_zero, List.set_cons_succ, i64_w, i32_w]
           rfl
          refine pure_ (i := 9) (N := some 33) (v := ?_) (a' := ?_) #[true, true, true, true, true, true, true, true, true, true, false, false, false] rfl rfl (any_of HT_.out (by kernel_rfl)) (fun _ _ _ h => h) (Or.inl ⟨by rfl, ?_⟩) ?_ ?_
          rotate_left
          ·intro w'
           go_simp
           with_reducible rfl
          rotate_left
          ·simp only [Act.put, List.setIfInBounds_toArray, List.set_cons_zero, List.set_cons_succ, i64_w, i32_w]
           rfl
          refine pure_ (i := 10) (N := some 34) (v := ?_) (a' := ?_) #[true, true, true, true, true, true, true, true, true, true, true, false, false] rfl rfl (any_of HT_.out (by kernel_rfl)) (fun _ _ _ h => h) (Or.inl ⟨by rfl, ?_⟩) ?_ ?_
          rotate_left
          ·intro w'
           go_simp
           with_reducible rfl
          rotate_left
          ·simp only [Act.put, List.setIfInBounds_toArray, List.set_cons_zero, List.set_cons_succ, i64_w, i32_w]
           rfl
          refine pure_ (i := 11) (N := some 4) (v := ?_) (a' := ?_) #[true, true, true, true, true, true, true, true, true, true, true, true, false] rfl rfl (any_of HT_.out (by kernel_rfl)) (fun _ _ _ h => h) (Or.inl ⟨by rfl, ?_⟩) ?_ ?_
          rotate_left
          ·intro w'
           go_simp
           with_reducible rfl
          rotate_left
          ·simp only [Act.put, List.setIfInBounds_toArray, List.set_cons_zero, List.set_cons_succ, i64_w, i32_w]
           rfl
          refine pure_ (i := 12) (N := some 5) (v := ?_) (a' := ?_) #[true, true, true, true, true, true, true, true, true, true, true, true, true] rfl rfl (any_of HT_.out (by kernel_rfl)) (fun _ _ _ h => h) (Or.inl ⟨by rfl, ?_⟩) ?_ ?_
          rotate_left
          ·intro w'
           go_simp
           with_reducible rfl
          rotate_left
          ·simp only [Act.put, List.setIfInBounds_toArray, List.set_cons_zero, List.set_cons_succ, i64_w, i32_w]
           rfl
          refine done_ (done_of HT_.out (by kernel_rfl)) ?_
          try go_wp2
          go_ret2
          exact ⟨by first|rfl|(simp [errW_none, errW_some] <;> rfl)|(simp [*, errW_none, errW_some] <;> rfl), by repeat (first|(with_reducible first|apply bA|apply bN|apply bD|refine below_set ?_ GE260.out)|exact HB.out)⟩
         ·rw [if_neg c18] at H
          exact absurd H (by simp)
        ·rw [if_neg c17] at H
         exact absurd H (by simp)
       ·rw [if_neg c15] at H
        exact absurd H (by simp)
      ·rw [if_neg c14] at H
       exact absurd H (by simp)
     ·rw [if_neg c13] at H
      exact absurd H (by simp)
  ·replace c6 := Bool.eq_false_iff.mpr c6
   subst c6
   rw [if_neg (show ¬ (false = true) by decide)] at H
   simp only [Option.some.injEq, Prod.mk.injEq] at H
   obtain ⟨rfl, rfl⟩ := H
   go_enter Tryz.func64, Tryz.ntmps64
   go_wp2_with (first|((with_reducible refine gate_dst (N := 2) rfl ?_);refine box_event ?hg (N := 2) ?hd (cs := #[.string a0_0, .string a0_1]) (t := 76) ?hr ?_;(case hd => rfl);(case hg => rfl);(case hr => first|(go_simp;done)|(go_simp;rfl));intro gb260 hg w23 hbox hb;have n0_ := aK (below_step (by repeat (first|(with_reducible first|apply bA|apply bN|apply bD)|exact HB.out)) hb);have n1_ := aK (hbox);have n2_ := aK ((by rw [hg];exact (below_size (by repeat (first|(with_reducible first|apply bA|apply bN|apply bD)|exact HB.out))) : w.heap.size ≤ gb260));have n3_ := aK ((by rw [hg];exact (below_size (by repeat (first|(with_reducible first|apply bA|apply bN|apply bD)|exact HB.out))) : w.heap.size ≤ gb260));clear HB;have HB := n0_;have BK260 := n1_;have GW260 := n2_;have GE260 := n3_;clear n0_ n1_ n2_ n3_;clear hb hbox hg;have hcz24_0 : w23.cell? ⟨gb260, 0, none⟩ = some (.string a0_0) := (blk_cell BK260.out 0).trans rfl;have hcz24_1 : w23.cell? ⟨gb260, 1, none⟩ = some (.string a0_1) := (blk_cell BK260.out 1).trans rfl;have hfz24_0 := blk_frozen BK260.out 0;have hfz24_1 := blk_frozen BK260.out 1)|((with_reducible refine gate_callee (f := 110) rfl ?_);refine goesL_ (some 8) rfl rfl Tryz.func110 (by kernel_rfl) rfl #[.string a0_0] rfl (by (try simp only [List.map_toArray, List.map_cons, List.map_nil]);first|done|rfl|(simp only [List.length_drop, List.length_take];rfl)) ?_;(with_reducible refine (wicketmanref08_Token.calls k a0_0 true _ A3.out).mono ?_);rintro e w' ⟨rfl, ⟨nd, rfl⟩⟩;refine ⟨_, rfl, ?_⟩)|(go_at_call 114;(with_reducible refine (wicketmanref11_Octets.calls k a0_1 false _ A5.out).mono ?_);rintro e w' ⟨rfl, ⟨nd, rfl⟩⟩))
   go_ret2
   exact ⟨by first|rfl|(simp [errW_none, errW_some] <;> rfl)|(simp [*, errW_none, errW_some] <;> rfl), by repeat (first|(with_reducible first|apply bA|apply bN|apply bD|refine below_set ?_ GE260.out)|exact HB.out)⟩
 ·replace c4 := Bool.eq_false_iff.mpr c4
  subst c4
  rw [if_neg (show ¬ (false = true) by decide)] at H
  simp only [Option.some.injEq, Prod.mk.injEq] at H
  obtain ⟨rfl, rfl⟩ := H
  go_enter Tryz.func64, Tryz.ntmps64
  go_wp2_with (first|((with_reducible refine gate_dst (N := 2) rfl ?_);refine box_event ?hg (N := 2) ?hd (cs := #[.string a0_0, .string a0_1]) (t := 76) ?hr ?_;(case hd => rfl);(case hg => rfl);(case hr => first|(go_simp;done)|(go_simp;rfl));intro gb260 hg w25 hbox hb;have n0_ := aK (below_step (by repeat (first|(with_reducible first|apply bA|apply bN|apply bD)|exact HB.out)) hb);have n1_ := aK (hbox);have n2_ := aK ((by rw [hg];exact (below_size (by repeat (first|(with_reducible first|apply bA|apply bN|apply bD)|exact HB.out))) : w.heap.size ≤ gb260));have n3_ := aK ((by rw [hg];exact (below_size (by repeat (first|(with_reducible first|apply bA|apply bN|apply bD)|exact HB.out))) : w.heap.size ≤ gb260));clear HB;have HB := n0_;have BK260 := n1_;have GW260 := n2_;have GE260 := n3_;clear n0_ n1_ n2_ n3_;clear hb hbox hg;have hcz26_0 : w25.cell? ⟨gb260, 0, none⟩ = some (.string a0_0) := (blk_cell BK260.out 0).trans rfl;have hcz26_1 : w25.cell? ⟨gb260, 1, none⟩ = some (.string a0_1) := (blk_cell BK260.out 1).trans rfl;have hfz26_0 := blk_frozen BK260.out 0;have hfz26_1 := blk_frozen BK260.out 1)|((with_reducible refine gate_callee (f := 110) rfl ?_);refine goesL_ (some 8) rfl rfl Tryz.func110 (by kernel_rfl) rfl #[.string a0_0] rfl (by (try simp only [List.map_toArray, List.map_cons, List.map_nil]);first|done|rfl|(simp only [List.length_drop, List.length_take];rfl)) ?_;(with_reducible refine (wicketmanref08_Token.calls k a0_0 false _ A3.out).mono ?_);rintro e w' ⟨rfl, ⟨nd, rfl⟩⟩;refine ⟨_, rfl, ?_⟩))
  go_ret2
  exact ⟨by first|rfl|(simp [errW_none, errW_some] <;> rfl)|(simp [*, errW_none, errW_some] <;> rfl), by repeat (first|(with_reducible first|apply bA|apply bN|apply bD|refine below_set ?_ GE260.out)|exact HB.out)⟩
mutual
def wicketmanref06_more.j0 : Nat → Int → Bool → Option (Int)
 | 0, _, _ => none
 | k + 1, x0, x10 => if x10 = true then (some 1) else (if x0 ≥ 224 then (wicketmanref06_more.j1 k x0 (decide (x0 ≤ 239))) else (wicketmanref06_more.j1 k x0 false))
def wicketmanref06_more.j1 : Nat → Int → Bool → Option (Int)
 | 0, _, _ => none
 | k + 1, x0, x16 => if x16 = true then (some 2) else (if x0 ≥ 240 then (if x0 ≤ 244 then (some 3) else (some (-1))) else (some (-1)))
end
def wicketmanref06_more.f (k : Nat) (a0 : Int) : Option (Int) := if a0 < 128 then (some 0) else (if a0 ≥ 194 then (wicketmanref06_more.j0 k a0 (decide (a0 ≤ 223))) else (wicketmanref06_more.j0 k a0 false))
theorem wicketmanref06_more.mono_l : ∀ k, (∀ y0 y1, LeO (wicketmanref06_more.j0 k y0 y1) (wicketmanref06_more.j0 (k + 1) y0 y1)) ∧ (∀ y0 y1, LeO (wicketmanref06_more.j1 k y0 y1) (wicketmanref06_more.j1 (k + 1) y0 y1))
 | 0 => ⟨fun _ _ r h => by simp [wicketmanref06_more.j0] at h, fun _ _ r h => by simp [wicketmanref06_more.j1] at h⟩
 | k + 1 => by
  obtain ⟨ih0, ih1⟩ := wicketmanref06_more.mono_l k
  refine ⟨?_, ?_⟩
  ·intro y0 y1
   unfold wicketmanref06_more.j0
   repeat' first|(with_reducible first|exact ih0 _ _|exact ih1 _ _|exact LeO.refl _|exact LeO.none _|refine LeO.ite ?_ ?_|refine LeO.bind ?_ (fun _ => ?_))|exact LeO.none _|refine LeO.ite ?_ ?_|refine LeO.bind ?_ (fun _ => ?_)
  ·intro y0 y1
   unfold wicketmanref06_more.j1
   repeat' first|(with_reducible first|exact ih0 _ _|exact ih1 _ _|exact LeO.refl _|exact LeO.none _|refine LeO.ite ?_ ?_|refine LeO.bind ?_ (fun _ => ?_))|exact LeO.none _|refine LeO.ite ?_ ?_|refine LeO.bind ?_ (fun _ => ?_)
theorem wicketmanref06_more.mono : ∀ a0 k, LeO (wicketmanref06_more.f k a0) (wicketmanref06_more.f (k + 1) a0) := by
 intro a0 k
 obtain ⟨ih0, ih1⟩ := wicketmanref06_more.mono_l k
 unfold wicketmanref06_more.f
 repeat' first|(with_reducible first|exact ih0 _ _|exact ih1 _ _|exact LeO.refl _|exact LeO.none _|refine LeO.ite ?_ ?_|refine LeO.bind ?_ (fun _ => ?_))|exact LeO.none _|refine LeO.ite ?_ ?_|refine LeO.bind ?_ (fun _ => ?_)
set_option maxHeartbeats 8000000 in
set_option maxRecDepth 100000 in
theorem wicketmanref06_more.calls (k : Nat) (a0 : Int) (r : Int) (w : World) (h : wicketmanref06_more.f k a0 = some r) :
  Calls Tryz.prog 183 #[.int .u8 a0] w fun e w' => e = .returned (.int .i64 r) ∧ Drawn0 w w' := by
 have H : (if a0 < 128 then (some 0) else (if a0 ≥ 194 then (wicketmanref06_more.j0 k a0 (decide (a0 ≤ 223))) else (wicketmanref06_more.j0 k a0 false))) = some r := h
 clear h
 by_cases c2 : a0 < 128
 ·rw [if_pos c2] at H
  have c2b0 : decide (a0 < 128) = true := decide_eq_true c2
  clear c2
  obtain rfl := Option.some.inj H
  go_enter Tryz.func183, Tryz.ntmps183
  go_wp2
  go_ret
  exact ⟨by first|rfl|(simp;done)|(simp [*];done), by repeat (first|exact Drawn0.refl _|apply Drawn0.step)⟩
 ·rw [if_neg c2] at H
  have c2b0 : decide (a0 < 128) = false := decide_eq_false c2
  clear c2
  have HC3 := aK H
  clear H
  go_enter Tryz.func183, Tryz.ntmps183
  go_upto_region 3 with (fail)
  go_cut [10] (fun v10 wc => ∃ (kq : Nat) (x10_2 : Bool), v10 = .bool x10_2 ∧ Aside0 (wicketmanref06_more.j0 kq a0 x10_2 = some r) ∧ Aside0 (kq ≤ k) ∧ Drawn0 w wc)
  case first =>
   have H := HC3.out
   clear HC3
   by_cases c4 : a0 ≥ 194
   ·rw [if_pos c4] at H
    have c4b0 : decide (194 ≤ a0) = true := decide_eq_true c4
    clear c4
    (first|rw [c4b0]|(simp only [i64_w, i32_w];rw [c4b0])|skip)
    have H' := aK H
    clear H
    go_wp2
    go_meet
    case rel => exact ⟨_, (decide (a0 ≤ 223)), (by first|rfl|(simp;done)|(simp [*];done)), H', ⟨by first|omega|exact Nat.le_refl _⟩, by repeat (first|exact Drawn0.refl _|apply Drawn0.step)⟩
   ·rw [if_neg c4] at H
    have c4b0 : decide (194 ≤ a0) = false := decide_eq_false c4
    clear c4
    (first|rw [c4b0]|(simp only [i64_w, i32_w];rw [c4b0])|skip)
    have H' := aK H
    clear H
    go_wp2
    go_meet
    case rel => exact ⟨_, (false), (by first|rfl|(simp;done)|(simp [*];done)), H', ⟨by first|omega|exact Nat.le_refl _⟩, by repeat (first|exact Drawn0.refl _|apply Drawn0.step)⟩
  case rest =>
   clear HC3
   try clear c1
   try clear c2
   try clear c2b0
   try clear p2
   try clear c4
   try clear c4b0
   obtain ⟨kq, x10_2, rfl, HA, HJ2, ⟨mc2, rfl⟩⟩ := hcut
   cases kq with
   | zero => exact absurd HA.out (by simp [wicketmanref06_more.j0])
   | succ kj2 =>
    have H := HA.out
    clear HA
    simp only [wicketmanref06_more.j0] at H
    by_cases c5 : x10_2 = true
    ·subst c5
     rw [if_pos rfl] at H
     obtain rfl := Option.some.inj H
     go_wp2
     go_ret
     exact ⟨by first|rfl|(simp;done)|(simp [*];done), by repeat (first|exact Drawn0.refl _|apply Drawn0.step)⟩
    ·replace c5 := Bool.eq_false_iff.mpr c5
     subst c5
     rw [if_neg (show ¬ (false = true) by decide)] at H
     have HC6 := aK H
     clear H
     go_upto_region 5 with (fail)
     go_cut [16] (fun v16 wc => ∃ (kq : Nat) (x16_5 : Bool), v16 = .bool x16_5 ∧ Aside0 (wicketmanref06_more.j1 kq a0 x16_5 = some r) ∧ Aside0 (kq ≤ kj2) ∧ Drawn0 w wc)
     case first =>
      have H := HC6.out
      clear HC6
      by_cases c7 : a0 ≥ 224
      ·rw [if_pos c7] at H
       have c7b0 : decide (224 ≤ a0) = true := decide_eq_true c7
       clear c7
       (first|rw [c7b0]|(simp only [i64_w, i32_w];rw [c7b0])|skip)
       have H' := aK H
       clear H
       go_wp2
       go_meet
       case rel => exact ⟨_, (decide (a0 ≤ 239)), (by first|rfl|(simp;done)|(simp [*];done)), H', ⟨by have := HJ2.out;first|omega|exact Nat.le_refl _⟩, by repeat (first|exact Drawn0.refl _|apply Drawn0.step)⟩
      ·rw [if_neg c7] at H
       have c7b0 : decide (224 ≤ a0) = false := decide_eq_false c7
       clear c7
       (first|rw [c7b0]|(simp only [i64_w, i32_w];rw [c7b0])|skip)
       have H' := aK H
       clear H
       go_wp2
       go_meet
       case rel => exact ⟨_, (false), (by first|rfl|(simp;done)|(simp [*];done)), H', ⟨by have := HJ2.out;first|omega|exact Nat.le_refl _⟩, by repeat (first|exact Drawn0.refl _|apply Drawn0.step)⟩
     case rest =>
      clear HC6
      try clear c1
      try clear c2
      try clear c2b0
      try clear p2
      try clear c4
      try clear c4b0
      try clear c5
      try clear c7
      try clear c7b0
      try clear p2
      obtain ⟨kq, x16_5, rfl, HA, HJ5, ⟨mc5, rfl⟩⟩ := hcut
      cases kq with
      | zero => exact absurd HA.out (by simp [wicketmanref06_more.j1])
      | succ kj5 =>
       have H := HA.out
       clear HA
       simp only [wicketmanref06_more.j1] at H
       by_cases c8 : x16_5 = true
       ·subst c8
        rw [if_pos rfl] at H
        obtain rfl := Option.some.inj H
        go_wp2
        go_ret
        exact ⟨by first|rfl|(simp;done)|(simp [*];done), by repeat (first|exact Drawn0.refl _|apply Drawn0.step)⟩
       ·replace c8 := Bool.eq_false_iff.mpr c8
        subst c8
        rw [if_neg (show ¬ (false = true) by decide)] at H
        by_cases c9 : a0 ≥ 240
        ·rw [if_pos c9] at H
         have c9b0 : decide (240 ≤ a0) = true := decide_eq_true c9
         clear c9
         by_cases c10 : a0 ≤ 244
         ·rw [if_pos c10] at H
          have c10b0 : decide (a0 ≤ 244) = true := decide_eq_true c10
          clear c10
          obtain rfl := Option.some.inj H
          go_wp2
          go_ret
          exact ⟨by first|rfl|(simp;done)|(simp [*];done), by repeat (first|exact Drawn0.refl _|apply Drawn0.step)⟩
         ·rw [if_neg c10] at H
          have c10b0 : decide (a0 ≤ 244) = false := decide_eq_false c10
          clear c10
          obtain rfl := Option.some.inj H
          go_wp2
          go_ret
          exact ⟨by first|rfl|(simp;done)|(simp [*];done), by repeat (first|exact Drawn0.refl _|apply Drawn0.step)⟩
        ·rw [if_neg c9] at H
         have c9b0 : decide (240 ≤ a0) = false := decide_eq_false c9
         clear c9
         obtain rfl := Option.some.inj H
         go_wp2
         go_ret
         exact ⟨by first|rfl|(simp;done)|(simp [*];done), by repeat (first|exact Drawn0.refl _|apply Drawn0.step)⟩
end Go.Proofs.YthdiiiopjkaifaaGreatDoor.Pall

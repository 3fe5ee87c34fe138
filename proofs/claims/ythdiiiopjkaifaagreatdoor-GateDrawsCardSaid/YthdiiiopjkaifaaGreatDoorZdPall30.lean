import Derived.Test.YthdiiiopjkaifaaGreatDoorZdPall0
namespace Go.Proofs.YthdiiiopjkaifaaGreatDoor.Pall
open Go.RowKit Go.Proofs.YthdiiiopjkaifaaGreatDoorW.PrintWords Go.Proofs.YthdiiiopjkaifaaGreatDoorW.PrintLast
set_option linter.unusedVariables false
set_option linter.unusedSimpArgs false
def cookie_Set.f (a0_0 : ByteArray) (a0_1 : ByteArray) (a1 : Int) : Option (ByteArray × Int) := (head_Token.f a0_0).bind fun t626 => (if t626 = true then ((cookie_octets.f a0_1).bind fun t627 => (if t627 = true then (if a1 < 0 then (some ((⟨#[]⟩ : BA), 1)) else (if a1 > 999999999 then (some ((⟨#[]⟩ : BA), 1)) else (if a0_0.size + 1 ≤ 9223372036854775807 then (if (a0_0 ++ (⟨#[61]⟩ : BA)).size + a0_1.size ≤ 9223372036854775807 then (if ((a0_0 ++ (⟨#[61]⟩ : BA)) ++ a0_1).size + 2 ≤ 9223372036854775807 then (if (((a0_0 ++ (⟨#[61]⟩ : BA)) ++ a0_1) ++ (⟨#[59, 32]⟩ : BA)).size + 8 ≤ 9223372036854775807 then ((strconv_Itoa.f a1).bind fun t628 => (if ((((a0_0 ++ (⟨#[61]⟩ : BA)) ++ a0_1) ++ (⟨#[59, 32]⟩ : BA)) ++ (⟨#[77, 97, 120, 45, 65, 103, 101, 61]⟩ : BA)).size + t628.size ≤ 9223372036854775807 then (if (((((a0_0 ++ (⟨#[61]⟩ : BA)) ++ a0_1) ++ (⟨#[59, 32]⟩ : BA)) ++ (⟨#[77, 97, 120, 45, 65, 103, 101, 61]⟩ : BA)) ++ t628).size + 43 ≤ 9223372036854775807 then (some ((((((a0_0 ++ (⟨#[61]⟩ : BA)) ++ a0_1) ++ (⟨#[59, 32]⟩ : BA)) ++ (⟨#[77, 97, 120, 45, 65, 103, 101, 61]⟩ : BA)) ++ t628) ++ (⟨#[59, 32, 80, 97, 116, 104, 61, 47, 59, 32, 83, 101, 99, 117, 114, 101, 59, 32, 72, 116, 116, 112, 79, 110, 108, 121, 59, 32, 83, 97, 109, 101, 83, 105, 116, 101, 61, 83, 116, 114, 105, 99, 116]⟩ : BA), 0)) else (none)) else (none))) else (none)) else (none)) else (none)) else (none)))) else (some ((⟨#[]⟩ : BA), 1)))) else (some ((⟨#[]⟩ : BA), 1)))
def cookie_Set.T3 : Bool × List (List Nat × List Nat) := (true, [([], []), ([0], [0]), ([1], [1]), ([], []), ([3], [3]), ([2, 4], [2, 4]), ([5], [5]), ([6], [6]), ([], []), ([8], [8]), ([7, 9], [7, 9]), ([10], [10]), ([11, 9, 0, 1, 2, 3, 4, 5, 6, 7, 8, 9, 10, 11], [11]), ([12, 0, 1, 2, 3, 4, 5, 6, 7, 8, 9, 10, 11, 12], [])])
def cookie_Set.B3 : List Nat := [0, 1, 3, 0, 8, 31, 63, 127, 0, 256, 1023, 2047, 4095, 8191]
theorem cookie_Set.tab3 : rtab .any (opsOf Tryz.f74 3) = cookie_Set.T3 := by kernel_rfl
theorem cookie_Set.bits3 : waitsOk cookie_Set.T3.2 cookie_Set.B3 = true := by kernel_rfl
set_option maxHeartbeats 8000000 in
set_option maxRecDepth 100000 in
theorem cookie_Set.calls (a0_0 : ByteArray) (a0_1 : ByteArray) (a1 : Int) (r1 : ByteArray) (r2 : Int) (w : World) (hT : Tb w) (h : cookie_Set.f a0_0 a0_1 a1 = some (r1, r2)) :
  Calls Tryz.prog 74 #[.agg #[.string a0_0, .string a0_1], .int .i64 a1] w fun e w' => e = .returned (.tuple #[.string r1, .int .u16 r2]) ∧ Below w.heap.size w w' := by
 have hu76 := Tryz.underlying76
 have HB := aK (Below.refl w.heap.size w)
 have H : ((head_Token.f a0_0).bind fun t626 => (if t626 = true then ((cookie_octets.f a0_1).bind fun t627 => (if t627 = true then (if a1 < 0 then (some ((⟨#[]⟩ : BA), 1)) else (if a1 > 999999999 then (some ((⟨#[]⟩ : BA), 1)) else (if a0_0.size + 1 ≤ 9223372036854775807 then (if (a0_0 ++ (⟨#[61]⟩ : BA)).size + a0_1.size ≤ 9223372036854775807 then (if ((a0_0 ++ (⟨#[61]⟩ : BA)) ++ a0_1).size + 2 ≤ 9223372036854775807 then (if (((a0_0 ++ (⟨#[61]⟩ : BA)) ++ a0_1) ++ (⟨#[59, 32]⟩ : BA)).size + 8 ≤ 9223372036854775807 then ((strconv_Itoa.f a1).bind fun t628 => (if ((((a0_0 ++ (⟨#[61]⟩ : BA)) ++ a0_1) ++ (⟨#[59, 32]⟩ : BA)) ++ (⟨#[77, 97, 120, 45, 65, 103, 101, 61]⟩ : BA)).size + t628.size ≤ 9223372036854775807 then (if (((((a0_0 ++ (⟨#[61]⟩ : BA)) ++ a0_1) ++ (⟨#[59, 32]⟩ : BA)) ++ (⟨#[77, 97, 120, 45, 65, 103, 101, 61]⟩ : BA)) ++ t628).size + 43 ≤ 9223372036854775807 then (some ((((((a0_0 ++ (⟨#[61]⟩ : BA)) ++ a0_1) ++ (⟨#[59, 32]⟩ : BA)) ++ (⟨#[77, 97, 120, 45, 65, 103, 101, 61]⟩ : BA)) ++ t628) ++ (⟨#[59, 32, 80, 97, 116, 104, 61, 47, 59, 32, 83, 101, 99, 117, 114, 101, 59, 32, 72, 116, 116, 112, 79, 110, 108, 121, 59, 32, 83, 97, 109, 101, 83, 105, 116, 101, 61, 83, 116, 114, 105, 99, 116]⟩ : BA), 0)) else (none)) else (none))) else (none)) else (none)) else (none)) else (none)))) else (some ((⟨#[]⟩ : BA), 1)))) else (some ((⟨#[]⟩ : BA), 1)))) = some (r1, r2) := h
 clear h
 replace H := Option.bind_eq_some_iff.mp H
 obtain ⟨t626, A30, H⟩ := H
 try dsimp only at H
 have A3 := aK A30
 clear A30
 by_cases c4 : t626 = true
 ·subst c4
  rw [if_pos rfl] at H
  replace H := Option.bind_eq_some_iff.mp H
  obtain ⟨t627, A50, H⟩ := H
  try dsimp only at H
  have A5 := aK A50
  clear A50
  by_cases c6 : t627 = true
  ·subst c6
   rw [if_pos rfl] at H
   by_cases c7 : a1 < 0
   ·rw [if_pos c7] at H
    have c7b0 : decide (a1 < 0) = true := decide_eq_true c7
    clear c7
    simp only [Option.some.injEq, Prod.mk.injEq] at H
    obtain ⟨rfl, rfl⟩ := H
    go_enter Tryz.func74, Tryz.ntmps74
    go_wp2_with (first|((with_reducible refine gate_dst (N := 2) rfl ?_);refine box_event ?hg (N := 2) ?hd (cs := #[.string a0_0, .string a0_1]) (t := 76) ?hr ?_;(case hd => rfl);(case hg => rfl);(case hr => first|(go_simp;done)|(go_simp;rfl));intro gb625 hg w8 hbox hb;have n0_ := aK (below_step (by repeat (first|(with_reducible first|apply bA|apply bN|apply bD)|exact HB.out)) hb);have n1_ := aK (hbox);have n2_ := aK ((by rw [hg];exact (below_size (by repeat (first|(with_reducible first|apply bA|apply bN|apply bD)|exact HB.out))) : w.heap.size ≤ gb625));have n3_ := aK ((by rw [hg];exact (below_size (by repeat (first|(with_reducible first|apply bA|apply bN|apply bD)|exact HB.out))) : w.heap.size ≤ gb625));clear HB;have HB := n0_;have BK625 := n1_;have GW625 := n2_;have GE625 := n3_;clear n0_ n1_ n2_ n3_;clear hb hbox hg;have hcz9_0 : w8.cell? ⟨gb625, 0, none⟩ = some (.string a0_0) := (blk_cell BK625.out 0).trans rfl;have hcz9_1 : w8.cell? ⟨gb625, 1, none⟩ = some (.string a0_1) := (blk_cell BK625.out 1).trans rfl;have hfz9_0 := blk_frozen BK625.out 0;have hfz9_1 := blk_frozen BK625.out 1)|((with_reducible refine gate_callee (f := 121) rfl ?_);refine goesL_ (some 8) rfl rfl Tryz.func121 (by kernel_rfl) rfl #[.string a0_0] rfl (by (try simp only [List.map_toArray, List.map_cons, List.map_nil]);first|done|rfl|(simp only [List.length_drop, List.length_take];rfl)) ?_;(with_reducible refine (head_Token.calls a0_0 true _ A3.out).mono ?_);rintro e w10 ⟨rfl, hb⟩;refine ⟨_, rfl, ?_⟩;have n0_ := aK (blk_below (g := gb625) (o := .cells #[.string a0_0, .string a0_1] 76 (0, 0)) (by (with_reducible repeat (first|refine blk_drewN ?_ _|refine blk_drew ?_|refine blk_alloc ?_ _));exact BK625.out) hb);have n1_ := aK (below_step (by repeat (first|(with_reducible first|apply bA|apply bN|apply bD|refine below_set ?_ GE625.out)|exact HB.out)) hb);clear BK625;clear HB;have BK625 := n0_;have HB := n1_;clear n0_ n1_;try clear hb;have hcz11_0 : w10.cell? ⟨gb625, 0, none⟩ = some (.string a0_0) := (blk_cell BK625.out 0).trans rfl;have hcz11_1 : w10.cell? ⟨gb625, 1, none⟩ = some (.string a0_1) := (blk_cell BK625.out 1).trans rfl;have hfz11_0 := blk_frozen BK625.out 0;have hfz11_1 := blk_frozen BK625.out 1)|(go_at_call 122;(with_reducible refine (cookie_octets.calls a0_1 true _ A5.out).mono ?_);rintro e w12 ⟨rfl, hb⟩;have n0_ := aK (blk_below (g := gb625) (o := .cells #[.string a0_0, .string a0_1] 76 (0, 0)) (by (with_reducible repeat (first|refine blk_drewN ?_ _|refine blk_drew ?_|refine blk_alloc ?_ _));exact BK625.out) hb);have n1_ := aK (below_step (by repeat (first|(with_reducible first|apply bA|apply bN|apply bD|refine below_set ?_ GE625.out)|exact HB.out)) hb);clear BK625;clear HB;have BK625 := n0_;have HB := n1_;clear n0_ n1_;try clear hb))
    go_ret2
    exact ⟨by first|rfl|(simp [errW_none, errW_some] <;> rfl)|(simp [*, errW_none, errW_some] <;> rfl), by repeat (first|(with_reducible first|apply bA|apply bN|apply bD|refine below_set ?_ GE625.out)|exact HB.out)⟩
   ·rw [if_neg c7] at H
    have c7b0 : decide (a1 < 0) = false := decide_eq_false c7
    clear c7
    by_cases c13 : a1 > 999999999
    ·rw [if_pos c13] at H
     have c13b0 : decide (999999999 < a1) = true := decide_eq_true c13
     clear c13
     simp only [Option.some.injEq, Prod.mk.injEq] at H
     obtain ⟨rfl, rfl⟩ := H
     go_enter Tryz.func74, Tryz.ntmps74
     go_wp2_with (first|((with_reducible refine gate_dst (N := 2) rfl ?_);refine box_event ?hg (N := 2) ?hd (cs := #[.string a0_0, .string a0_1]) (t := 76) ?hr ?_;(case hd => rfl);(case hg => rfl);(case hr => first|(go_simp;done)|(go_simp;rfl));intro gb625 hg w14 hbox hb;have n0_ := aK (below_step (by repeat (first|(with_reducible first|apply bA|apply bN|apply bD)|exact HB.out)) hb);have n1_ := aK (hbox);have n2_ := aK ((by rw [hg];exact (below_size (by repeat (first|(with_reducible first|apply bA|apply bN|apply bD)|exact HB.out))) : w.heap.size ≤ gb625));have n3_ := aK ((by rw [hg];exact (below_size (by repeat (first|(with_reducible first|apply bA|apply bN|apply bD)|exact HB.out))) : w.heap.size ≤ gb625));clear HB;have HB := n0_;have BK625 := n1_;have GW625 := n2_;have GE625 := n3_;clear n0_ n1_ n2_ n3_;clear hb hbox hg;have hcz15_0 : w14.cell? ⟨gb625, 0, none⟩ = some (.string a0_0) := (blk_cell BK625.out 0).trans rfl;have hcz15_1 : w14.cell? ⟨gb625, 1, none⟩ = some (.string a0_1) := (blk_cell BK625.out 1).trans rfl;have hfz15_0 := blk_frozen BK625.out 0;have hfz15_1 := blk_frozen BK625.out 1)|((with_reducible refine gate_callee (f := 121) rfl ?_);refine goesL_ (some 8) rfl rfl Tryz.func121 (by kernel_rfl) rfl #[.string a0_0] rfl (by (try simp only [List.map_toArray, List.map_cons, List.map_nil]);first|done|rfl|(simp only [List.length_drop, List.length_take];rfl)) ?_;(with_reducible refine (head_Token.calls a0_0 true _ A3.out).mono ?_);rintro e w16 ⟨rfl, hb⟩;refine ⟨_, rfl, ?_⟩;have n0_ := aK (blk_below (g := gb625) (o := .cells #[.string a0_0, .string a0_1] 76 (0, 0)) (by (with_reducible repeat (first|refine blk_drewN ?_ _|refine blk_drew ?_|refine blk_alloc ?_ _));exact BK625.out) hb);have n1_ := aK (below_step (by repeat (first|(with_reducible first|apply bA|apply bN|apply bD|refine below_set ?_ GE625.out)|exact HB.out)) hb);clear BK625;clear HB;have BK625 := n0_;have HB := n1_;clear n0_ n1_;try clear hb;have hcz17_0 : w16.cell? ⟨gb625, 0, none⟩ = some (.string a0_0) := (blk_cell BK625.out 0).trans rfl;have hcz17_1 : w16.cell? ⟨gb625, 1, none⟩ = some (.string a0_1) := (blk_cell BK625.out 1).trans rfl;have hfz17_0 := blk_frozen BK625.out 0;have hfz17_1 := blk_frozen BK625.out 1)|(go_at_call 122;(with_reducible refine (cookie_octets.calls a0_1 true _ A5.out).mono ?_);rintro e w18 ⟨rfl, hb⟩;have n0_ := aK (blk_below (g := gb625) (o := .cells #[.string a0_0, .string a0_1] 76 (0, 0)) (by (with_reducible repeat (first|refine blk_drewN ?_ _|refine blk_drew ?_|refine blk_alloc ?_ _));exact BK625.out) hb);have n1_ := aK (below_step (by repeat (first|(with_reducible first|apply bA|apply bN|apply bD|refine below_set ?_ GE625.out)|exact HB.out)) hb);clear BK625;clear HB;have BK625 := n0_;have HB := n1_;clear n0_ n1_;try clear hb))
     go_ret2
     exact ⟨by first|rfl|(simp [errW_none, errW_some] <;> rfl)|(simp [*, errW_none, errW_some] <;> rfl), by repeat (first|(with_reducible first|apply bA|apply bN|apply bD|refine below_set ?_ GE625.out)|exact HB.out)⟩
    ·rw [if_neg c13] at H
     have c13b0 : decide (999999999 < a1) = false := decide_eq_false c13
     clear c13
     by_cases c19 : a0_0.size + 1 ≤ 9223372036854775807
     ·rw [if_pos c19] at H
      have c19b0 := eq_true c19
      have c19b1 : decide (a0_0.size + 1 ≤ 9223372036854775807) = true := decide_eq_true c19
      try have c19b2 : (9223372036854775807 < a0_0.size + 1) = False := eq_false (Nat.not_lt.2 c19)
      by_cases c20 : (a0_0 ++ (⟨#[61]⟩ : BA)).size + a0_1.size ≤ 9223372036854775807
      ·rw [if_pos c20] at H
       have c20b0 := eq_true c20
       have c20b1 : decide ((a0_0 ++ (⟨#[61]⟩ : BA)).size + a0_1.size ≤ 9223372036854775807) = true := decide_eq_true c20
       try have c20b2 : (9223372036854775807 < (a0_0 ++ (⟨#[61]⟩ : BA)).size + a0_1.size) = False := eq_false (Nat.not_lt.2 c20)
       try (have c20b8 := c20b2;simp only [ByteArray.size_append, show ((⟨#[61]⟩ : BA) : ByteArray).size = 1 from rfl] at c20b8)
       by_cases c21 : ((a0_0 ++ (⟨#[61]⟩ : BA)) ++ a0_1).size + 2 ≤ 9223372036854775807
       ·rw [if_pos c21] at H
        have c21b0 := eq_true c21
        have c21b1 : decide (((a0_0 ++ (⟨#[61]⟩ : BA)) ++ a0_1).size + 2 ≤ 9223372036854775807) = true := decide_eq_true c21
        try have c21b2 : (9223372036854775807 < ((a0_0 ++ (⟨#[61]⟩ : BA)) ++ a0_1).size + 2) = False := eq_false (Nat.not_lt.2 c21)
        try (have c21b8 := c21b2;simp only [ByteArray.size_append, show ((⟨#[61]⟩ : BA) : ByteArray).size = 1 from rfl] at c21b8)
        by_cases c22 : (((a0_0 ++ (⟨#[61]⟩ : BA)) ++ a0_1) ++ (⟨#[59, 32]⟩ : BA)).size + 8 ≤ 9223372036854775807
        ·rw [if_pos c22] at H
         have c22b0 := eq_true c22
         have c22b1 : decide ((((a0_0 ++ (⟨#[61]⟩ : BA)) ++ a0_1) ++ (⟨#[59, 32]⟩ : BA)).size + 8 ≤ 9223372036854775807) = true := decide_eq_true c22
         try have c22b2 : (9223372036854775807 < (((a0_0 ++ (⟨#[61]⟩ : BA)) ++ a0_1) ++ (⟨#[59, 32]⟩ : BA)).size + 8) = False := eq_false (Nat.not_lt.2 c22)
         try (have c22b8 := c22b2;simp only [ByteArray.size_append, show ((⟨#[59, 32]⟩ : BA) : ByteArray).size = 2 from rfl, show ((⟨#[61]⟩ : BA) : ByteArray).size = 1 from rfl] at c22b8)
         replace H := Option.bind_eq_some_iff.mp H
         obtain ⟨t628, A230, H⟩ := H
         try dsimp only at H
         have A23 := aK A230
         clear A230
         by_cases c24 : ((((a0_0 ++ (⟨#[61]⟩ : BA)) ++ a0_1) ++ (⟨#[59, 32]⟩ : BA)) ++ (⟨#[77, 97, 120, 45, 65, 103, 101, 61]⟩ : BA)).size + t628.size ≤ 9223372036854775807
         ·rw [if_pos c24] at H
          have c24b0 := eq_true c24
          have c24b1 : decide (((((a0_0 ++ (⟨#[61]⟩ : BA)) ++ a0_1) ++ (⟨#[59, 32]⟩ : BA)) ++ (⟨#[77, 97, 120, 45, 65, 103, 101, 61]⟩ : BA)).size + t628.size ≤ 9223372036854775807) = true := decide_eq_true c24
          try have c24b2 : (9223372036854775807 < ((((a0_0 ++ (⟨#[61]⟩ : BA)) ++ a0_1) ++ (⟨#[59, 32]⟩ : BA)) ++ (⟨#[77, 97, 120, 45, 65, 103, 101, 61]⟩ : BA)).size + t628.size) = False := eq_false (Nat.not_lt.2 c24)
          try (have c24b8 := c24b2;simp only [ByteArray.size_append, show ((⟨#[59, 32]⟩ : BA) : ByteArray).size = 2 from rfl, show ((⟨#[61]⟩ : BA) : ByteArray).size = 1 from rfl, show ((⟨#[77, 97, 120, 45, 65, 103, 101, 61]⟩ : BA) : ByteArray).size = 8 from rfl] at c24b8)
          by_cases c25 : (((((a0_0 ++ (⟨#[61]⟩ : BA)) ++ a0_1) ++ (⟨#[59, 32]⟩ : BA)) ++ (⟨#[77, 97, 120, 45, 65, 103, 101, 61]⟩ : BA)) ++ t628).size + 43 ≤ 9223372036854775807
          ·rw [if_pos c25] at H
           have c25b0 := eq_true c25
           have c25b1 : decide ((((((a0_0 ++ (⟨#[61]⟩ : BA)) ++ a0_1) ++ (⟨#[59, 32]⟩ : BA)) ++ (⟨#[77, 97, 120, 45, 65, 103, 101, 61]⟩ : BA)) ++ t628).size + 43 ≤ 9223372036854775807) = true := decide_eq_true c25
           try have c25b2 : (9223372036854775807 < (((((a0_0 ++ (⟨#[61]⟩ : BA)) ++ a0_1) ++ (⟨#[59, 32]⟩ : BA)) ++ (⟨#[77, 97, 120, 45, 65, 103, 101, 61]⟩ : BA)) ++ t628).size + 43) = False := eq_false (Nat.not_lt.2 c25)
           try (have c25b8 := c25b2;simp only [ByteArray.size_append, show ((⟨#[59, 32]⟩ : BA) : ByteArray).size = 2 from rfl, show ((⟨#[61]⟩ : BA) : ByteArray).size = 1 from rfl, show ((⟨#[77, 97, 120, 45, 65, 103, 101, 61]⟩ : BA) : ByteArray).size = 8 from rfl] at c25b8)
           simp only [Option.some.injEq, Prod.mk.injEq] at H
           obtain ⟨rfl, rfl⟩ := H
           go_enter Tryz.func74, Tryz.ntmps74
           try go_wp2_with (first|((with_reducible refine gate_dst (N := 2) rfl ?_);refine box_event ?hg (N := 2) ?hd (cs := #[.string a0_0, .string a0_1]) (t := 76) ?hr ?_;(case hd => rfl);(case hg => rfl);(case hr => first|(go_simp;done)|(go_simp;rfl));intro gb625 hg w26 hbox hb;have n0_ := aK (below_step (by repeat (first|(with_reducible first|apply bA|apply bN|apply bD)|exact HB.out)) hb);have n1_ := aK (hbox);have n2_ := aK ((by rw [hg];exact (below_size (by repeat (first|(with_reducible first|apply bA|apply bN|apply bD)|exact HB.out))) : w.heap.size ≤ gb625));have n3_ := aK ((by rw [hg];exact (below_size (by repeat (first|(with_reducible first|apply bA|apply bN|apply bD)|exact HB.out))) : w.heap.size ≤ gb625));clear HB;have HB := n0_;have BK625 := n1_;have GW625 := n2_;have GE625 := n3_;clear n0_ n1_ n2_ n3_;clear hb hbox hg;have hcz27_0 : w26.cell? ⟨gb625, 0, none⟩ = some (.string a0_0) := (blk_cell BK625.out 0).trans rfl;have hcz27_1 : w26.cell? ⟨gb625, 1, none⟩ = some (.string a0_1) := (blk_cell BK625.out 1).trans rfl;have hfz27_0 := blk_frozen BK625.out 0;have hfz27_1 := blk_frozen BK625.out 1)|((with_reducible refine gate_callee (f := 121) rfl ?_);refine goesL_ (some 8) rfl rfl Tryz.func121 (by kernel_rfl) rfl #[.string a0_0] rfl (by (try simp only [List.map_toArray, List.map_cons, List.map_nil]);first|done|rfl|(simp only [List.length_drop, List.length_take];rfl)) ?_;(with_reducible refine (head_Token.calls a0_0 true _ A3.out).mono ?_);rintro e w28 ⟨rfl, hb⟩;refine ⟨_, rfl, ?_⟩;have n0_ := aK (blk_below (g := gb625) (o := .cells #[.string a0_0, .string a0_1] 76 (0, 0)) (by (with_reducible repeat (first|refine blk_drewN ?_ _|refine blk_drew ?_|refine blk_alloc ?_ _));exact BK625.out) hb);have n1_ := aK (below_step (by repeat (first|(with_reducible first|apply bA|apply bN|apply bD|refine below_set ?_ GE625.out)|exact HB.out)) hb);clear BK625;clear HB;have BK625 := n0_;have HB := n1_;clear n0_ n1_;try clear hb;have hcz29_0 : w28.cell? ⟨gb625, 0, none⟩ = some (.string a0_0) := (blk_cell BK625.out 0).trans rfl;have hcz29_1 : w28.cell? ⟨gb625, 1, none⟩ = some (.string a0_1) := (blk_cell BK625.out 1).trans rfl;have hfz29_0 := blk_frozen BK625.out 0;have hfz29_1 := blk_frozen BK625.out 1)|(go_at_call 122;(with_reducible refine (cookie_octets.calls a0_1 true _ A5.out).mono ?_);rintro e w30 ⟨rfl, hb⟩;have n0_ := aK (blk_below (g := gb625) (o := .cells #[.string a0_0, .string a0_1] 76 (0, 0)) (by (with_reducible repeat (first|refine blk_drewN ?_ _|refine blk_drew ?_|refine blk_alloc ?_ _));exact BK625.out) hb);have n1_ := aK (below_step (by repeat (first|(with_reducible first|apply bA|apply bN|apply bD|refine below_set ?_ GE625.out)|exact HB.out)) hb);clear BK625;clear HB;have BK625 := n0_;have HB := n1_;clear n0_ n1_;try clear hb))
           have n0_ := aK (blk_drew BK625.out)
           have n1_ := aK (below_drew1 HB.out)
           clear BK625
           clear HB
           have BK625 := n0_
           have HB := n1_
           clear n0_ n1_
           refine start_ (n := 14) (S := fun w' => w'.cell? ⟨gb625, 0, none⟩ = some (.string a0_0) ∧ w'.cell? ⟨gb625, 1, none⟩ = some (.string a0_1)) (ds := []) #[false, false, false, false, false, false, false, false, false, false, false, false, false, false] (by kernel_rfl) rfl rfl ⟨(blk_cell BK625.out 0).trans rfl, (blk_cell BK625.out 1).trans rfl⟩ (fun hHeld => ?_);refine with_tabW cookie_Set.tab3 cookie_Set.bits3 (fun HT_ HW_ => ?_)
           generalize w30.drew = w31 at BK625 HB hHeld ⊢
           refine pure_ (i := 0) (N := some 24) (v := ?_) (a' := ?_) #[true, false, false, false, false, false, false, false, false, false, false, false, false, false] rfl rfl (any_of HT_.out (by kernel_rfl)) (fun _ _ _ h => h) (Or.inl ⟨by rfl, ?_⟩) ?_ ?_
           rotate_left
           ·intro w'
            go_simp
            with_reducible rfl
           rotate_left
           ·simp only [Act.put, List.setIfInBounds_toArray, List.set_cons_zero, List.set_cons_succ, i64_w, i32_w]
            rfl
           refine pure_ (i := 3) (N := some 27) (v := ?_) (a' := ?_) #[true, false, false, true, false, false, false, false, false, false, false, false, false, false] rfl rfl (any_of HT_.out (by kernel_rfl)) (fun _ _ _ h => h) (Or.inl ⟨by rfl, ?_⟩) ?_ ?_
           rotate_left
           ·intro w'
            go_simp
            with_reducible rfl
           rotate_left
           ·simp only [Act.put, List.setIfInBounds_toArray, List.set_cons_zero, List.set_cons_succ, i64_w, i32_w]
            rfl
           refine pure_ (i := 8) (N := some 32) (v := ?_) (a' := ?_) #[true, false, false, true, false, false, false, false, true, false, false, false, false, false] rfl rfl (any_of HT_.out (by kernel_rfl)) (fun _ _ _ h => h) (Or.inl ⟨by rfl, ?_⟩) ?_ ?_
           rotate_left
           ·intro w'
            go_simp
            with_reducible rfl
           rotate_left
           ·simp only [Act.put, List.setIfInBounds_toArray, List.set_cons_zero, List.set_cons_succ, i64_w, i32_w]
            rfl
           refine take_ (i := 1) (N := some 25) (v := ?_) (a' := ?_) #[true, true, false, true, false, false, false, false, true, false, false, false, false, false] rfl rfl (take_ofW HT_.out HW_.out (by kernel_rfl)) (fun _ _ _ h => h) (Or.inl ⟨by rfl, ?_⟩) hHeld ?_ ?_
           rotate_left
           ·rintro w' ⟨s0, s1⟩
            go_simp
            with_reducible rfl
           rotate_left
           ·simp only [Act.put, List.setIfInBounds_toArray, List.set_cons_zero, List.set_cons_succ, i64_w, i32_w]
            rfl
           refine pure_ (i := 2) (N := some 26) (v := ?_) (a' := ?_) #[true, true, true, true, false, false, false, false, true, false, false, false, false, false] rfl rfl (any_of HT_.out (by kernel_rfl)) (fun _ _ _ h => h) (Or.inl ⟨by rfl, ?_⟩) ?_ ?_
           rotate_left
           ·intro w'
            go_simp
            with_reducible rfl
           rotate_left
           ·simp only [Act.put, List.setIfInBounds_toArray, List.set_cons_zero, List.set_cons_succ, i64_w, i32_w]
            rfl
           refine take_ (i := 4) (N := some 28) (v := ?_) (a' := ?_) #[true, true, true, true, true, false, false, false, true, false, false, false, false, false] rfl rfl (take_ofW HT_.out HW_.out (by kernel_rfl)) (fun _ _ _ h => h) (Or.inl ⟨by rfl, ?_⟩) hHeld ?_ ?_
           rotate_left
           ·rintro w' ⟨s0, s1⟩
            go_simp
            with_reducible rfl
           rotate_left
           ·simp only [Act.put, List.setIfInBounds_toArray, List.set_cons_zero, List.set_cons_succ, i64_w, i32_w]
            rfl
           refine pure_ (i := 5) (N := some 29) (v := ?_) (a' := ?_) #[true, true, true, true, true, true, false, false, true, false, false, false, false, false] rfl rfl (any_of HT_.out (by kernel_rfl)) (fun _ _ _ h => h) (Or.inl ⟨by rfl, ?_⟩) ?_ ?_
           rotate_left
           ·intro w'
            go_simp
            with_reducible rfl
           rotate_left
           ·simp only [Act.put, List.setIfInBounds_toArray, List.set_cons_zero, List.set_cons_succ, i64_w, i32_w]
            rfl
           refine pure_ (i := 6) (N := some 30) (v := ?_) (a' := ?_) #[true, true, true, true, true, true, true, false, true, false, false, false, false, false] rfl rfl (any_of HT_.out (by kernel_rfl)) (fun _ _ _ h => h) (Or.inl ⟨by rfl, ?_⟩) ?_ ?_
           rotate_left
           ·intro w'
            go_simp
            with_reducible rfl
           rotate_left
           ·simp only [Act.put, List.setIfInBounds_toArray, List.set_cons_zero, List.set_cons_succ, i64_w, i32_w]
            rfl
           refine pure_ (i := 7) (N := some 31) (v := ?_) (a' := ?_) #[true, true, true, true, true, true, true, true, true, false, false, false, false, false] rfl rfl (any_of HT_.out (by kernel_rfl)) (fun _ _ _ h => h) (Or.inl ⟨by rfl, ?_⟩) ?_ ?_
           rotate_left
           ·intro w'
            go_simp
            with_reducible rfl
           rotate_left
           ·simp only [Act.put, List.setIfInBounds_toArray, List.set_cons_zero, List.set_cons_succ, i64_w, i32_w]
            rfl
           refine one_ (i := 9) (N := some 33) #[true, true, true, true, true, true, true, true, true, true, false, false, false, false] rfl rfl (one_of HT_.out (by kernel_rfl)) (by decide) (fun K hK => ?_)
           refine goes_ Tryz.func112 (by kernel_rfl) rfl #[.int .i64 a1] (by rfl) rfl rfl (by (try simp only [List.map_toArray, List.map_cons, List.map_nil]);first|done|rfl|(simp only [List.length_drop, List.length_take];rfl)) ?_
           with_reducible refine (strconv_Itoa.calls a1 t628 _ (by first|exact hT|(refine Tb.of_below hT ?_;repeat (first|(with_reducible first|apply bA|apply bN|apply bD)|exact HB.out|refine Below.setCell ?_ (Aside0.out (by assumption)) _))|(refine Tb.of_below hT ?_;assumption)) A23.out).mono ?_
           rintro e w32 ⟨rfl, hb⟩
           refine ⟨_, rfl, ?_⟩
           have n0_ := aK (blk_below (g := gb625) (o := .cells #[.string a0_0, .string a0_1] 76 (0, 0)) (by (with_reducible repeat (first|refine blk_drewN ?_ _|refine blk_drew ?_|refine blk_alloc ?_ _));exact BK625.out) hb)
           have n1_ := aK (below_step (by repeat (first|(with_reducible first|apply bA|apply bN|apply bD|refine below_set ?_ GE625.out)|exact HB.out)) hb)
           clear BK625
           clear HB
           have BK625 := n0_
           have HB := n1_
           clear n0_ n1_
           (try clear hb)
           (try clear hb2)
           (try clear hk)
           (try clear hi)
           refine hK.out _ _ ⟨(blk_cell BK625.out 0).trans rfl, (blk_cell BK625.out 1).trans rfl⟩ (fun hHeld => ?_)
           clear hK K
           refine norm_ (a' := ?_) ?_ ?_
           rotate_left
           ·show Act.put _ (some 33) _ = _
            simp only [Act.put, List.setIfInBounds_toArray, List.set_cons_zero, List.set_cons_succ, i64_w, i32_w]
            rfl
           refine pure_ (i := 10) (N := some 34) (v := ?_) (a' := ?_) #[true, true, true, true, true, true, true, true, true, true, true, false, false, false] rfl rfl (any_of HT_.out (by kernel_rfl)) (fun _ _ _ h => h) (Or.inl ⟨by rfl, ?_⟩) ?_ ?_
           rotate_left
           ·intro w'
            go_simp
            with_reducible rfl
           rotate_left
           ·simp only [Act.put, List.setIfInBounds_toArray, List.set_cons_zero, List.set_cons_succ, i64_w, i32_w]
            rfl
           refine pure_ (i := 11) (N := some 35) (v := ?_) (a' := ?_) #[true, true, true, true, true, true, true, true, true, true, true, true, false, false] rfl rfl (any_of HT_.out (by kernel_rfl)) (fun _ _ _ h => h) (Or.inl ⟨by rfl, ?_⟩) ?_ ?_
           rotate_left
           ·intro w'
            go_simp
            with_reducible rfl
           rotate_left
           ·simp only [Act.put, List.setIfInBounds_toArray, List.set_cons_zero, List.set_cons_succ, i64_w, i32_w]
            rfl
           refine pure_ (i := 12) (N := some 4) (v := ?_) (a' := ?_) #[true, true, true, true, true, true, true, true, true, true, true, true, true, false] rfl rfl (any_of HT_.out (by kernel_rfl)) (fun _ _ _ h => h) (Or.inl ⟨by rfl, ?_⟩) ?_ ?_
           rotate_left
           ·intro w'
            go_simp
            with_reducible rfl
           rotate_left
           ·simp only [Act.put, List.setIfInBounds_toArray, List.set_cons_zero, List.set_cons_succ, i64_w, i32_w]
            rfl
           refine pure_ (i := 13) (N := some 5) (v := ?_) (a' := ?_) #[true, true, true, true, true, true, true, true, true, true, true, true, true, true] rfl rfl (any_of HT_.out (by kernel_rfl)) (fun _ _ _ h => h) (Or.inl ⟨by rfl, ?_⟩) ?_ ?_
           rotate_left
           ·intro w'
            go_simp
            with_reducible rfl
           rotate_left
           ·simp only [Act.put, List.setIfInBounds_toArray, List.set_cons_zero, List.set_cons_succ, i64_w, i32_w]
            rfl
           refine done_ (done_of HT_.out (by kernel_rfl)) ?_
           try go_wp2
           go_ret2
           exact ⟨by first|rfl|(simp [errW_none, errW_some] <;> rfl)|(simp [*, errW_none, errW_some] <;> rfl), by repeat (first|(with_reducible first|apply bA|apply bN|apply bD|refine below_set ?_ GE625.out)|exact HB.out)⟩
          ·rw [if_neg c25] at H
           exact absurd H (by simp)
         ·rw [if_neg c24] at H
          exact absurd H (by simp)
        ·rw [if_neg c22] at H
         exact absurd H (by simp)
       ·rw [if_neg c21] at H
        exact absurd H (by simp)
      ·rw [if_neg c20] at H
       exact absurd H (by simp)
     ·rw [if_neg c19] at H
      exact absurd H (by simp)
  ·replace c6 := Bool.eq_false_iff.mpr c6
   subst c6
   rw [if_neg (show ¬ (false = true) by decide)] at H
   simp only [Option.some.injEq, Prod.mk.injEq] at H
   obtain ⟨rfl, rfl⟩ := H
   go_enter Tryz.func74, Tryz.ntmps74
   go_wp2_with (first|((with_reducible refine gate_dst (N := 2) rfl ?_);refine box_event ?hg (N := 2) ?hd (cs := #[.string a0_0, .string a0_1]) (t := 76) ?hr ?_;(case hd => rfl);(case hg => rfl);(case hr => first|(go_simp;done)|(go_simp;rfl));intro gb625 hg w33 hbox hb;have n0_ := aK (below_step (by repeat (first|(with_reducible first|apply bA|apply bN|apply bD)|exact HB.out)) hb);have n1_ := aK (hbox);have n2_ := aK ((by rw [hg];exact (below_size (by repeat (first|(with_reducible first|apply bA|apply bN|apply bD)|exact HB.out))) : w.heap.size ≤ gb625));have n3_ := aK ((by rw [hg];exact (below_size (by repeat (first|(with_reducible first|apply bA|apply bN|apply bD)|exact HB.out))) : w.heap.size ≤ gb625));clear HB;have HB := n0_;have BK625 := n1_;have GW625 := n2_;have GE625 := n3_;clear n0_ n1_ n2_ n3_;clear hb hbox hg;have hcz34_0 : w33.cell? ⟨gb625, 0, none⟩ = some (.string a0_0) := (blk_cell BK625.out 0).trans rfl;have hcz34_1 : w33.cell? ⟨gb625, 1, none⟩ = some (.string a0_1) := (blk_cell BK625.out 1).trans rfl;have hfz34_0 := blk_frozen BK625.out 0;have hfz34_1 := blk_frozen BK625.out 1)|((with_reducible refine gate_callee (f := 121) rfl ?_);refine goesL_ (some 8) rfl rfl Tryz.func121 (by kernel_rfl) rfl #[.string a0_0] rfl (by (try simp only [List.map_toArray, List.map_cons, List.map_nil]);first|done|rfl|(simp only [List.length_drop, List.length_take];rfl)) ?_;(with_reducible refine (head_Token.calls a0_0 true _ A3.out).mono ?_);rintro e w35 ⟨rfl, hb⟩;refine ⟨_, rfl, ?_⟩;have n0_ := aK (blk_below (g := gb625) (o := .cells #[.string a0_0, .string a0_1] 76 (0, 0)) (by (with_reducible repeat (first|refine blk_drewN ?_ _|refine blk_drew ?_|refine blk_alloc ?_ _));exact BK625.out) hb);have n1_ := aK (below_step (by repeat (first|(with_reducible first|apply bA|apply bN|apply bD|refine below_set ?_ GE625.out)|exact HB.out)) hb);clear BK625;clear HB;have BK625 := n0_;have HB := n1_;clear n0_ n1_;try clear hb;have hcz36_0 : w35.cell? ⟨gb625, 0, none⟩ = some (.string a0_0) := (blk_cell BK625.out 0).trans rfl;have hcz36_1 : w35.cell? ⟨gb625, 1, none⟩ = some (.string a0_1) := (blk_cell BK625.out 1).trans rfl;have hfz36_0 := blk_frozen BK625.out 0;have hfz36_1 := blk_frozen BK625.out 1)|(go_at_call 122;(with_reducible refine (cookie_octets.calls a0_1 false _ A5.out).mono ?_);rintro e w37 ⟨rfl, hb⟩;have n0_ := aK (blk_below (g := gb625) (o := .cells #[.string a0_0, .string a0_1] 76 (0, 0)) (by (with_reducible repeat (first|refine blk_drewN ?_ _|refine blk_drew ?_|refine blk_alloc ?_ _));exact BK625.out) hb);have n1_ := aK (below_step (by repeat (first|(with_reducible first|apply bA|apply bN|apply bD|refine below_set ?_ GE625.out)|exact HB.out)) hb);clear BK625;clear HB;have BK625 := n0_;have HB := n1_;clear n0_ n1_;try clear hb))
   go_ret2
   exact ⟨by first|rfl|(simp [errW_none, errW_some] <;> rfl)|(simp [*, errW_none, errW_some] <;> rfl), by repeat (first|(with_reducible first|apply bA|apply bN|apply bD|refine below_set ?_ GE625.out)|exact HB.out)⟩
 ·replace c4 := Bool.eq_false_iff.mpr c4
  subst c4
  rw [if_neg (show ¬ (false = true) by decide)] at H
  simp only [Option.some.injEq, Prod.mk.injEq] at H
  obtain ⟨rfl, rfl⟩ := H
  go_enter Tryz.func74, Tryz.ntmps74
  go_wp2_with (first|((with_reducible refine gate_dst (N := 2) rfl ?_);refine box_event ?hg (N := 2) ?hd (cs := #[.string a0_0, .string a0_1]) (t := 76) ?hr ?_;(case hd => rfl);(case hg => rfl);(case hr => first|(go_simp;done)|(go_simp;rfl));intro gb625 hg w38 hbox hb;have n0_ := aK (below_step (by repeat (first|(with_reducible first|apply bA|apply bN|apply bD)|exact HB.out)) hb);have n1_ := aK (hbox);have n2_ := aK ((by rw [hg];exact (below_size (by repeat (first|(with_reducible first|apply bA|apply bN|apply bD)|exact HB.out))) : w.heap.size ≤ gb625));have n3_ := aK ((by rw [hg];exact (below_size (by repeat (first|(with_reducible first|apply bA|apply bN|apply bD)|exact HB.out))) : w.heap.size ≤ gb625));clear HB;have HB := n0_;have BK625 := n1_;have GW625 := n2_;have GE625 := n3_;clear n0_ n1_ n2_ n3_;clear hb hbox hg;have hcz39_0 : w38.cell? ⟨gb625, 0, none⟩ = some (.string a0_0) := (blk_cell BK625.out 0).trans rfl;have hcz39_1 : w38.cell? ⟨gb625, 1, none⟩ = some (.string a0_1) := (blk_cell BK625.out 1).trans rfl;have hfz39_0 := blk_frozen BK625.out 0;have hfz39_1 := blk_frozen BK625.out 1)|((with_reducible refine gate_callee (f := 121) rfl ?_);refine goesL_ (some 8) rfl rfl Tryz.func121 (by kernel_rfl) rfl #[.string a0_0] rfl (by (try simp only [List.map_toArray, List.map_cons, List.map_nil]);first|done|rfl|(simp only [List.length_drop, List.length_take];rfl)) ?_;(with_reducible refine (head_Token.calls a0_0 false _ A3.out).mono ?_);rintro e w40 ⟨rfl, hb⟩;refine ⟨_, rfl, ?_⟩;have n0_ := aK (blk_below (g := gb625) (o := .cells #[.string a0_0, .string a0_1] 76 (0, 0)) (by (with_reducible repeat (first|refine blk_drewN ?_ _|refine blk_drew ?_|refine blk_alloc ?_ _));exact BK625.out) hb);have n1_ := aK (below_step (by repeat (first|(with_reducible first|apply bA|apply bN|apply bD|refine below_set ?_ GE625.out)|exact HB.out)) hb);clear BK625;clear HB;have BK625 := n0_;have HB := n1_;clear n0_ n1_;try clear hb))
  go_ret2
  exact ⟨by first|rfl|(simp [errW_none, errW_some] <;> rfl)|(simp [*, errW_none, errW_some] <;> rfl), by repeat (first|(with_reducible first|apply bA|apply bN|apply bD|refine below_set ?_ GE625.out)|exact HB.out)⟩
end Go.Proofs.YthdiiiopjkaifaaGreatDoor.Pall

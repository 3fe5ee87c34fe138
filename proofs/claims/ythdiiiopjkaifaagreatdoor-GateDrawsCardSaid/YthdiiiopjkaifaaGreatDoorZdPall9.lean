import Derived.Test.YthdiiiopjkaifaaGreatDoorZdPall0
import Derived.Test.YthdiiiopjkaifaaGreatDoorZdPall7
namespace Go.Proofs.YthdiiiopjkaifaaGreatDoor.Pall
open Go.RowKit Go.Proofs.YthdiiiopjkaifaaGreatDoorW.PrintWords Go.Proofs.YthdiiiopjkaifaaGreatDoorW.PrintLast
set_option linter.unusedVariables false
set_option linter.unusedSimpArgs false
def wicketmanref08_Print.j0 : Nat → Bool → ByteArray → ByteArray → Option (ByteArray × Int)
 | 0, _, _, _ => none
 | k + 1, x14, x205000, x205001 => if x14 = true then (some ((⟨#[]⟩ : BA), 12)) else (if x205000.size + 2 ≤ 9223372036854775807 then (if (x205000 ++ (⟨#[58, 32]⟩ : BA)).size + x205001.size ≤ 9223372036854775807 then (if (((x205000 ++ (⟨#[58, 32]⟩ : BA)) ++ x205001).size : Int) > 2000 then (some ((⟨#[]⟩ : BA), 3)) else (some ((x205000 ++ (⟨#[58, 32]⟩ : BA)) ++ x205001, 0))) else (none)) else (none))
def wicketmanref08_Print.f (k : Nat) (a0_0 : ByteArray) (a0_1 : ByteArray) : Option (ByteArray × Int) := (wicketmanref08_Token.f k a0_0).bind fun t205 => (if t205 = true then ((wicketmanref08_Value.f k a0_1).bind fun t206 => (wicketmanref08_Print.j0 k (!t206) a0_0 a0_1)) else (wicketmanref08_Print.j0 k true a0_0 a0_1))
theorem wicketmanref08_Print.mono_l : ∀ k, (∀ y0 y1 y2, LeO (wicketmanref08_Print.j0 k y0 y1 y2) (wicketmanref08_Print.j0 (k + 1) y0 y1 y2))
 | 0 => fun _ _ _ r h => by simp [wicketmanref08_Print.j0] at h
 | k + 1 => by
  have ih0 := wicketmanref08_Print.mono_l k
  ·intro y0 y1 y2
   unfold wicketmanref08_Print.j0
   repeat' first|(with_reducible first|exact ih0 _ _ _|exact wicketmanref08_Token.mono _ _|exact wicketmanref08_Value.mono _ _|exact LeO.refl _|exact LeO.none _|refine LeO.ite ?_ ?_|refine LeO.bind ?_ (fun _ => ?_))|exact LeO.none _|refine LeO.ite ?_ ?_|refine LeO.bind ?_ (fun _ => ?_)
theorem wicketmanref08_Print.mono : ∀ a0 a1 k, LeO (wicketmanref08_Print.f k a0 a1) (wicketmanref08_Print.f (k + 1) a0 a1) := by
 intro a0 a1 k
 have ih0 := wicketmanref08_Print.mono_l k
 unfold wicketmanref08_Print.f
 repeat' first|(with_reducible first|exact ih0 _ _ _|exact wicketmanref08_Token.mono _ _|exact wicketmanref08_Value.mono _ _|exact LeO.refl _|exact LeO.none _|refine LeO.ite ?_ ?_|refine LeO.bind ?_ (fun _ => ?_))|exact LeO.none _|refine LeO.ite ?_ ?_|refine LeO.bind ?_ (fun _ => ?_)
set_option maxHeartbeats 8000000 in
set_option maxRecDepth 100000 in
theorem wicketmanref08_Print.calls (k : Nat) (a0_0 : ByteArray) (a0_1 : ByteArray) (r1 : ByteArray) (r2 : Int) (w : World) (h : wicketmanref08_Print.f k a0_0 a0_1 = some (r1, r2)) :
  Calls Tryz.prog 65 #[.agg #[.string a0_0, .string a0_1]] w fun e w' => e = .returned (.tuple #[.string r1, .int .i64 r2]) ∧ Below w.heap.size w w' := by
 have hu76 := Tryz.underlying76
 have HB := aK (Below.refl w.heap.size w)
 have H : ((wicketmanref08_Token.f k a0_0).bind fun t205 => (if t205 = true then ((wicketmanref08_Value.f k a0_1).bind fun t206 => (wicketmanref08_Print.j0 k (!t206) a0_0 a0_1)) else (wicketmanref08_Print.j0 k true a0_0 a0_1))) = some (r1, r2) := h
 clear h
 have HC2 := aK H
 clear H
 go_enter Tryz.func65, Tryz.ntmps65
 go_upto_region 1 with (first|((with_reducible refine gate_dst (N := 1) rfl ?_);refine box_event ?hg (N := 1) ?hd (cs := #[.string a0_0, .string a0_1]) (t := 76) ?hr ?_;(case hd => rfl);(case hg => rfl);(case hr => first|(go_simp;done)|(go_simp;rfl));intro gb204 hg w3 hbox hb;have n0_ := aK (below_step (by repeat (first|(with_reducible first|apply bA|apply bN|apply bD)|exact HB.out)) hb);have n1_ := aK (hbox);have n2_ := aK ((by rw [hg];exact (below_size (by repeat (first|(with_reducible first|apply bA|apply bN|apply bD)|exact HB.out))) : w.heap.size ≤ gb204));have n3_ := aK ((by rw [hg];exact (below_size (by repeat (first|(with_reducible first|apply bA|apply bN|apply bD)|exact HB.out))) : w.heap.size ≤ gb204));clear HB;have HB := n0_;have BK204 := n1_;have GW204 := n2_;have GE204 := n3_;clear n0_ n1_ n2_ n3_;clear hb hbox hg))
 (try simp only [Act.put, List.setIfInBounds_toArray, List.set_cons_zero, List.set_cons_succ])
 go_cut [14] (fun v14 wc => ∃ (kq : Nat) (x14_1 : Bool), v14 = .bool x14_1 ∧ Aside0 (wicketmanref08_Print.j0 kq x14_1 a0_0 a0_1 = some (r1, r2)) ∧ Aside0 (kq ≤ k) ∧ Aside0 (wc.heap[gb204]? = some (.cells #[.string a0_0, .string a0_1] 76 (0, 0))) ∧ Aside0 (Below w.heap.size w wc))
 case first =>
  have H := HC2.out
  clear HC2
  replace H := Option.bind_eq_some_iff.mp H
  obtain ⟨t205, A40, H⟩ := H
  try dsimp only at H
  have A4 := aK A40
  clear A40
  by_cases c5 : t205 = true
  ·subst c5
   rw [if_pos rfl] at H
   replace H := Option.bind_eq_some_iff.mp H
   obtain ⟨t206, A60, H⟩ := H
   try dsimp only at H
   have A6 := aK A60
   clear A60
   have H' := aK H
   clear H
   have hcz7_0 : w3.cell? ⟨gb204, 0, none⟩ = some (.string a0_0) := (blk_cell BK204.out 0).trans rfl
   have hcz7_1 : w3.cell? ⟨gb204, 1, none⟩ = some (.string a0_1) := (blk_cell BK204.out 1).trans rfl
   have hfz7_0 := blk_frozen BK204.out 0
   have hfz7_1 := blk_frozen BK204.out 1
   go_wp2_with (first|((with_reducible refine gate_callee (f := 110) rfl ?_);refine goesL_ (some 7) rfl rfl Tryz.func110 (by kernel_rfl) rfl #[.string a0_0] rfl (by (try simp only [List.map_toArray, List.map_cons, List.map_nil]);first|done|rfl|(simp only [List.length_drop, List.length_take];rfl)) ?_;(with_reducible refine (wicketmanref08_Token.calls k a0_0 true _ A4.out).mono ?_);rintro e w' ⟨rfl, ⟨nd, rfl⟩⟩;refine ⟨_, rfl, ?_⟩)|(go_at_call 111;(with_reducible refine (wicketmanref08_Value.calls k a0_1 t206 _ A6.out).mono ?_);rintro e w' ⟨rfl, ⟨nd, rfl⟩⟩))
   go_meet
   case rel => exact ⟨_, (!t206), (by first|rfl|(simp;done)|(simp [*];done)), H', ⟨by first|omega|exact Nat.le_refl _⟩, ⟨by (with_reducible repeat (first|refine blk_drewN ?_ _|refine blk_drew ?_|refine blk_alloc ?_ _));exact BK204.out⟩, ⟨by repeat (first|(with_reducible first|apply bA|apply bN|apply bD|refine below_set ?_ GE204.out)|exact HB.out)⟩⟩
  ·replace c5 := Bool.eq_false_iff.mpr c5
   subst c5
   rw [if_neg (show ¬ (false = true) by decide)] at H
   have H' := aK H
   clear H
   have hcz8_0 : w3.cell? ⟨gb204, 0, none⟩ = some (.string a0_0) := (blk_cell BK204.out 0).trans rfl
   have hcz8_1 : w3.cell? ⟨gb204, 1, none⟩ = some (.string a0_1) := (blk_cell BK204.out 1).trans rfl
   have hfz8_0 := blk_frozen BK204.out 0
   have hfz8_1 := blk_frozen BK204.out 1
   go_wp2_with (first|((with_reducible refine gate_callee (f := 110) rfl ?_);refine goesL_ (some 7) rfl rfl Tryz.func110 (by kernel_rfl) rfl #[.string a0_0] rfl (by (try simp only [List.map_toArray, List.map_cons, List.map_nil]);first|done|rfl|(simp only [List.length_drop, List.length_take];rfl)) ?_;(with_reducible refine (wicketmanref08_Token.calls k a0_0 false _ A4.out).mono ?_);rintro e w' ⟨rfl, ⟨nd, rfl⟩⟩;refine ⟨_, rfl, ?_⟩))
   go_meet
   case rel => exact ⟨_, (true), (by first|rfl|(simp;done)|(simp [*];done)), H', ⟨by first|omega|exact Nat.le_refl _⟩, ⟨by (with_reducible repeat (first|refine blk_drewN ?_ _|refine blk_drew ?_|refine blk_alloc ?_ _));exact BK204.out⟩, ⟨by repeat (first|(with_reducible first|apply bA|apply bN|apply bD|refine below_set ?_ GE204.out)|exact HB.out)⟩⟩
 case rest =>
  clear HC2
  try clear c1
  try clear p2
  try clear c5
  try clear c6
  try clear hcz7_0
  try clear hcz7_1
  try clear hcz8_0
  try clear hcz8_1
  try clear hfz7_0
  try clear hfz7_1
  try clear hfz8_0
  try clear hfz8_1
  obtain ⟨kq, x14_1, rfl, HA, HJ1, BK204, HB⟩ := hcut
  cases kq with
  | zero => exact absurd HA.out (by simp [wicketmanref08_Print.j0])
  | succ kj1 =>
   have H := HA.out
   clear HA
   simp only [wicketmanref08_Print.j0] at H
   by_cases c9 : x14_1 = true
   ·subst c9
    rw [if_pos rfl] at H
    simp only [Option.some.injEq, Prod.mk.injEq] at H
    obtain ⟨rfl, rfl⟩ := H
    go_wp2
    go_ret2
    exact ⟨by first|rfl|(simp [errW_none, errW_some] <;> rfl)|(simp [*, errW_none, errW_some] <;> rfl), by repeat (first|(with_reducible first|apply bA|apply bN|apply bD|refine below_set ?_ GE204.out)|exact HB.out)⟩
   ·replace c9 := Bool.eq_false_iff.mpr c9
    subst c9
    rw [if_neg (show ¬ (false = true) by decide)] at H
    by_cases c10 : a0_0.size + 2 ≤ 9223372036854775807
    ·rw [if_pos c10] at H
     have c10b0 := eq_true c10
     have c10b1 : decide (a0_0.size + 2 ≤ 9223372036854775807) = true := decide_eq_true c10
     try have c10b2 : (9223372036854775807 < a0_0.size + 2) = False := eq_false (Nat.not_lt.2 c10)
     by_cases c11 : (a0_0 ++ (⟨#[58, 32]⟩ : BA)).size + a0_1.size ≤ 9223372036854775807
     ·rw [if_pos c11] at H
      have c11b0 := eq_true c11
      have c11b1 : decide ((a0_0 ++ (⟨#[58, 32]⟩ : BA)).size + a0_1.size ≤ 9223372036854775807) = true := decide_eq_true c11
      try have c11b2 : (9223372036854775807 < (a0_0 ++ (⟨#[58, 32]⟩ : BA)).size + a0_1.size) = False := eq_false (Nat.not_lt.2 c11)
      try (have c11b8 := c11b2;simp only [ByteArray.size_append, show ((⟨#[58, 32]⟩ : BA) : ByteArray).size = 2 from rfl] at c11b8)
      by_cases c12 : (((a0_0 ++ (⟨#[58, 32]⟩ : BA)) ++ a0_1).size : Int) > 2000
      ·rw [if_pos c12] at H
       have c12b0 : decide (2000 < (((a0_0 ++ (⟨#[58, 32]⟩ : BA)) ++ a0_1).size : Int)) = true := decide_eq_true c12
       have c12b1 : decide (2000 < ((a0_0 ++ (⟨#[58, 32]⟩ : BA)) ++ a0_1).size) = true := decide_eq_true (by omega)
       try (have c12b9 := c12;simp [ByteArray.size_append, show ((⟨#[58, 32]⟩ : BA)).size = 2 from rfl] at c12b9)
       clear c12
       simp only [Option.some.injEq, Prod.mk.injEq] at H
       obtain ⟨rfl, rfl⟩ := H
       have hcz13_0 : wc.cell? ⟨gb204, 0, none⟩ = some (.string a0_0) := (blk_cell BK204.out 0).trans rfl
       have hcz13_1 : wc.cell? ⟨gb204, 1, none⟩ = some (.string a0_1) := (blk_cell BK204.out 1).trans rfl
       have hfz13_0 := blk_frozen BK204.out 0
       have hfz13_1 := blk_frozen BK204.out 1
       go_wp2
       go_ret2
       exact ⟨by first|rfl|(simp [errW_none, errW_some] <;> rfl)|(simp [*, errW_none, errW_some] <;> rfl), by repeat (first|(with_reducible first|apply bA|apply bN|apply bD|refine below_set ?_ GE204.out)|exact HB.out)⟩
      ·rw [if_neg c12] at H
       have c12b0 : decide (2000 < (((a0_0 ++ (⟨#[58, 32]⟩ : BA)) ++ a0_1).size : Int)) = false := decide_eq_false c12
       have c12b1 : decide (2000 < ((a0_0 ++ (⟨#[58, 32]⟩ : BA)) ++ a0_1).size) = false := decide_eq_false (by omega)
       try (have c12b9 := c12;simp [ByteArray.size_append, show ((⟨#[58, 32]⟩ : BA)).size = 2 from rfl] at c12b9)
       clear c12
       simp only [Option.some.injEq, Prod.mk.injEq] at H
       obtain ⟨rfl, rfl⟩ := H
       have hcz14_0 : wc.cell? ⟨gb204, 0, none⟩ = some (.string a0_0) := (blk_cell BK204.out 0).trans rfl
       have hcz14_1 : wc.cell? ⟨gb204, 1, none⟩ = some (.string a0_1) := (blk_cell BK204.out 1).trans rfl
       have hfz14_0 := blk_frozen BK204.out 0
       have hfz14_1 := blk_frozen BK204.out 1
       go_wp2
       go_ret2
       exact ⟨by first|rfl|(simp [errW_none, errW_some] <;> rfl)|(simp [*, errW_none, errW_some] <;> rfl), by repeat (first|(with_reducible first|apply bA|apply bN|apply bD|refine below_set ?_ GE204.out)|exact HB.out)⟩
     ·rw [if_neg c11] at H
      exact absurd H (by simp)
    ·rw [if_neg c10] at H
     exact absurd H (by simp)
def wicketmanref10_Statuses.f  : Option (List Int) := some (([200, 303, 400, 401, 403, 404, 405, 409, 413, 429, 431, 503] : List Int))
set_option maxHeartbeats 8000000 in
set_option maxRecDepth 100000 in
theorem wicketmanref10_Statuses.calls  (r : List Int) (w : World) (h : wicketmanref10_Statuses.f  = some r) :
  Calls Tryz.prog 17 #[] w fun e w' => ∃ v0_ : Value, e = .returned (v0_) ∧ Kd.R (Kd.int .i64) 3 w' w.heap.size (fun _ => True) v0_ r ∧ Below w.heap.size w w' := by
 have HB := aK (Below.refl w.heap.size w)
 have H : (some (([200, 303, 400, 401, 403, 404, 405, 409, 413, 429, 431, 503] : List Int))) = some r := h
 clear h
 obtain ⟨y207, hy207⟩ : ∃ y_ : List Int, y_ = (([200, 303, 400, 401, 403, 404, 405, 409, 413, 429, 431, 503] : List Int)) := ⟨_, rfl⟩
 replace H : (some y207) = some r := by first|(rw [hy207];with_reducible exact H)|(have H2_ := (Option.bind_some _ _).symm.trans H;rw [hy207];with_reducible exact H2_)|(have H2_ := (Option.bind_some _ _).symm.trans H;with_reducible exact H2_)|with_reducible exact H|(rw [hy207];exact H)|exact H
 have Ny207 := aK hy207
 clear hy207
 obtain rfl := Option.some.inj H
 go_enter Tryz.func17, Tryz.ntmps17
 go_wp2_with (first|((with_reducible refine gate_dst (N := 1) rfl ?_);refine Kd.R_lit (Kd.int .i64) _ 3 ?hg (N := 1) ?hd (xs := ([200, 303, 400, 401, 403, 404, 405, 409, 413, 429, 431, 503] : List Int)) (inner := [.int .i64 200, .int .i64 303, .int .i64 400, .int .i64 401, .int .i64 403, .int .i64 404, .int .i64 405, .int .i64 409, .int .i64 413, .int .i64 429, .int .i64 431, .int .i64 503]) (ok := fun _ => True) (okp := fun _ => True) ?hr ?hp (fun _ hk => hk) trivial (Below.refl _ _) (Nat.le_refl _) (by simp) ?_;(case hd => rfl);(case hg => rfl);(case hr => first|(go_simp;done)|(go_simp;rfl));(case hp => exact (Reps.one (show Kd.M (Kd.int .i64) _ _ _ 200 [.int .i64 200] from rfl) (Reps.one (show Kd.M (Kd.int .i64) _ _ _ 303 [.int .i64 303] from rfl) (Reps.one (show Kd.M (Kd.int .i64) _ _ _ 400 [.int .i64 400] from rfl) (Reps.one (show Kd.M (Kd.int .i64) _ _ _ 401 [.int .i64 401] from rfl) (Reps.one (show Kd.M (Kd.int .i64) _ _ _ 403 [.int .i64 403] from rfl) (Reps.one (show Kd.M (Kd.int .i64) _ _ _ 404 [.int .i64 404] from rfl) (Reps.one (show Kd.M (Kd.int .i64) _ _ _ 405 [.int .i64 405] from rfl) (Reps.one (show Kd.M (Kd.int .i64) _ _ _ 409 [.int .i64 409] from rfl) (Reps.one (show Kd.M (Kd.int .i64) _ _ _ 413 [.int .i64 413] from rfl) (Reps.one (show Kd.M (Kd.int .i64) _ _ _ 429 [.int .i64 429] from rfl) (Reps.one (show Kd.M (Kd.int .i64) _ _ _ 431 [.int .i64 431] from rfl) (Reps.one (show Kd.M (Kd.int .i64) _ _ _ 503 [.int .i64 503] from rfl) (Reps.none _ _))))))))))))));intro v208 w1 ho2 hb hg_ hnew_;clear hg_ hnew_;(first|rw [← Ny207.out] at ho2|(simp only [Int.reduceToNat] at ho2;rw [← Ny207.out] at ho2));have n0_ := aK (Kd.R_lower ho2 (below_size (by repeat (first|(with_reducible first|apply bA|apply bN|apply bD)|exact HB.out))));have n1_ := aK (below_step (by repeat (first|(with_reducible first|apply bA|apply bN|apply bD)|exact HB.out)) hb);clear HB;have HO209 := n0_;have HB := n1_;clear n0_ n1_;clear hb ho2))
 go_ret
 exact ⟨_, by first|rfl|(simp [errW_none, errW_some] <;> rfl)|(simp [*, errW_none, errW_some] <;> rfl), by (with_reducible repeat (first|apply Kd.R_alloc|apply Kd.R_drewN|apply Kd.R_drew));exact HO209.out, by repeat (first|(with_reducible first|apply bA|apply bN|apply bD)|exact HB.out)⟩
def wicketmanref10_Reason.l0 : Nat → Int → List ByteArray → List Int → Int → Option (ByteArray)
 | 0, _, _, _, _ => none
 | k + 1, x0, x3, x4, x5 => if x5 < (x4.length : Int) then (if 0 ≤ x5 then (if (rd x4 x5) = x0 then (if x5 < (x3.length : Int) then (some (rdOf ByteArray.empty x3 x5)) else (none)) else (wicketmanref10_Reason.l0 k x0 x3 x4 (wrap64 (x5 + 1)))) else (none)) else (some (⟨#[]⟩ : BA))
def wicketmanref10_Reason.f (k : Nat) (a0 : Int) : Option (ByteArray) := (wicketmanref10_Statuses.f).bind fun t213 => (wicketmanref10_Reason.l0 k a0 (([(⟨#[79, 75]⟩ : BA), (⟨#[83, 101, 101, 32, 79, 116, 104, 101, 114]⟩ : BA), (⟨#[66, 97, 100, 32, 82, 101, 113, 117, 101, 115, 116]⟩ : BA), (⟨#[85, 110, 97, 117, 116, 104, 111, 114, 105, 122, 101, 100]⟩ : BA), (⟨#[70, 111, 114, 98, 105, 100, 100, 101, 110]⟩ : BA), (⟨#[78, 111, 116, 32, 70, 111, 117, 110, 100]⟩ : BA), (⟨#[77, 101, 116, 104, 111, 100, 32, 78, 111, 116, 32, 65, 108, 108, 111, 119, 101, 100]⟩ : BA), (⟨#[67, 111, 110, 102, 108, 105, 99, 116]⟩ : BA), (⟨#[67, 111, 110, 116, 101, 110, 116, 32, 84, 111, 111, 32, 76, 97, 114, 103, 101]⟩ : BA), (⟨#[84, 111, 111, 32, 77, 97, 110, 121, 32, 82, 101, 113, 117, 101, 115, 116, 115]⟩ : BA), (⟨#[82, 101, 113, 117, 101, 115, 116, 32, 72, 101, 97, 100, 101, 114, 32, 70, 105, 101, 108, 100, 115, 32, 84, 111, 111, 32, 76, 97, 114, 103, 101]⟩ : BA), (⟨#[83, 101, 114, 118, 105, 99, 101, 32, 85, 110, 97, 118, 97, 105, 108, 97, 98, 108, 101]⟩ : BA)] : List ByteArray)) t213 0)
theorem wicketmanref10_Reason.mono_l : ∀ k, (∀ y0 y1 y2 y3, LeO (wicketmanref10_Reason.l0 k y0 y1 y2 y3) (wicketmanref10_Reason.l0 (k + 1) y0 y1 y2 y3))
 | 0 => fun _ _ _ _ r h => by simp [wicketmanref10_Reason.l0] at h
 | k + 1 => by
  have ih0 := wicketmanref10_Reason.mono_l k
  ·intro y0 y1 y2 y3
   unfold wicketmanref10_Reason.l0
   repeat' first|(with_reducible first|exact ih0 _ _ _ _|exact LeO.refl _|exact LeO.none _|refine LeO.ite ?_ ?_|refine LeO.bind ?_ (fun _ => ?_))|exact LeO.none _|refine LeO.ite ?_ ?_|refine LeO.bind ?_ (fun _ => ?_)
theorem wicketmanref10_Reason.mono : ∀ a0 k, LeO (wicketmanref10_Reason.f k a0) (wicketmanref10_Reason.f (k + 1) a0) := by
 intro a0 k
 have ih0 := wicketmanref10_Reason.mono_l k
 unfold wicketmanref10_Reason.f
 repeat' first|(with_reducible first|exact ih0 _ _ _ _|exact LeO.refl _|exact LeO.none _|refine LeO.ite ?_ ?_|refine LeO.bind ?_ (fun _ => ?_))|exact LeO.none _|refine LeO.ite ?_ ?_|refine LeO.bind ?_ (fun _ => ?_)
set_option maxHeartbeats 8000000 in
set_option maxRecDepth 100000 in
theorem wicketmanref10_Reason.calls (k : Nat) (a0 : Int) (r : ByteArray) (w : World) (h : wicketmanref10_Reason.f k a0 = some r) :
  Calls Tryz.prog 91 #[.int .i64 a0] w fun e w' => e = .returned (.string r) ∧ Below w.heap.size w w' := by
 have HB := aK (Below.refl w.heap.size w)
 have H : ((wicketmanref10_Statuses.f).bind fun t213 => (wicketmanref10_Reason.l0 k a0 (([(⟨#[79, 75]⟩ : BA), (⟨#[83, 101, 101, 32, 79, 116, 104, 101, 114]⟩ : BA), (⟨#[66, 97, 100, 32, 82, 101, 113, 117, 101, 115, 116]⟩ : BA), (⟨#[85, 110, 97, 117, 116, 104, 111, 114, 105, 122, 101, 100]⟩ : BA), (⟨#[70, 111, 114, 98, 105, 100, 100, 101, 110]⟩ : BA), (⟨#[78, 111, 116, 32, 70, 111, 117, 110, 100]⟩ : BA), (⟨#[77, 101, 116, 104, 111, 100, 32, 78, 111, 116, 32, 65, 108, 108, 111, 119, 101, 100]⟩ : BA), (⟨#[67, 111, 110, 102, 108, 105, 99, 116]⟩ : BA), (⟨#[67, 111, 110, 116, 101, 110, 116, 32, 84, 111, 111, 32, 76, 97, 114, 103, 101]⟩ : BA), (⟨#[84, 111, 111, 32, 77, 97, 110, 121, 32, 82, 101, 113, 117, 101, 115, 116, 115]⟩ : BA), (⟨#[82, 101, 113, 117, 101, 115, 116, 32, 72, 101, 97, 100, 101, 114, 32, 70, 105, 101, 108, 100, 115, 32, 84, 111, 111, 32, 76, 97, 114, 103, 101]⟩ : BA), (⟨#[83, 101, 114, 118, 105, 99, 101, 32, 85, 110, 97, 118, 97, 105, 108, 97, 98, 108, 101]⟩ : BA)] : List ByteArray)) t213 0)) = some r := h
 clear h
 obtain ⟨y210, hy210⟩ : ∃ y_ : List ByteArray, y_ = (([(⟨#[79, 75]⟩ : BA), (⟨#[83, 101, 101, 32, 79, 116, 104, 101, 114]⟩ : BA), (⟨#[66, 97, 100, 32, 82, 101, 113, 117, 101, 115, 116]⟩ : BA), (⟨#[85, 110, 97, 117, 116, 104, 111, 114, 105, 122, 101, 100]⟩ : BA), (⟨#[70, 111, 114, 98, 105, 100, 100, 101, 110]⟩ : BA), (⟨#[78, 111, 116, 32, 70, 111, 117, 110, 100]⟩ : BA), (⟨#[77, 101, 116, 104, 111, 100, 32, 78, 111, 116, 32, 65, 108, 108, 111, 119, 101, 100]⟩ : BA), (⟨#[67, 111, 110, 102, 108, 105, 99, 116]⟩ : BA), (⟨#[67, 111, 110, 116, 101, 110, 116, 32, 84, 111, 111, 32, 76, 97, 114, 103, 101]⟩ : BA), (⟨#[84, 111, 111, 32, 77, 97, 110, 121, 32, 82, 101, 113, 117, 101, 115, 116, 115]⟩ : BA), (⟨#[82, 101, 113, 117, 101, 115, 116, 32, 72, 101, 97, 100, 101, 114, 32, 70, 105, 101, 108, 100, 115, 32, 84, 111, 111, 32, 76, 97, 114, 103, 101]⟩ : BA), (⟨#[83, 101, 114, 118, 105, 99, 101, 32, 85, 110, 97, 118, 97, 105, 108, 97, 98, 108, 101]⟩ : BA)] : List ByteArray)) := ⟨_, rfl⟩
 replace H : ((wicketmanref10_Statuses.f).bind fun t213 => (wicketmanref10_Reason.l0 k a0 y210 t213 0)) = some r := by first|(rw [hy210];with_reducible exact H)|(have H2_ := (Option.bind_some _ _).symm.trans H;rw [hy210];with_reducible exact H2_)|(have H2_ := (Option.bind_some _ _).symm.trans H;with_reducible exact H2_)|with_reducible exact H|(rw [hy210];exact H)|exact H
 have Ny210 := aK hy210
 clear hy210
 replace H := Option.bind_eq_some_iff.mp H
 obtain ⟨t213, A20, H⟩ := H
 try dsimp only at H
 have A2 := aK A20
 clear A20
 have H' := aK H
 clear H
 go_enter Tryz.func91, Tryz.ntmps91
 go_wp2_with (first|((with_reducible refine gate_dst (N := 6) rfl ?_);refine Kd.R_lit Kd.string _ 9 ?hg (N := 6) ?hd (xs := ([(⟨#[79, 75]⟩ : BA), (⟨#[83, 101, 101, 32, 79, 116, 104, 101, 114]⟩ : BA), (⟨#[66, 97, 100, 32, 82, 101, 113, 117, 101, 115, 116]⟩ : BA), (⟨#[85, 110, 97, 117, 116, 104, 111, 114, 105, 122, 101, 100]⟩ : BA), (⟨#[70, 111, 114, 98, 105, 100, 100, 101, 110]⟩ : BA), (⟨#[78, 111, 116, 32, 70, 111, 117, 110, 100]⟩ : BA), (⟨#[77, 101, 116, 104, 111, 100, 32, 78, 111, 116, 32, 65, 108, 108, 111, 119, 101, 100]⟩ : BA), (⟨#[67, 111, 110, 102, 108, 105, 99, 116]⟩ : BA), (⟨#[67, 111, 110, 116, 101, 110, 116, 32, 84, 111, 111, 32, 76, 97, 114, 103, 101]⟩ : BA), (⟨#[84, 111, 111, 32, 77, 97, 110, 121, 32, 82, 101, 113, 117, 101, 115, 116, 115]⟩ : BA), (⟨#[82, 101, 113, 117, 101, 115, 116, 32, 72, 101, 97, 100, 101, 114, 32, 70, 105, 101, 108, 100, 115, 32, 84, 111, 111, 32, 76, 97, 114, 103, 101]⟩ : BA), (⟨#[83, 101, 114, 118, 105, 99, 101, 32, 85, 110, 97, 118, 97, 105, 108, 97, 98, 108, 101]⟩ : BA)] : List ByteArray)) (inner := [.string (⟨#[79, 75]⟩ : BA), .string (⟨#[83, 101, 101, 32, 79, 116, 104, 101, 114]⟩ : BA), .string (⟨#[66, 97, 100, 32, 82, 101, 113, 117, 101, 115, 116]⟩ : BA), .string (⟨#[85, 110, 97, 117, 116, 104, 111, 114, 105, 122, 101, 100]⟩ : BA), .string (⟨#[70, 111, 114, 98, 105, 100, 100, 101, 110]⟩ : BA), .string (⟨#[78, 111, 116, 32, 70, 111, 117, 110, 100]⟩ : BA), .string (⟨#[77, 101, 116, 104, 111, 100, 32, 78, 111, 116, 32, 65, 108, 108, 111, 119, 101, 100]⟩ : BA), .string (⟨#[67, 111, 110, 102, 108, 105, 99, 116]⟩ : BA), .string (⟨#[67, 111, 110, 116, 101, 110, 116, 32, 84, 111, 111, 32, 76, 97, 114, 103, 101]⟩ : BA), .string (⟨#[84, 111, 111, 32, 77, 97, 110, 121, 32, 82, 101, 113, 117, 101, 115, 116, 115]⟩ : BA), .string (⟨#[82, 101, 113, 117, 101, 115, 116, 32, 72, 101, 97, 100, 101, 114, 32, 70, 105, 101, 108, 100, 115, 32, 84, 111, 111, 32, 76, 97, 114, 103, 101]⟩ : BA), .string (⟨#[83, 101, 114, 118, 105, 99, 101, 32, 85, 110, 97, 118, 97, 105, 108, 97, 98, 108, 101]⟩ : BA)]) (ok := fun _ => True) (okp := fun _ => True) ?hr ?hp (fun _ hk => hk) trivial (Below.refl _ _) (Nat.le_refl _) (by simp) ?_;(case hd => rfl);(case hg => rfl);(case hr => first|(go_simp;done)|(go_simp;rfl));(case hp => exact (Reps.one (show Kd.M Kd.string _ _ _ (⟨#[79, 75]⟩ : BA) [.string (⟨#[79, 75]⟩ : BA)] from rfl) (Reps.one (show Kd.M Kd.string _ _ _ (⟨#[83, 101, 101, 32, 79, 116, 104, 101, 114]⟩ : BA) [.string (⟨#[83, 101, 101, 32, 79, 116, 104, 101, 114]⟩ : BA)] from rfl) (Reps.one (show Kd.M Kd.string _ _ _ (⟨#[66, 97, 100, 32, 82, 101, 113, 117, 101, 115, 116]⟩ : BA) [.string (⟨#[66, 97, 100, 32, 82, 101, 113, 117, 101, 115, 116]⟩ : BA)] from rfl) (Reps.one (show Kd.M Kd.string _ _ _ (⟨#[85, 110, 97, 117, 116, 104, 111, 114, 105, 122, 101, 100]⟩ : BA) [.string (⟨#[85, 110, 97, 117, 116, 104, 111, 114, 105, 122, 101, 100]⟩ : BA)] from rfl) (Reps.one (show Kd.M Kd.string _ _ _ (⟨#[70, 111, 114, 98, 105, 100, 100, 101, 110]⟩ : BA) [.string (⟨#[70, 111, 114, 98, 105, 100, 100, 101, 110]⟩ : BA)] from rfl) (Reps.one (show Kd.M Kd.string _ _ _ (⟨#[78, 111, 116, 32, 70, 111, 117, 110, 100]⟩ : BA) [.string (⟨#[78, 111, 116, 32, 70, 111, 117, 110, 100]⟩ : BA)] from rfl) (Reps.one (show Kd.M Kd.string _ _ _ (⟨#[77, 101, 116, 104, 111, 100, 32, 78, 111, 116, 32, 65, 108, 108, 111, 119, 101, 100]⟩ : BA) [.string (⟨#[77, 101, 116, 104, 111, 100, 32, 78, 111, 116, 32, 65, 108, 108, 111, 119, 101, 100]⟩ : BA)] from rfl) (Reps.one (show Kd.M Kd.string _ _ _ (⟨#[67, 111, 110, 102, 108, 105, 99, 116]⟩ : BA) [.string (⟨#[67, 111, 110, 102, 108, 105, 99, 116]⟩ : BA)] from rfl) (Reps.one (show Kd.M Kd.string _ _ _ (⟨#[67, 111, 110, 116, 101, 110, 116, 32, 84, 111, 111, 32, 76, 97, 114, 103, 101]⟩ : BA) [.string (⟨#[67, 111, 110, 116, 101, 110, 116, 32, 84, 111, 111, 32, 76, 97, 114, 103, 101]⟩ : BA)] from rfl) (Reps.one (show Kd.M Kd.string _ _ _ (⟨#[84, 111, 111, 32, 77, 97, 110, 121, 32, 82, 101, 113, 117, 101, 115, 116, 115]⟩ : BA) [.string (⟨#[84, 111, 111, 32, 77, 97, 110, 121, 32, 82, 101, 113, 117, 101, 115, 116, 115]⟩ : BA)] from rfl) (Reps.one (show Kd.M Kd.string _ _ _ (⟨#[82, 101, 113, 117, 101, 115, 116, 32, 72, 101, 97, 100, 101, 114, 32, 70, 105, 101, 108, 100, 115, 32, 84, 111, 111, 32, 76, 97, 114, 103, 101]⟩ : BA) [.string (⟨#[82, 101, 113, 117, 101, 115, 116, 32, 72, 101, 97, 100, 101, 114, 32, 70, 105, 101, 108, 100, 115, 32, 84, 111, 111, 32, 76, 97, 114, 103, 101]⟩ : BA)] from rfl) (Reps.one (show Kd.M Kd.string _ _ _ (⟨#[83, 101, 114, 118, 105, 99, 101, 32, 85, 110, 97, 118, 97, 105, 108, 97, 98, 108, 101]⟩ : BA) [.string (⟨#[83, 101, 114, 118, 105, 99, 101, 32, 85, 110, 97, 118, 97, 105, 108, 97, 98, 108, 101]⟩ : BA)] from rfl) (Reps.none _ _))))))))))))));intro v211 w3 ho4 hb hg_ hnew_;clear hg_ hnew_;(first|rw [← Ny210.out] at ho4|(simp only [Int.reduceToNat] at ho4;rw [← Ny210.out] at ho4));have n0_ := aK (Kd.R_lower ho4 (below_size (by repeat (first|(with_reducible first|apply bA|apply bN|apply bD)|exact HB.out))));have n1_ := aK (below_step (by repeat (first|(with_reducible first|apply bA|apply bN|apply bD)|exact HB.out)) hb);clear HB;have HO212 := n0_;have HB := n1_;clear n0_ n1_;clear hb ho4)|((with_reducible refine gate_callee (f := 17) rfl ?_);refine goesL_ (some 7) rfl rfl Tryz.func17 (by kernel_rfl) rfl #[] rfl (by (try simp only [List.map_toArray, List.map_cons, List.map_nil]);first|done|rfl|(simp only [List.length_drop, List.length_take];rfl)) ?_;(with_reducible refine (wicketmanref10_Statuses.calls  t213 _ A2.out).mono ?_);rintro e w5 ⟨v214, rfl, ho0, hb⟩;refine ⟨_, rfl, ?_⟩;have n0_ := aK (Kd.R_below (by (with_reducible repeat (first|apply Kd.R_alloc|apply Kd.R_drewN|apply Kd.R_drew));exact HO212.out) hb);have n1_ := aK (Kd.R_lower ho0 (below_size (by repeat (first|(with_reducible first|apply bA|apply bN|apply bD)|exact HB.out))));have n2_ := aK (below_step (by repeat (first|(with_reducible first|apply bA|apply bN|apply bD)|exact HB.out)) hb);clear HO212;clear HB;have HO212 := n0_;have HO215 := n1_;have HB := n2_;clear n0_ n1_ n2_;try clear hb;(try clear ho0)))
 go_loopg [5] k (fun kq v5 w' => ∃ (x5_1 : Int), v5 = .int .i64 x5_1 ∧ Aside0 (wicketmanref10_Reason.l0 kq a0 y210 t213 x5_1 = some r) ∧ Aside0 (kq ≤ k) ∧ Aside0 (Kd.R Kd.string 9 w' w.heap.size (fun _ => True) v211 y210) ∧ Aside0 (Kd.R (Kd.int .i64) 3 w' w.heap.size (fun _ => True) v214 t213) ∧ Aside0 (Below w.heap.size w w'))
 case atStart => exact ⟨(0), (by first|rfl|(simp;done)|(simp [*];done)), H', ⟨Nat.le_refl _⟩, ⟨by (with_reducible repeat (first|apply Kd.R_alloc|apply Kd.R_drewN|apply Kd.R_drew));exact HO212.out⟩, ⟨by (with_reducible repeat (first|apply Kd.R_alloc|apply Kd.R_drewN|apply Kd.R_drew));exact HO215.out⟩, ⟨by repeat (first|(with_reducible first|apply bA|apply bN|apply bD)|exact HB.out)⟩⟩
 case round =>
  clear H'
  try clear c1
  try clear p2
  obtain ⟨x5_1, rfl, HA, HK1, HO_3, HO_4, HB⟩ := hrel
  cases gk with
  | zero => exact absurd HA.out (by simp [wicketmanref10_Reason.l0])
  | succ k1 =>
   have H := HA.out
   clear HA
   simp only [wicketmanref10_Reason.l0] at H
   by_cases c6 : x5_1 < (t213.length : Int)
   ·rw [if_pos c6] at H
    have c6b0 : decide (x5_1 < (t213.length : Int)) = true := decide_eq_true c6
    clear c6
    by_cases c7 : 0 ≤ x5_1
    ·rw [if_pos c7] at H
     have c7b0 : decide (0 ≤ x5_1) = true := decide_eq_true c7
     clear c7
     by_cases c8 : (rd t213 x5_1) = a0
     ·rw [if_pos c8] at H
      have c8b0 : ((rd t213 x5_1) == a0) = true := beq_iff_eq.mpr c8
      have c8b1 : ((rd t213 x5_1) != a0) = false := bne_eq_false_iff_eq.mpr c8
      clear c8
      by_cases c9 : x5_1 < (y210.length : Int)
      ·rw [if_pos c9] at H
       have c9b0 : decide (x5_1 < (y210.length : Int)) = true := decide_eq_true c9
       clear c9
       obtain rfl := Option.some.inj H
       obtain ⟨Ao10, co10, eo10⟩ := Kd.R_slice HO_4.out
       subst eo10
       have p216 : 0 ≤ (x5_1 : Int) := of_decide_eq_true (by first|(with_reducible assumption)|assumption)
       have q216 : x5_1 < (t213.length : Int) := of_decide_eq_true (by first|(with_reducible assumption)|assumption)
       obtain ⟨ad216, e216, hx216_0⟩ := Kd.at_int (Kd.R_reads' HO_4.out).2.2 x5_1 p216 q216
       cases e216
       replace p216 := eq_true p216
       replace q216 := eq_true q216
       obtain ⟨Ao11, co11, eo11⟩ := Kd.R_slice HO_3.out
       subst eo11
       have p217 : 0 ≤ (x5_1 : Int) := of_decide_eq_true (by first|(with_reducible assumption)|assumption)
       have q217 : x5_1 < (y210.length : Int) := of_decide_eq_true (by first|(with_reducible assumption)|assumption)
       obtain ⟨ad217, e217, hx217_0⟩ := Kd.at_string (Kd.R_reads' HO_3.out).2.2 x5_1 p217 q217
       cases e217
       replace p217 := eq_true p217
       replace q217 := eq_true q217
       go_wp2
       go_ret
       exact ⟨by first|rfl|(simp [errW_none, errW_some] <;> rfl)|(simp [*, errW_none, errW_some] <;> rfl), by repeat (first|(with_reducible first|apply bA|apply bN|apply bD)|exact HB.out)⟩
      ·rw [if_neg c9] at H
       exact absurd H (by simp)
     ·rw [if_neg c8] at H
      have c8b0 : ((rd t213 x5_1) == a0) = false := beq_eq_false_iff_ne.mpr c8
      have c8b1 : ((rd t213 x5_1) != a0) = true := bne_iff_ne.mpr c8
      have H' := aK H
      clear H
      obtain ⟨Ao12, co12, eo12⟩ := Kd.R_slice HO_4.out
      subst eo12
      have p216 : 0 ≤ (x5_1 : Int) := of_decide_eq_true (by first|(with_reducible assumption)|assumption)
      have q216 : x5_1 < (t213.length : Int) := of_decide_eq_true (by first|(with_reducible assumption)|assumption)
      obtain ⟨ad216, e216, hx216_0⟩ := Kd.at_int (Kd.R_reads' HO_4.out).2.2 x5_1 p216 q216
      cases e216
      replace p216 := eq_true p216
      replace q216 := eq_true q216
      go_wp2
      go_roundg k1
      case measure => have := HK1.out;omega
      case rel => exact ⟨(wrap64 (x5_1 + 1)), (by first|rfl|(simp;done)|(simp [*];done)), H', ⟨by have := HK1.out;omega⟩, ⟨by (with_reducible repeat (first|apply Kd.R_alloc|apply Kd.R_drewN|apply Kd.R_drew));exact HO_3.out⟩, ⟨by (with_reducible repeat (first|apply Kd.R_alloc|apply Kd.R_drewN|apply Kd.R_drew));exact HO_4.out⟩, ⟨by repeat (first|(with_reducible first|apply bA|apply bN|apply bD)|exact HB.out)⟩⟩
    ·rw [if_neg c7] at H
     exact absurd H (by simp)
   ·rw [if_neg c6] at H
    have c6b0 : decide (x5_1 < (t213.length : Int)) = false := decide_eq_false c6
    clear c6
    obtain rfl := Option.some.inj H
    obtain ⟨Ao13, co13, eo13⟩ := Kd.R_slice HO_4.out
    subst eo13
    go_wp2
    go_ret
    exact ⟨by first|rfl|(simp [errW_none, errW_some] <;> rfl)|(simp [*, errW_none, errW_some] <;> rfl), by repeat (first|(with_reducible first|apply bA|apply bN|apply bD)|exact HB.out)⟩
end Go.Proofs.YthdiiiopjkaifaaGreatDoor.Pall

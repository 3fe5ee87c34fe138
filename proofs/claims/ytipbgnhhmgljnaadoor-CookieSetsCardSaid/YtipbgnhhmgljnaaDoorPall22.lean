-- Written by a program of this session: the kit's print with given contracts. Not trusted: Lean checks it.
import Derived.Test.YtipbgnhhmgljnaaDoorPall0
import Derived.Test.YtipbgnhhmgljnaaDoorPall3
import Derived.Test.YtipbgnhhmgljnaaDoorPall18
import Derived.Test.YtipbgnhhmgljnaaDoorPall19
import Derived.Test.YtipbgnhhmgljnaaDoorPall21
namespace Go.Proofs.YtipbgnhhmgljnaaDoor.Pall
open Go.RowKit Go.Proofs.YtipbgnhhmgljnaaDoorW.PrintWords Go.Proofs.YtipbgnhhmgljnaaDoorW.PrintLast Go.Proofs.YtipbgnhhmgljnaaDoorW.PrintMore
attribute [local go_sem] max2_int min2_int max_two min_two
set_option linter.unusedVariables false
set_option linter.unusedSimpArgs false

/-! ### wicketmanlaw11_CookieSets: function 9 -/
def wicketmanlaw11_CookieSets.j0 : Nat → Int → ByteArray → Bool → ByteArray → Bool → List Int → Int → Int → Bool → ByteArray → ByteArray → Option (Bool)
 | 0, _, _, _, _, _, _, _, _, _, _, _ => none
 | k + 1, x1, x2, x3, x4, x5, x6, x7, x8, x40, x385000, x385001 => if x40 = true then ((wicketmanlaw11_known.f).bind fun t386 => (some t386)) else ((some (([(⟨#[95, 95, 72, 111, 115, 116, 45, 105, 100]⟩ : ByteArray), (⟨#[95, 95, 104, 111, 115, 116, 45, 65]⟩ : ByteArray), (⟨#[95, 95, 83, 101, 99, 117, 114, 101, 45, 120]⟩ : ByteArray), (⟨#[95, 95, 83, 69, 67, 85, 82, 69, 45]⟩ : ByteArray), (⟨#[97]⟩ : ByteArray), (⟨#[95, 95, 72, 111, 115, 116]⟩ : ByteArray), (⟨#[]⟩ : ByteArray), (⟨#[98, 32, 99]⟩ : ByteArray)] : List ByteArray) : List ByteArray)).bind fun y387 => (if 0 ≤ (Int.tmod x7 8) then (if (Int.tmod x7 8) < (y387.length : Int) then ((wicketmanlaw08_Line.f k x6).bind fun t391 => ((wicketmanref07_Escape.f k t391).bind fun t392 => ((wicketmanref11_Set.f k (rdOf ByteArray.empty y387 (Int.tmod x7 8)) t392 (wrap64 (x8))).bind fun bt394 => ((wicketmanlaw11_sets.f k x385000 x385001 x1).bind fun t396 => (if t396 = true then ((wicketmanlaw11_sets.f k (rdOf ByteArray.empty y387 (Int.tmod x7 8)) t392 x1).bind fun t397 => (if t397 = true then ((wicketmanlaw11_sets.f k (rdOf ByteArray.empty y387 (Int.tmod x7 8)) t392 (wrap64 (x8))).bind fun t398 => (if t398 = true then ((wicketmanlaw11_reads.f k x2).bind fun t399 => (if t399 = true then ((wicketmanlaw11_reads.f k bt394.1).bind fun t400 => (if t400 = true then (if 14 + x2.size ≤ 9223372036854775807 then ((wicketmanlaw11_reads.f k ((⟨#[97, 61, 49, 59, 32, 77, 97, 120, 45, 65, 103, 101, 61, 48]⟩ : ByteArray) ++ x2)).bind fun t401 => (if t401 = true then ((wicketmanlaw11_prefix.f k x385000 x3 x4 x5).bind fun t402 => (if t402 = true then ((wicketmanlaw11_prefix.f k (rdOf ByteArray.empty y387 (Int.tmod x7 8)) x3 (⟨#[47]⟩ : ByteArray) x5).bind fun t403 => (if t403 = true then (if (rdOf ByteArray.empty y387 (Int.tmod x7 8)).size + x2.size ≤ 9223372036854775807 then ((wicketmanlaw11_prefix.f k ((rdOf ByteArray.empty y387 (Int.tmod x7 8)) ++ x2) x3 (⟨#[47]⟩ : ByteArray) x5).bind fun t404 => (some t404)) else (none)) else (some false))) else (some false))) else (some false))) else (none)) else (some false))) else (some false))) else (some false))) else (some false))) else (some false)))))) else (none)) else (none)))
def wicketmanlaw11_CookieSets.f (k : Nat) (a0_0 : ByteArray) (a0_1 : ByteArray) (a1 : Int) (a2 : ByteArray) (a3 : Bool) (a4 : ByteArray) (a5 : Bool) (l6 : List Int) (a7 : Int) (a8 : Int) : Option (Bool) := if (wrap64 ((wrap64 ((wrap64 ((a0_0.size : Int) + (a0_1.size : Int))) + (a2.size : Int))) + (a4.size : Int))) > 400 then (wicketmanlaw11_CookieSets.j0 k a1 a2 a3 a4 a5 l6 a7 a8 true a0_0 a0_1) else ((wicketmanlaw11_known.f).bind fun t385 => (wicketmanlaw11_CookieSets.j0 k a1 a2 a3 a4 a5 l6 a7 a8 (!t385) a0_0 a0_1))
theorem wicketmanlaw11_CookieSets.mono_l : ∀ k, (∀ y0 y1 y2 y3 y4 y5 y6 y7 y8 y9 y10, LeO (wicketmanlaw11_CookieSets.j0 k y0 y1 y2 y3 y4 y5 y6 y7 y8 y9 y10) (wicketmanlaw11_CookieSets.j0 (k + 1) y0 y1 y2 y3 y4 y5 y6 y7 y8 y9 y10))
 | 0 => fun _ _ _ _ _ _ _ _ _ _ _ r h => by simp [wicketmanlaw11_CookieSets.j0] at h
 | k + 1 => by
  have ih0 := wicketmanlaw11_CookieSets.mono_l k
  ·intro y0 y1 y2 y3 y4 y5 y6 y7 y8 y9 y10
   unfold wicketmanlaw11_CookieSets.j0
   repeat' first
   | (with_reducible exact ih0 _ _ _ _ _ _ _ _ _ _ _)
   | (with_reducible exact wicketmanlaw08_Line.mono _ _)
   | (with_reducible exact wicketmanlaw11_prefix.mono _ _ _ _ _)
   | (with_reducible exact wicketmanlaw11_reads.mono _ _)
   | (with_reducible exact wicketmanlaw11_sets.mono _ _ _ _)
   | (with_reducible exact wicketmanref07_Escape.mono _ _)
   | (with_reducible exact wicketmanref11_Set.mono _ _ _ _)
   | (with_reducible exact LeO.refl _)
   | (with_reducible exact LeO.none _)
   | (with_reducible refine LeO.ite ?_ ?_)
   | (with_reducible refine LeO.bind ?_ (fun _ => ?_))
   | exact ih0 _ _ _ _ _ _ _ _ _ _ _
   | exact wicketmanlaw08_Line.mono _ _
   | exact wicketmanlaw11_prefix.mono _ _ _ _ _
   | exact wicketmanlaw11_reads.mono _ _
   | exact wicketmanlaw11_sets.mono _ _ _ _
   | exact wicketmanref07_Escape.mono _ _
   | exact wicketmanref11_Set.mono _ _ _ _
   | exact LeO.none _
   | refine LeO.ite ?_ ?_
   | refine LeO.bind ?_ (fun _ => ?_)
theorem wicketmanlaw11_CookieSets.mono : ∀ a0 a1 a2 a3 a4 a5 a6 a7 a8 a9 k, LeO (wicketmanlaw11_CookieSets.f k a0 a1 a2 a3 a4 a5 a6 a7 a8 a9) (wicketmanlaw11_CookieSets.f (k + 1) a0 a1 a2 a3 a4 a5 a6 a7 a8 a9) := by
 intro a0 a1 a2 a3 a4 a5 a6 a7 a8 a9 k
 have ih0 := wicketmanlaw11_CookieSets.mono_l k
 unfold wicketmanlaw11_CookieSets.f
 repeat' first
   | (with_reducible exact ih0 _ _ _ _ _ _ _ _ _ _ _)
   | (with_reducible exact wicketmanlaw08_Line.mono _ _)
   | (with_reducible exact wicketmanlaw11_prefix.mono _ _ _ _ _)
   | (with_reducible exact wicketmanlaw11_reads.mono _ _)
   | (with_reducible exact wicketmanlaw11_sets.mono _ _ _ _)
   | (with_reducible exact wicketmanref07_Escape.mono _ _)
   | (with_reducible exact wicketmanref11_Set.mono _ _ _ _)
   | (with_reducible exact LeO.refl _)
   | (with_reducible exact LeO.none _)
   | (with_reducible refine LeO.ite ?_ ?_)
   | (with_reducible refine LeO.bind ?_ (fun _ => ?_))
   | exact ih0 _ _ _ _ _ _ _ _ _ _ _
   | exact wicketmanlaw08_Line.mono _ _
   | exact wicketmanlaw11_prefix.mono _ _ _ _ _
   | exact wicketmanlaw11_reads.mono _ _
   | exact wicketmanlaw11_sets.mono _ _ _ _
   | exact wicketmanref07_Escape.mono _ _
   | exact wicketmanref11_Set.mono _ _ _ _
   | exact LeO.none _
   | refine LeO.ite ?_ ?_
   | refine LeO.bind ?_ (fun _ => ?_)
def wicketmanlaw11_CookieSets.T4 : Bool × List (List Nat × List Nat) := (true, [([], []), ([], []), ([1], [1]), ([0, 2], [0, 2]), ([3], [3]), ([], []), ([5], [5]), ([6, 6], [6]), ([4, 7], [4, 7]), ([], []), ([9, 8, 7, 0, 1, 2, 3, 4, 5, 6, 7, 8, 9], [8, 9])])
def wicketmanlaw11_CookieSets.B4 : List Nat := [0, 0, 2, 7, 15, 0, 32, 96, 255, 0, 1023]
theorem wicketmanlaw11_CookieSets.tab4 : rtab .any (opsOf Tryd.f9 4) = wicketmanlaw11_CookieSets.T4 := by kernel_rfl
theorem wicketmanlaw11_CookieSets.bits4 : waitsOk wicketmanlaw11_CookieSets.T4.2 wicketmanlaw11_CookieSets.B4 = true := by kernel_rfl
set_option maxHeartbeats 8000000 in
set_option maxRecDepth 100000 in
theorem wicketmanlaw11_CookieSets.calls (k : Nat) (a0_0 : ByteArray) (a0_1 : ByteArray) (a1 : Int) (a2 : ByteArray) (a3 : Bool) (a4 : ByteArray) (a5 : Bool) (A6 : Option Addr) (c6 : Nat) (l6 : List Int) (a7 : Int) (a8 : Int) (r : Bool) (w : World) (hr6 : Kd.C (Kd.int .u8) w A6 l6.length l6) (hc6 : l6.length ≤ c6) (hS : Sh w) (hTR : Aside0 (r = true)) (h : wicketmanlaw11_CookieSets.f k a0_0 a0_1 a1 a2 a3 a4 a5 l6 a7 a8 = some r) :
  Calls Tryd.prog 9 #[.agg #[.string a0_0, .string a0_1], .int .i64 a1, .string a2, .bool a3, .string a4, .bool a5, .slice A6 l6.length c6, .int .u8 a7, .int .u32 a8] w fun e w' => e = .returned (.bool r) ∧ Below w.heap.size w w' := by
 have hu38 := Tryd.underlying38
 have HR6 := Aside0.mk hr6
 have HC6 := Aside0.mk hc6
 clear hr6 hc6
 have HB := Aside0.mk (Below.refl w.heap.size w)
 have H : (if (wrap64 ((wrap64 ((wrap64 ((a0_0.size : Int) + (a0_1.size : Int))) + (a2.size : Int))) + (a4.size : Int))) > 400 then (wicketmanlaw11_CookieSets.j0 k a1 a2 a3 a4 a5 l6 a7 a8 true a0_0 a0_1) else ((wicketmanlaw11_known.f).bind fun t385 => (wicketmanlaw11_CookieSets.j0 k a1 a2 a3 a4 a5 l6 a7 a8 (!t385) a0_0 a0_1))) = some r := h
 clear h
 have HC10 := Aside0.mk H
 clear H
 go_enter Tryd.func9, Tryd.ntmps9
 go_upto_region 1 with (first | ((with_reducible refine gate_dst (N := 9) rfl ?_); refine box_event ?hg (N := 9) ?hd (cs := #[.string a0_0, .string a0_1]) (t := 38) ?hr ?_; (case hd => rfl); (case hg => rfl); (case hr => first | (go_simp; done) | (go_simp; rfl)); intro gb384 hg w11 hbox hb; have n0_ := Aside0.mk (below_step (by repeat (first | (with_reducible first | apply bA | apply bN | apply bD) | exact HB.out)) hb); have n1_ := Aside0.mk (hbox); have n2_ := Aside0.mk ((by rw [hg]; exact (below_size (by repeat (first | (with_reducible first | apply bA | apply bN | apply bD) | exact HB.out))) : w.heap.size ≤ gb384)); have n3_ := Aside0.mk ((by rw [hg]; exact (below_size (by repeat (first | (with_reducible first | apply bA | apply bN | apply bD) | exact HB.out))) : w.heap.size ≤ gb384)); clear HB; have HB := n0_; have BK384 := n1_; have GW384 := n2_; have GE384 := n3_; clear n0_ n1_ n2_ n3_; clear hb hbox hg))
 (try simp only [Act.put, List.setIfInBounds_toArray, List.set_cons_zero, List.set_cons_succ])
 go_cut [40] (fun v40 wc => ∃ (kq : Nat) (x40_9 : Bool), v40 = .bool x40_9 ∧ Aside0 (wicketmanlaw11_CookieSets.j0 kq a1 a2 a3 a4 a5 l6 a7 a8 x40_9 a0_0 a0_1 = some r) ∧ Aside0 (kq ≤ k) ∧ Aside0 (wc.heap[gb384]? = some (.cells #[.string a0_0, .string a0_1] 38 (0, 0))) ∧ Aside0 (Below w.heap.size w wc))
 case first =>
  have H := HC10.out
  clear HC10
  by_cases c12 : (wrap64 ((wrap64 ((wrap64 ((a0_0.size : Int) + (a0_1.size : Int))) + (a2.size : Int))) + (a4.size : Int))) > 400
  ·rw [if_pos c12] at H
   have c12b0 : decide (400 < (wrap64 ((wrap64 ((wrap64 ((a0_0.size : Int) + (a0_1.size : Int))) + (a2.size : Int))) + (a4.size : Int)))) = true := decide_eq_true c12
   clear c12
   (first | rw [c12b0] | (simp only [i64_w, i32_w]; rw [c12b0]) | skip)
   have H' := Aside0.mk H
   clear H
   have hcz13_0 : w11.cell? ⟨gb384, 0, none⟩ = some (.string a0_0) := (blk_cell BK384.out 0).trans rfl
   have hcz13_1 : w11.cell? ⟨gb384, 1, none⟩ = some (.string a0_1) := (blk_cell BK384.out 1).trans rfl
   have hfz13_0 := blk_frozen BK384.out 0
   have hfz13_1 := blk_frozen BK384.out 1
   go_wp2
   go_meet
   case rel => exact ⟨_, (true), (by first | rfl | (simp; done) | (simp [*]; done)), H', ⟨by first | omega | exact Nat.le_refl _⟩, ⟨by (with_reducible repeat (first | refine blk_drewN ?_ _ | refine blk_drew ?_ | refine blk_alloc ?_ _)); exact BK384.out⟩, ⟨by repeat (first | (with_reducible first | apply bA | apply bN | apply bD | refine below_set ?_ GE384.out) | exact HB.out)⟩⟩
  ·rw [if_neg c12] at H
   have c12b0 : decide (400 < (wrap64 ((wrap64 ((wrap64 ((a0_0.size : Int) + (a0_1.size : Int))) + (a2.size : Int))) + (a4.size : Int)))) = false := decide_eq_false c12
   clear c12
   (first | rw [c12b0] | (simp only [i64_w, i32_w]; rw [c12b0]) | skip)
   replace H := Option.bind_eq_some_iff.mp H
   obtain ⟨t385, A140, H⟩ := H
   try dsimp only at H
   have A14 := Aside0.mk A140
   clear A140
   have H' := Aside0.mk H
   clear H
   have hcz15_0 : w11.cell? ⟨gb384, 0, none⟩ = some (.string a0_0) := (blk_cell BK384.out 0).trans rfl
   have hcz15_1 : w11.cell? ⟨gb384, 1, none⟩ = some (.string a0_1) := (blk_cell BK384.out 1).trans rfl
   have hfz15_0 := blk_frozen BK384.out 0
   have hfz15_1 := blk_frozen BK384.out 1
   go_wp2_with (first | (go_at_call 11; (with_reducible refine (wicketmanlaw11_known.calls  t385 _ (by first | exact hS | (refine Sh.of_below hS ?_; repeat (first | (with_reducible first | apply bA | apply bN | apply bD) | exact HB.out | refine Below.setCell ?_ (Aside0.out (by assumption)) _)) | (refine Sh.of_below hS ?_; assumption)) A14.out).mono ?_); rintro e w16 ⟨rfl, hb⟩; have n0_ := Aside0.mk (blk_below (g := gb384) (o := .cells #[.string a0_0, .string a0_1] 38 (0, 0)) (by (with_reducible repeat (first | refine blk_drewN ?_ _ | refine blk_drew ?_ | refine blk_alloc ?_ _)); exact BK384.out) hb); have n1_ := Aside0.mk (below_step (by repeat (first | (with_reducible first | apply bA | apply bN | apply bD | refine below_set ?_ GE384.out) | exact HB.out)) hb); clear BK384; clear HB; have BK384 := n0_; have HB := n1_; clear n0_ n1_; (try clear hb); (try clear hb2); (try clear hk); (try clear hi)))
   go_meet
   case rel => exact ⟨_, (!t385), (by first | rfl | (simp; done) | (simp [*]; done)), H', ⟨by first | omega | exact Nat.le_refl _⟩, ⟨by (with_reducible repeat (first | refine blk_drewN ?_ _ | refine blk_drew ?_ | refine blk_alloc ?_ _)); exact BK384.out⟩, ⟨by repeat (first | (with_reducible first | apply bA | apply bN | apply bD | refine below_set ?_ GE384.out) | exact HB.out)⟩⟩
 case rest =>
  clear HC10
  try clear c1
  try clear p2
  try clear c6
  try clear p6
  try clear c9
  try clear c12
  try clear c12b0
  try clear hcz13_0
  try clear hcz13_1
  try clear hcz15_0
  try clear hcz15_1
  try clear hfz13_0
  try clear hfz13_1
  try clear hfz15_0
  try clear hfz15_1
  obtain ⟨kq, x40_9, rfl, HA, HJ9, BK384, HB⟩ := hcut
  cases kq with
  | zero => exact absurd HA.out (by simp [wicketmanlaw11_CookieSets.j0])
  | succ kj9 =>
   have H := HA.out
   clear HA
   simp only [wicketmanlaw11_CookieSets.j0] at H
   by_cases c17 : x40_9 = true
   ·subst c17
    rw [if_pos rfl] at H
    replace H := Option.bind_eq_some_iff.mp H
    obtain ⟨t386, A180, H⟩ := H
    try dsimp only at H
    have A18 := Aside0.mk A180
    clear A180
    obtain rfl := Option.some.inj H
    go_wp2_with (first | ((with_reducible refine gate_callee (f := 11) rfl ?_); refine goesL_ (some 41) rfl rfl Tryd.func11 (by kernel_rfl) rfl #[] rfl (by (try simp only [List.map_toArray, List.map_cons, List.map_nil]); first | done | rfl | (simp only [List.length_drop, List.length_take]; rfl)) ?_; (with_reducible refine (wicketmanlaw11_known.calls  t386 _ (by first | exact hS | (refine Sh.of_below hS ?_; repeat (first | (with_reducible first | apply bA | apply bN | apply bD) | exact HB.out | refine Below.setCell ?_ (Aside0.out (by assumption)) _)) | (refine Sh.of_below hS ?_; assumption)) A18.out).mono ?_); rintro e w19 ⟨rfl, hb⟩; refine ⟨_, rfl, ?_⟩; have n0_ := Aside0.mk (blk_below (g := gb384) (o := .cells #[.string a0_0, .string a0_1] 38 (0, 0)) (by (with_reducible repeat (first | refine blk_drewN ?_ _ | refine blk_drew ?_ | refine blk_alloc ?_ _)); exact BK384.out) hb); have n1_ := Aside0.mk (below_step (by repeat (first | (with_reducible first | apply bA | apply bN | apply bD | refine below_set ?_ GE384.out) | exact HB.out)) hb); clear BK384; clear HB; have BK384 := n0_; have HB := n1_; clear n0_ n1_; (try clear hb); (try clear hb2); (try clear hk); (try clear hi)))
    go_ret
    exact ⟨by first | rfl | (simp [errW_none, errW_some] <;> rfl) | (simp [*, errW_none, errW_some] <;> rfl), by repeat (first | (with_reducible first | apply bA | apply bN | apply bD | refine below_set ?_ GE384.out) | exact HB.out)⟩
   ·replace c17 := Bool.eq_false_iff.mpr c17
    subst c17
    rw [if_neg (show ¬ (false = true) by decide)] at H
    obtain ⟨y387, hy387⟩ : ∃ y_ : List ByteArray, y_ = (([(⟨#[95, 95, 72, 111, 115, 116, 45, 105, 100]⟩ : ByteArray), (⟨#[95, 95, 104, 111, 115, 116, 45, 65]⟩ : ByteArray), (⟨#[95, 95, 83, 101, 99, 117, 114, 101, 45, 120]⟩ : ByteArray), (⟨#[95, 95, 83, 69, 67, 85, 82, 69, 45]⟩ : ByteArray), (⟨#[97]⟩ : ByteArray), (⟨#[95, 95, 72, 111, 115, 116]⟩ : ByteArray), (⟨#[]⟩ : ByteArray), (⟨#[98, 32, 99]⟩ : ByteArray)] : List ByteArray)) := ⟨_, rfl⟩
    replace H : (if 0 ≤ (Int.tmod a7 8) then (if (Int.tmod a7 8) < (y387.length : Int) then ((wicketmanlaw08_Line.f kj9 l6).bind fun t391 => ((wicketmanref07_Escape.f kj9 t391).bind fun t392 => ((wicketmanref11_Set.f kj9 (rdOf ByteArray.empty y387 (Int.tmod a7 8)) t392 (wrap64 (a8))).bind fun bt394 => ((wicketmanlaw11_sets.f kj9 a0_0 a0_1 a1).bind fun t396 => (if t396 = true then ((wicketmanlaw11_sets.f kj9 (rdOf ByteArray.empty y387 (Int.tmod a7 8)) t392 a1).bind fun t397 => (if t397 = true then ((wicketmanlaw11_sets.f kj9 (rdOf ByteArray.empty y387 (Int.tmod a7 8)) t392 (wrap64 (a8))).bind fun t398 => (if t398 = true then ((wicketmanlaw11_reads.f kj9 a2).bind fun t399 => (if t399 = true then ((wicketmanlaw11_reads.f kj9 bt394.1).bind fun t400 => (if t400 = true then (if 14 + a2.size ≤ 9223372036854775807 then ((wicketmanlaw11_reads.f kj9 ((⟨#[97, 61, 49, 59, 32, 77, 97, 120, 45, 65, 103, 101, 61, 48]⟩ : ByteArray) ++ a2)).bind fun t401 => (if t401 = true then ((wicketmanlaw11_prefix.f kj9 a0_0 a3 a4 a5).bind fun t402 => (if t402 = true then ((wicketmanlaw11_prefix.f kj9 (rdOf ByteArray.empty y387 (Int.tmod a7 8)) a3 (⟨#[47]⟩ : ByteArray) a5).bind fun t403 => (if t403 = true then (if (rdOf ByteArray.empty y387 (Int.tmod a7 8)).size + a2.size ≤ 9223372036854775807 then ((wicketmanlaw11_prefix.f kj9 ((rdOf ByteArray.empty y387 (Int.tmod a7 8)) ++ a2) a3 (⟨#[47]⟩ : ByteArray) a5).bind fun t404 => (some t404)) else (none)) else (some false))) else (some false))) else (some false))) else (none)) else (some false))) else (some false))) else (some false))) else (some false))) else (some false)))))) else (none)) else (none)) = some r := by first | (rw [hy387]; with_reducible exact H) | (have H2_ := (Option.bind_some _ _).symm.trans H; rw [hy387]; with_reducible exact H2_) | (have H2_ := (Option.bind_some _ _).symm.trans H; with_reducible exact H2_) | with_reducible exact H | (rw [hy387]; exact H) | exact H
    have Ny387 := Aside0.mk hy387
    clear hy387
    obtain ⟨ji20, hji20⟩ : ∃ j_ : Int, (Int.tmod a7 8) = j_ := ⟨_, rfl⟩
    replace H : (if 0 ≤ (ji20) then (if (ji20) < (y387.length : Int) then ((wicketmanlaw08_Line.f kj9 l6).bind fun t391 => ((wicketmanref07_Escape.f kj9 t391).bind fun t392 => ((wicketmanref11_Set.f kj9 (rdOf ByteArray.empty y387 (ji20)) t392 (wrap64 (a8))).bind fun bt394 => ((wicketmanlaw11_sets.f kj9 a0_0 a0_1 a1).bind fun t396 => (if t396 = true then ((wicketmanlaw11_sets.f kj9 (rdOf ByteArray.empty y387 (ji20)) t392 a1).bind fun t397 => (if t397 = true then ((wicketmanlaw11_sets.f kj9 (rdOf ByteArray.empty y387 (ji20)) t392 (wrap64 (a8))).bind fun t398 => (if t398 = true then ((wicketmanlaw11_reads.f kj9 a2).bind fun t399 => (if t399 = true then ((wicketmanlaw11_reads.f kj9 bt394.1).bind fun t400 => (if t400 = true then (if 14 + a2.size ≤ 9223372036854775807 then ((wicketmanlaw11_reads.f kj9 ((⟨#[97, 61, 49, 59, 32, 77, 97, 120, 45, 65, 103, 101, 61, 48]⟩ : ByteArray) ++ a2)).bind fun t401 => (if t401 = true then ((wicketmanlaw11_prefix.f kj9 a0_0 a3 a4 a5).bind fun t402 => (if t402 = true then ((wicketmanlaw11_prefix.f kj9 (rdOf ByteArray.empty y387 (ji20)) a3 (⟨#[47]⟩ : ByteArray) a5).bind fun t403 => (if t403 = true then (if (rdOf ByteArray.empty y387 (ji20)).size + a2.size ≤ 9223372036854775807 then ((wicketmanlaw11_prefix.f kj9 ((rdOf ByteArray.empty y387 (ji20)) ++ a2) a3 (⟨#[47]⟩ : ByteArray) a5).bind fun t404 => (some t404)) else (none)) else (some false))) else (some false))) else (some false))) else (none)) else (some false))) else (some false))) else (some false))) else (some false))) else (some false)))))) else (none)) else (none)) = some r := by first | (rw [hji20] at H; exact H) | (simp only [hji20] at H ⊢; exact H)
    by_cases c21 : 0 ≤ (ji20)
    ·rw [if_pos c21] at H
     have c21b0 : decide (0 ≤ (ji20)) = true := decide_eq_true c21
     clear c21
     by_cases c22 : (ji20) < (y387.length : Int)
     ·rw [if_pos c22] at H
      have c22b0 : decide ((ji20) < (y387.length : Int)) = true := decide_eq_true c22
      clear c22
      replace H := Option.bind_eq_some_iff.mp H
      obtain ⟨t391, A230, H⟩ := H
      try dsimp only at H
      have A23 := Aside0.mk A230
      clear A230
      replace H := Option.bind_eq_some_iff.mp H
      obtain ⟨t392, A240, H⟩ := H
      try dsimp only at H
      have A24 := Aside0.mk A240
      clear A240
      replace H := Option.bind_eq_some_iff.mp H
      obtain ⟨⟨t394, t395⟩, A250, H⟩ := H
      try dsimp only at H
      have A25 := Aside0.mk A250
      clear A250
      replace H := Option.bind_eq_some_iff.mp H
      obtain ⟨t396, A260, H⟩ := H
      try dsimp only at H
      have A26 := Aside0.mk A260
      clear A260
      by_cases c27 : t396 = true
      ·subst c27
       rw [if_pos rfl] at H
       replace H := Option.bind_eq_some_iff.mp H
       obtain ⟨t397, A280, H⟩ := H
       try dsimp only at H
       have A28 := Aside0.mk A280
       clear A280
       by_cases c29 : t397 = true
       ·subst c29
        rw [if_pos rfl] at H
        replace H := Option.bind_eq_some_iff.mp H
        obtain ⟨t398, A300, H⟩ := H
        try dsimp only at H
        have A30 := Aside0.mk A300
        clear A300
        by_cases c31 : t398 = true
        ·subst c31
         rw [if_pos rfl] at H
         replace H := Option.bind_eq_some_iff.mp H
         obtain ⟨t399, A320, H⟩ := H
         try dsimp only at H
         have A32 := Aside0.mk A320
         clear A320
         by_cases c33 : t399 = true
         ·subst c33
          rw [if_pos rfl] at H
          replace H := Option.bind_eq_some_iff.mp H
          obtain ⟨t400, A340, H⟩ := H
          try dsimp only at H
          have A34 := Aside0.mk A340
          clear A340
          by_cases c35 : t400 = true
          ·subst c35
           rw [if_pos rfl] at H
           by_cases c36 : 14 + a2.size ≤ 9223372036854775807
           ·rw [if_pos c36] at H
            have c36b0 := eq_true c36
            have c36b1 : decide (14 + a2.size ≤ 9223372036854775807) = true := decide_eq_true c36
            try have c36b2 : (9223372036854775807 < 14 + a2.size) = False := eq_false (Nat.not_lt.2 c36)
            replace H := Option.bind_eq_some_iff.mp H
            obtain ⟨t401, A370, H⟩ := H
            try dsimp only at H
            have A37 := Aside0.mk A370
            clear A370
            by_cases c38 : t401 = true
            ·subst c38
             rw [if_pos rfl] at H
             replace H := Option.bind_eq_some_iff.mp H
             obtain ⟨t402, A390, H⟩ := H
             try dsimp only at H
             have A39 := Aside0.mk A390
             clear A390
             by_cases c40 : t402 = true
             ·subst c40
              rw [if_pos rfl] at H
              replace H := Option.bind_eq_some_iff.mp H
              obtain ⟨t403, A410, H⟩ := H
              try dsimp only at H
              have A41 := Aside0.mk A410
              clear A410
              by_cases c42 : t403 = true
              ·subst c42
               rw [if_pos rfl] at H
               by_cases c43 : (rdOf ByteArray.empty y387 (ji20)).size + a2.size ≤ 9223372036854775807
               ·rw [if_pos c43] at H
                have c43b0 := eq_true c43
                have c43b1 : decide ((rdOf ByteArray.empty y387 (ji20)).size + a2.size ≤ 9223372036854775807) = true := decide_eq_true c43
                try have c43b2 : (9223372036854775807 < (rdOf ByteArray.empty y387 (ji20)).size + a2.size) = False := eq_false (Nat.not_lt.2 c43)
                replace H := Option.bind_eq_some_iff.mp H
                obtain ⟨t404, A440, H⟩ := H
                try dsimp only at H
                have A44 := Aside0.mk A440
                clear A440
                obtain rfl := Option.some.inj H
                try go_wp2_with (first | ((with_reducible refine gate_dst (N := 42) rfl ?_); refine Kd.R_lit Kd.string _ 9 ?hg (N := 42) ?hd (xs := ([(⟨#[95, 95, 72, 111, 115, 116, 45, 105, 100]⟩ : ByteArray), (⟨#[95, 95, 104, 111, 115, 116, 45, 65]⟩ : ByteArray), (⟨#[95, 95, 83, 101, 99, 117, 114, 101, 45, 120]⟩ : ByteArray), (⟨#[95, 95, 83, 69, 67, 85, 82, 69, 45]⟩ : ByteArray), (⟨#[97]⟩ : ByteArray), (⟨#[95, 95, 72, 111, 115, 116]⟩ : ByteArray), (⟨#[]⟩ : ByteArray), (⟨#[98, 32, 99]⟩ : ByteArray)] : List ByteArray)) (inner := [.string (⟨#[95, 95, 72, 111, 115, 116, 45, 105, 100]⟩ : ByteArray), .string (⟨#[95, 95, 104, 111, 115, 116, 45, 65]⟩ : ByteArray), .string (⟨#[95, 95, 83, 101, 99, 117, 114, 101, 45, 120]⟩ : ByteArray), .string (⟨#[95, 95, 83, 69, 67, 85, 82, 69, 45]⟩ : ByteArray), .string (⟨#[97]⟩ : ByteArray), .string (⟨#[95, 95, 72, 111, 115, 116]⟩ : ByteArray), .string (⟨#[]⟩ : ByteArray), .string (⟨#[98, 32, 99]⟩ : ByteArray)]) (ok := fun _ => True) (okp := fun _ => True) ?hr ?hp (fun _ hk => hk) trivial (Below.refl _ _) (Nat.le_refl _) (by simp) ?_; (case hd => rfl); (case hg => rfl); (case hr => first | (go_simp; done) | (go_simp; rfl)); (case hp => exact (Reps.one (show Kd.M Kd.string _ _ _ (⟨#[95, 95, 72, 111, 115, 116, 45, 105, 100]⟩ : ByteArray) [.string (⟨#[95, 95, 72, 111, 115, 116, 45, 105, 100]⟩ : ByteArray)] from rfl) (Reps.one (show Kd.M Kd.string _ _ _ (⟨#[95, 95, 104, 111, 115, 116, 45, 65]⟩ : ByteArray) [.string (⟨#[95, 95, 104, 111, 115, 116, 45, 65]⟩ : ByteArray)] from rfl) (Reps.one (show Kd.M Kd.string _ _ _ (⟨#[95, 95, 83, 101, 99, 117, 114, 101, 45, 120]⟩ : ByteArray) [.string (⟨#[95, 95, 83, 101, 99, 117, 114, 101, 45, 120]⟩ : ByteArray)] from rfl) (Reps.one (show Kd.M Kd.string _ _ _ (⟨#[95, 95, 83, 69, 67, 85, 82, 69, 45]⟩ : ByteArray) [.string (⟨#[95, 95, 83, 69, 67, 85, 82, 69, 45]⟩ : ByteArray)] from rfl) (Reps.one (show Kd.M Kd.string _ _ _ (⟨#[97]⟩ : ByteArray) [.string (⟨#[97]⟩ : ByteArray)] from rfl) (Reps.one (show Kd.M Kd.string _ _ _ (⟨#[95, 95, 72, 111, 115, 116]⟩ : ByteArray) [.string (⟨#[95, 95, 72, 111, 115, 116]⟩ : ByteArray)] from rfl) (Reps.one (show Kd.M Kd.string _ _ _ (⟨#[]⟩ : ByteArray) [.string (⟨#[]⟩ : ByteArray)] from rfl) (Reps.one (show Kd.M Kd.string _ _ _ (⟨#[98, 32, 99]⟩ : ByteArray) [.string (⟨#[98, 32, 99]⟩ : ByteArray)] from rfl) (Reps.none _ _)))))))))); intro v388 w45 ho46 hb hg_ hnew_; clear hg_ hnew_; (first | rw [← Ny387.out] at ho46 | (simp only [Int.reduceToNat] at ho46; rw [← Ny387.out] at ho46)); have n0_ := Aside0.mk (Kd.R_lower ho46 (below_size (by repeat (first | (with_reducible first | apply bA | apply bN | apply bD | refine below_set ?_ GE384.out) | exact HB.out)))); have n1_ := Aside0.mk (blk_below (g := gb384) (o := .cells #[.string a0_0, .string a0_1] 38 (0, 0)) (by (with_reducible repeat (first | refine blk_drewN ?_ _ | refine blk_drew ?_ | refine blk_alloc ?_ _)); exact BK384.out) hb); have n2_ := Aside0.mk (below_step (by repeat (first | (with_reducible first | apply bA | apply bN | apply bD | refine below_set ?_ GE384.out) | exact HB.out)) hb); clear BK384; clear HB; have HO389 := n0_; have BK384 := n1_; have HB := n2_; clear n0_ n1_ n2_; clear hb ho46))
                have n0_ := Aside0.mk (Kd.R_drew HO389.out)
                have n1_ := Aside0.mk (blk_drew BK384.out)
                have n2_ := Aside0.mk (below_drew1 HB.out)
                clear HO389
                clear BK384
                clear HB
                have HO389 := n0_
                have BK384 := n1_
                have HB := n2_
                clear n0_ n1_ n2_
                obtain ⟨Ao48, co48, eo48⟩ := Kd.R_slice HO389.out
                (first | subst eo48 | (injection eo48 with f1_ f2_ f3_; have f4_ := f1_.symm; have f5_ := f3_.symm; clear f1_ f2_ f3_; subst f4_; subst f5_))
                have p390 : 0 ≤ ((ji20) : Int) := of_decide_eq_true (by first | (with_reducible assumption) | assumption)
                have q390 : (ji20) < (y387.length : Int) := of_decide_eq_true (by first | (with_reducible assumption) | assumption)
                obtain ⟨ad390, e390, hx390_0⟩ := Kd.at_string (Kd.R_reads' HO389.out).2.2 (ji20) p390 q390
                cases e390
                replace p390 := eq_true p390
                replace q390 := eq_true q390
                refine start_ (n := 11) (S := fun w' => w'.cell? (ad390.add ((ji20)).toNat) = some (.string (rdOf ByteArray.empty y387 (ji20)))) (ds := []) #[false, false, false, false, false, false, false, false, false, false, false] (by kernel_rfl) rfl rfl (hx390_0) (fun hHeld => ?_); refine with_tabW wicketmanlaw11_CookieSets.tab4 wicketmanlaw11_CookieSets.bits4 (fun HT_ HW_ => ?_)
                generalize w45.drew = w47 at HO389 BK384 HB hx390_0 hHeld ⊢
                refine pure_ (i := 0) (N := some 43) (v := ?_) (a' := ?_) #[true, false, false, false, false, false, false, false, false, false, false] rfl rfl (any_of HT_.out (by kernel_rfl)) (fun _ _ _ h => h) (Or.inl ⟨by rfl, ?_⟩) ?_ ?_
                rotate_left
                ·intro w'
                 go_simp
                 with_reducible rfl
                rotate_left
                ·simp only [Act.put, List.setIfInBounds_toArray, List.set_cons_zero, List.set_cons_succ, i64_w, i32_w]
                 rfl
                refine pure_ (i := 1) (N := some 44) (v := ?_) (a' := ?_) #[true, true, false, false, false, false, false, false, false, false, false] rfl rfl (any_of HT_.out (by kernel_rfl)) (fun _ _ _ h => h) (Or.inl ⟨by rfl, ?_⟩) ?_ ?_
                rotate_left
                ·intro w'
                 go_simp
                 with_reducible rfl
                rotate_left
                ·simp only [Act.put, List.setIfInBounds_toArray, List.set_cons_zero, List.set_cons_succ, i64_w, i32_w]
                 rfl
                refine pure_ (i := 2) (N := some 45) (v := ?_) (a' := ?_) #[true, true, true, false, false, false, false, false, false, false, false] rfl rfl (any_of HT_.out (by kernel_rfl)) (fun _ _ _ h => h) (Or.inl ⟨by rfl, ?_⟩) ?_ ?_
                rotate_left
                ·intro w'
                 go_simp
                 with_reducible rfl
                rotate_left
                ·simp only [Act.put, List.setIfInBounds_toArray, List.set_cons_zero, List.set_cons_succ, i64_w, i32_w]
                 rfl
                refine pure_ (i := 3) (N := some 46) (v := ?_) (a' := ?_) #[true, true, true, true, false, false, false, false, false, false, false] rfl rfl (any_of HT_.out (by kernel_rfl)) (fun _ _ _ h => h) (Or.inl ⟨by rfl, ?_⟩) ?_ ?_
                rotate_left
                ·intro w'
                 go_simp
                 with_reducible rfl
                rotate_left
                ·simp only [Act.put, List.setIfInBounds_toArray, List.set_cons_zero, List.set_cons_succ, i64_w, i32_w]
                 rfl
                refine pure_ (i := 5) (N := some 48) (v := ?_) (a' := ?_) #[true, true, true, true, false, true, false, false, false, false, false] rfl rfl (any_of HT_.out (by kernel_rfl)) (fun _ _ _ h => h) (Or.inl ⟨by rfl, ?_⟩) ?_ ?_
                rotate_left
                ·intro w'
                 go_simp
                 with_reducible rfl
                rotate_left
                ·simp only [Act.put, List.setIfInBounds_toArray, List.set_cons_zero, List.set_cons_succ, i64_w, i32_w]
                 rfl
                refine take_ (i := 4) (N := some 47) (v := ?_) (a' := ?_) #[true, true, true, true, true, true, false, false, false, false, false] rfl rfl (take_ofW HT_.out HW_.out (by kernel_rfl)) (fun _ _ _ h => h) (Or.inl ⟨by rfl, ?_⟩) hHeld ?_ ?_
                rotate_left
                ·intro w' s0
                 go_simp
                 with_reducible rfl
                rotate_left
                ·simp only [Act.put, List.setIfInBounds_toArray, List.set_cons_zero, List.set_cons_succ, i64_w, i32_w]
                 rfl
                refine join_ (σ := Nat) 1 #[true, true, true, true, true, true, true, true, true, true, false] (fun s_ => [(49, .string t391), (50, .string t392), (20, .pointer (some ⟨s_, 0, none⟩)), (51, .agg #[.string (rdOf ByteArray.empty y387 (ji20)), .string t392])]) (fun s_ w' => (w'.cell? (ad390.add ((ji20)).toNat) = some (.string (rdOf ByteArray.empty y387 (ji20)))) ∧ (Kd.R Kd.string 9 w' w.heap.size (fun _ => True) (.slice (some ad390) y387.length co48) y387) ∧ (w'.heap[gb384]? = some (.cells #[.string a0_0, .string a0_1] 38 (0, 0))) ∧ (w'.heap[s_]? = some (.cells #[.string (⟨#[]⟩ : ByteArray), .string (⟨#[]⟩ : ByteArray)] 38 (0, 0))) ∧ (w.heap.size ≤ s_) ∧ (w.heap.size ≤ s_) ∧ (gb384 ≠ s_) ∧ (s_ ≠ gb384) ∧ (Below w.heap.size w w')) ?_ ?_
                rotate_left
                ·intro hCont
                 refine two_ (i := 6) (j := 9) (Ni := some 49) (Nj := some 20) #[true, true, true, true, true, true, true, false, false, false, false] #[true, true, true, true, true, true, false, false, false, true, false] rfl rfl rfl rfl (two_of HT_.out (by kernel_rfl)) (by decide) (by decide) (fun K hK => ?_) (fun K hK => ?_)
                 ·skip
                  refine goes_ Tryd.func22 (by kernel_rfl) rfl #[.slice A6 l6.length c6] (by rfl) rfl rfl (by (try simp only [List.map_toArray, List.map_cons, List.map_nil]); first | done | rfl | (simp only [List.length_drop, List.length_take]; rfl)) ?_
                  with_reducible refine (wicketmanlaw08_Line.calls kj9 _ _ l6 t391 _ ?side1 ?side2 A23.out).mono ?_
                  (case side1 => repeat (first | exact (Kd.C_below HR6.out HB.out) | (with_reducible refine Kd.C_alloc ?_ _) | (with_reducible refine Kd.C_drewN ?_ _) | (with_reducible refine Kd.C_drew ?_)))
                  (case side2 => exact HC6.out)
                  rintro e w49 ⟨rfl, hb⟩
                  have HS0_ := (hb.cell (World.block_lt_of_cell? _ _ (hHeld))).trans (hHeld)
                  refine ⟨_, rfl, ?_⟩
                  have n0_ := Aside0.mk (Kd.R_below (by (with_reducible repeat (first | apply Kd.R_alloc | apply Kd.R_drewN | apply Kd.R_drew)); exact HO389.out) hb)
                  have n1_ := Aside0.mk (blk_below (g := gb384) (o := .cells #[.string a0_0, .string a0_1] 38 (0, 0)) (by (with_reducible repeat (first | refine blk_drewN ?_ _ | refine blk_drew ?_ | refine blk_alloc ?_ _)); exact BK384.out) hb)
                  have n2_ := Aside0.mk (below_step (by repeat (first | (with_reducible first | apply bA | apply bN | apply bD | refine below_set ?_ GE384.out) | exact HB.out)) hb)
                  clear HO389
                  clear BK384
                  clear HB
                  have HO389 := n0_
                  have BK384 := n1_
                  have HB := n2_
                  clear n0_ n1_ n2_
                  (try clear hb)
                  (try clear hb2)
                  (try clear hk)
                  (try clear hi)
                  refine hK.out _ _ (HS0_) (fun hHeld => ?_)
                  clear hK K
                  refine norm_ (a' := ?_) ?_ ?_
                  rotate_left
                  ·show Act.put _ (some 49) _ = _
                   simp only [Act.put, List.setIfInBounds_toArray, List.set_cons_zero, List.set_cons_succ, i64_w, i32_w]
                   rfl
                  refine two_ (i := 7) (j := 9) (Ni := some 50) (Nj := some 20) #[true, true, true, true, true, true, true, true, false, false, false] #[true, true, true, true, true, true, true, false, false, true, false] rfl rfl rfl rfl (two_of HT_.out (by kernel_rfl)) (by decide) (by decide) (fun K hK => ?_) (fun K hK => ?_)
                  ·skip
                   refine goes_ Tryd.func21 (by kernel_rfl) rfl #[.string t391] (by rfl) rfl rfl (by (try simp only [List.map_toArray, List.map_cons, List.map_nil]); first | done | rfl | (simp only [List.length_drop, List.length_take]; rfl)) ?_
                   with_reducible refine (wicketmanref07_Escape.calls kj9 t391 t392 _ A24.out).mono ?_
                   rintro e w' ⟨rfl, ⟨nd, rfl⟩⟩
                   refine ⟨_, rfl, ?_⟩
                   refine hK.out _ _ (hHeld) (fun hHeld => ?_)
                   clear hK K
                   refine norm_ (a' := ?_) ?_ ?_
                   rotate_left
                   ·show Act.put _ (some 50) _ = _
                    simp only [Act.put, List.setIfInBounds_toArray, List.set_cons_zero, List.set_cons_succ, i64_w, i32_w]
                    rfl
                   refine pure_ (i := 8) (N := some 51) (v := ?_) (a' := ?_) #[true, true, true, true, true, true, true, true, true, false, false] rfl rfl (any_of HT_.out (by kernel_rfl)) (fun _ _ _ h => h) (Or.inl ⟨by rfl, ?_⟩) ?_ ?_
                   rotate_left
                   ·intro w'
                    go_simp
                    with_reducible rfl
                   rotate_left
                   ·simp only [Act.put, List.setIfInBounds_toArray, List.set_cons_zero, List.set_cons_succ, i64_w, i32_w]
                    rfl
                   refine one_ (i := 9) (N := some 20) #[true, true, true, true, true, true, true, true, true, true, false] rfl rfl (one_of HT_.out (by kernel_rfl)) (by decide) (fun K hK => ?_)
                   refine box_step ?hg (N := 20) ?hd (cs := #[.string (⟨#[]⟩ : ByteArray), .string (⟨#[]⟩ : ByteArray)]) (t := 38) ?hr ?_; (case hd => rfl); (case hg => rfl); (case hr => first | (go_simp; done) | (go_simp; rfl))
                   intro gb393 hg w50 hbox hb
                   have HS0_ := (hb.cell (World.block_lt_of_cell? _ _ (hHeld))).trans (hHeld)
                   have n0_ := Aside0.mk (Kd.R_below (by (with_reducible repeat (first | apply Kd.R_alloc | apply Kd.R_drewN | apply Kd.R_drew)); exact HO389.out) hb)
                   have n1_ := Aside0.mk (blk_below (g := gb384) (o := .cells #[.string a0_0, .string a0_1] 38 (0, 0)) (by (with_reducible repeat (first | refine blk_drewN ?_ _ | refine blk_drew ?_ | refine blk_alloc ?_ _)); exact BK384.out) hb)
                   have n2_ := Aside0.mk (below_step (by repeat (first | (with_reducible first | apply bA | apply bN | apply bD | refine below_set ?_ GE384.out) | exact HB.out)) hb)
                   have n3_ := Aside0.mk (hbox)
                   have n4_ := Aside0.mk ((by rw [hg]; exact (below_size (by repeat (first | (with_reducible first | apply bA | apply bN | apply bD | refine below_set ?_ GE384.out) | exact HB.out))) : w.heap.size ≤ gb393))
                   have n5_ := Aside0.mk ((by rw [hg]; exact (below_size (by repeat (first | (with_reducible first | apply bA | apply bN | apply bD | refine below_set ?_ GE384.out) | exact HB.out))) : w.heap.size ≤ gb393))
                   have n6_ := Aside0.mk ((by rw [hg]; exact Nat.ne_of_lt (blk_lt (g := gb384) (o := .cells #[.string a0_0, .string a0_1] 38 (0, 0)) (by (with_reducible repeat (first | refine blk_drewN ?_ _ | refine blk_drew ?_ | refine blk_alloc ?_ _)); exact BK384.out)) : gb384 ≠ gb393))
                   have n7_ := Aside0.mk ((by rw [hg]; exact Nat.ne_of_gt (blk_lt (g := gb384) (o := .cells #[.string a0_0, .string a0_1] 38 (0, 0)) (by (with_reducible repeat (first | refine blk_drewN ?_ _ | refine blk_drew ?_ | refine blk_alloc ?_ _)); exact BK384.out)) : gb393 ≠ gb384))
                   clear HO389
                   clear BK384
                   clear HB
                   have HO389 := n0_
                   have BK384 := n1_
                   have HB := n2_
                   have BK393 := n3_
                   have GW393 := n4_
                   have GE393 := n5_
                   have NB384_393 := n6_
                   have NB393_384 := n7_
                   clear n0_ n1_ n2_ n3_ n4_ n5_ n6_ n7_
                   clear hb hbox hg
                   refine hK.out _ _ (HS0_) (fun hHeld => ?_)
                   clear hK K
                   refine norm_ (a' := ?_) ?_ ?_
                   rotate_left
                   ·show Act.put _ (some 20) _ = _
                    simp only [Act.put, List.setIfInBounds_toArray, List.set_cons_zero, List.set_cons_succ, i64_w, i32_w]
                    rfl
                   exact norm_ (by simp only [putAll, Act.put, List.setIfInBounds_toArray, List.set_cons_zero, List.set_cons_succ]) (hCont (gb393) _ ⟨hHeld, (by (with_reducible repeat (first | apply Kd.R_alloc | apply Kd.R_drewN | apply Kd.R_drew)); exact HO389.out), (by (with_reducible repeat (first | refine blk_drewN ?_ _ | refine blk_drew ?_ | refine blk_alloc ?_ _)); exact BK384.out), (by (with_reducible repeat (first | refine blk_drewN ?_ _ | refine blk_drew ?_ | refine blk_alloc ?_ _)); exact BK393.out), GW393.out, GE393.out, NB384_393.out, NB393_384.out, (by repeat (first | (with_reducible first | apply bA | apply bN | apply bD | refine below_set ?_ GE384.out | refine below_set ?_ GE393.out) | exact HB.out))⟩)
                  ·skip
                   refine box_step ?hg (N := 20) ?hd (cs := #[.string (⟨#[]⟩ : ByteArray), .string (⟨#[]⟩ : ByteArray)]) (t := 38) ?hr ?_; (case hd => rfl); (case hg => rfl); (case hr => first | (go_simp; done) | (go_simp; rfl))
                   intro gb393 hg w50 hbox hb
                   have HS0_ := (hb.cell (World.block_lt_of_cell? _ _ (hHeld))).trans (hHeld)
                   have n0_ := Aside0.mk (Kd.R_below (by (with_reducible repeat (first | apply Kd.R_alloc | apply Kd.R_drewN | apply Kd.R_drew)); exact HO389.out) hb)
                   have n1_ := Aside0.mk (blk_below (g := gb384) (o := .cells #[.string a0_0, .string a0_1] 38 (0, 0)) (by (with_reducible repeat (first | refine blk_drewN ?_ _ | refine blk_drew ?_ | refine blk_alloc ?_ _)); exact BK384.out) hb)
                   have n2_ := Aside0.mk (below_step (by repeat (first | (with_reducible first | apply bA | apply bN | apply bD | refine below_set ?_ GE384.out) | exact HB.out)) hb)
                   have n3_ := Aside0.mk (hbox)
                   have n4_ := Aside0.mk ((by rw [hg]; exact (below_size (by repeat (first | (with_reducible first | apply bA | apply bN | apply bD | refine below_set ?_ GE384.out) | exact HB.out))) : w.heap.size ≤ gb393))
                   have n5_ := Aside0.mk ((by rw [hg]; exact (below_size (by repeat (first | (with_reducible first | apply bA | apply bN | apply bD | refine below_set ?_ GE384.out) | exact HB.out))) : w.heap.size ≤ gb393))
                   have n6_ := Aside0.mk ((by rw [hg]; exact Nat.ne_of_lt (blk_lt (g := gb384) (o := .cells #[.string a0_0, .string a0_1] 38 (0, 0)) (by (with_reducible repeat (first | refine blk_drewN ?_ _ | refine blk_drew ?_ | refine blk_alloc ?_ _)); exact BK384.out)) : gb384 ≠ gb393))
                   have n7_ := Aside0.mk ((by rw [hg]; exact Nat.ne_of_gt (blk_lt (g := gb384) (o := .cells #[.string a0_0, .string a0_1] 38 (0, 0)) (by (with_reducible repeat (first | refine blk_drewN ?_ _ | refine blk_drew ?_ | refine blk_alloc ?_ _)); exact BK384.out)) : gb393 ≠ gb384))
                   clear HO389
                   clear BK384
                   clear HB
                   have HO389 := n0_
                   have BK384 := n1_
                   have HB := n2_
                   have BK393 := n3_
                   have GW393 := n4_
                   have GE393 := n5_
                   have NB384_393 := n6_
                   have NB393_384 := n7_
                   clear n0_ n1_ n2_ n3_ n4_ n5_ n6_ n7_
                   clear hb hbox hg
                   refine hK.out _ _ (HS0_) (fun hHeld => ?_)
                   clear hK K
                   refine norm_ (a' := ?_) ?_ ?_
                   rotate_left
                   ·show Act.put _ (some 20) _ = _
                    simp only [Act.put, List.setIfInBounds_toArray, List.set_cons_zero, List.set_cons_succ, i64_w, i32_w]
                    rfl
                   refine one_ (i := 7) (N := some 50) #[true, true, true, true, true, true, true, true, false, true, false] rfl rfl (one_of HT_.out (by kernel_rfl)) (by decide) (fun K hK => ?_)
                   refine goes_ Tryd.func21 (by kernel_rfl) rfl #[.string t391] (by rfl) rfl rfl (by (try simp only [List.map_toArray, List.map_cons, List.map_nil]); first | done | rfl | (simp only [List.length_drop, List.length_take]; rfl)) ?_
                   with_reducible refine (wicketmanref07_Escape.calls kj9 t391 t392 _ A24.out).mono ?_
                   rintro e w' ⟨rfl, ⟨nd, rfl⟩⟩
                   refine ⟨_, rfl, ?_⟩
                   refine hK.out _ _ (hHeld) (fun hHeld => ?_)
                   clear hK K
                   refine norm_ (a' := ?_) ?_ ?_
                   rotate_left
                   ·show Act.put _ (some 50) _ = _
                    simp only [Act.put, List.setIfInBounds_toArray, List.set_cons_zero, List.set_cons_succ, i64_w, i32_w]
                    rfl
                   refine pure_ (i := 8) (N := some 51) (v := ?_) (a' := ?_) #[true, true, true, true, true, true, true, true, true, true, false] rfl rfl (any_of HT_.out (by kernel_rfl)) (fun _ _ _ h => h) (Or.inl ⟨by rfl, ?_⟩) ?_ ?_
                   rotate_left
                   ·intro w'
                    go_simp
                    with_reducible rfl
                   rotate_left
                   ·simp only [Act.put, List.setIfInBounds_toArray, List.set_cons_zero, List.set_cons_succ, i64_w, i32_w]
                    rfl
                   exact norm_ (by simp only [putAll, Act.put, List.setIfInBounds_toArray, List.set_cons_zero, List.set_cons_succ]) (hCont (gb393) _ ⟨hHeld, (by (with_reducible repeat (first | apply Kd.R_alloc | apply Kd.R_drewN | apply Kd.R_drew)); exact HO389.out), (by (with_reducible repeat (first | refine blk_drewN ?_ _ | refine blk_drew ?_ | refine blk_alloc ?_ _)); exact BK384.out), (by (with_reducible repeat (first | refine blk_drewN ?_ _ | refine blk_drew ?_ | refine blk_alloc ?_ _)); exact BK393.out), GW393.out, GE393.out, NB384_393.out, NB393_384.out, (by repeat (first | (with_reducible first | apply bA | apply bN | apply bD | refine below_set ?_ GE384.out | refine below_set ?_ GE393.out) | exact HB.out))⟩)
                 ·skip
                  refine box_step ?hg (N := 20) ?hd (cs := #[.string (⟨#[]⟩ : ByteArray), .string (⟨#[]⟩ : ByteArray)]) (t := 38) ?hr ?_; (case hd => rfl); (case hg => rfl); (case hr => first | (go_simp; done) | (go_simp; rfl))
                  intro gb393 hg w49 hbox hb
                  have HS0_ := (hb.cell (World.block_lt_of_cell? _ _ (hHeld))).trans (hHeld)
                  have n0_ := Aside0.mk (Kd.R_below (by (with_reducible repeat (first | apply Kd.R_alloc | apply Kd.R_drewN | apply Kd.R_drew)); exact HO389.out) hb)
                  have n1_ := Aside0.mk (blk_below (g := gb384) (o := .cells #[.string a0_0, .string a0_1] 38 (0, 0)) (by (with_reducible repeat (first | refine blk_drewN ?_ _ | refine blk_drew ?_ | refine blk_alloc ?_ _)); exact BK384.out) hb)
                  have n2_ := Aside0.mk (below_step (by repeat (first | (with_reducible first | apply bA | apply bN | apply bD | refine below_set ?_ GE384.out) | exact HB.out)) hb)
                  have n3_ := Aside0.mk (hbox)
                  have n4_ := Aside0.mk ((by rw [hg]; exact (below_size (by repeat (first | (with_reducible first | apply bA | apply bN | apply bD | refine below_set ?_ GE384.out) | exact HB.out))) : w.heap.size ≤ gb393))
                  have n5_ := Aside0.mk ((by rw [hg]; exact (below_size (by repeat (first | (with_reducible first | apply bA | apply bN | apply bD | refine below_set ?_ GE384.out) | exact HB.out))) : w.heap.size ≤ gb393))
                  have n6_ := Aside0.mk ((by rw [hg]; exact Nat.ne_of_lt (blk_lt (g := gb384) (o := .cells #[.string a0_0, .string a0_1] 38 (0, 0)) (by (with_reducible repeat (first | refine blk_drewN ?_ _ | refine blk_drew ?_ | refine blk_alloc ?_ _)); exact BK384.out)) : gb384 ≠ gb393))
                  have n7_ := Aside0.mk ((by rw [hg]; exact Nat.ne_of_gt (blk_lt (g := gb384) (o := .cells #[.string a0_0, .string a0_1] 38 (0, 0)) (by (with_reducible repeat (first | refine blk_drewN ?_ _ | refine blk_drew ?_ | refine blk_alloc ?_ _)); exact BK384.out)) : gb393 ≠ gb384))
                  clear HO389
                  clear BK384
                  clear HB
                  have HO389 := n0_
                  have BK384 := n1_
                  have HB := n2_
                  have BK393 := n3_
                  have GW393 := n4_
                  have GE393 := n5_
                  have NB384_393 := n6_
                  have NB393_384 := n7_
                  clear n0_ n1_ n2_ n3_ n4_ n5_ n6_ n7_
                  clear hb hbox hg
                  refine hK.out _ _ (HS0_) (fun hHeld => ?_)
                  clear hK K
                  refine norm_ (a' := ?_) ?_ ?_
                  rotate_left
                  ·show Act.put _ (some 20) _ = _
                   simp only [Act.put, List.setIfInBounds_toArray, List.set_cons_zero, List.set_cons_succ, i64_w, i32_w]
                   rfl
                  refine one_ (i := 6) (N := some 49) #[true, true, true, true, true, true, true, false, false, true, false] rfl rfl (one_of HT_.out (by kernel_rfl)) (by decide) (fun K hK => ?_)
                  refine goes_ Tryd.func22 (by kernel_rfl) rfl #[.slice A6 l6.length c6] (by rfl) rfl rfl (by (try simp only [List.map_toArray, List.map_cons, List.map_nil]); first | done | rfl | (simp only [List.length_drop, List.length_take]; rfl)) ?_
                  with_reducible refine (wicketmanlaw08_Line.calls kj9 _ _ l6 t391 _ ?side1 ?side2 A23.out).mono ?_
                  (case side1 => repeat (first | exact (Kd.C_below HR6.out HB.out) | (with_reducible refine Kd.C_alloc ?_ _) | (with_reducible refine Kd.C_drewN ?_ _) | (with_reducible refine Kd.C_drew ?_)))
                  (case side2 => exact HC6.out)
                  rintro e w50 ⟨rfl, hb⟩
                  have HS0_ := (hb.cell (World.block_lt_of_cell? _ _ (hHeld))).trans (hHeld)
                  refine ⟨_, rfl, ?_⟩
                  have n0_ := Aside0.mk (Kd.R_below (by (with_reducible repeat (first | apply Kd.R_alloc | apply Kd.R_drewN | apply Kd.R_drew)); exact HO389.out) hb)
                  have n1_ := Aside0.mk (blk_below (g := gb384) (o := .cells #[.string a0_0, .string a0_1] 38 (0, 0)) (by (with_reducible repeat (first | refine blk_drewN ?_ _ | refine blk_drew ?_ | refine blk_alloc ?_ _)); exact BK384.out) hb)
                  have n2_ := Aside0.mk (blk_below (g := gb393) (o := .cells #[.string (⟨#[]⟩ : ByteArray), .string (⟨#[]⟩ : ByteArray)] 38 (0, 0)) (by (with_reducible repeat (first | refine blk_drewN ?_ _ | refine blk_drew ?_ | refine blk_alloc ?_ _)); exact BK393.out) hb)
                  have n3_ := Aside0.mk (below_step (by repeat (first | (with_reducible first | apply bA | apply bN | apply bD | refine below_set ?_ GE384.out | refine below_set ?_ GE393.out) | exact HB.out)) hb)
                  clear HO389
                  clear BK384
                  clear BK393
                  clear HB
                  have HO389 := n0_
                  have BK384 := n1_
                  have BK393 := n2_
                  have HB := n3_
                  clear n0_ n1_ n2_ n3_
                  (try clear hb)
                  (try clear hb2)
                  (try clear hk)
                  (try clear hi)
                  refine hK.out _ _ (HS0_) (fun hHeld => ?_)
                  clear hK K
                  refine norm_ (a' := ?_) ?_ ?_
                  rotate_left
                  ·show Act.put _ (some 49) _ = _
                   simp only [Act.put, List.setIfInBounds_toArray, List.set_cons_zero, List.set_cons_succ, i64_w, i32_w]
                   rfl
                  refine one_ (i := 7) (N := some 50) #[true, true, true, true, true, true, true, true, false, true, false] rfl rfl (one_of HT_.out (by kernel_rfl)) (by decide) (fun K hK => ?_)
                  refine goes_ Tryd.func21 (by kernel_rfl) rfl #[.string t391] (by rfl) rfl rfl (by (try simp only [List.map_toArray, List.map_cons, List.map_nil]); first | done | rfl | (simp only [List.length_drop, List.length_take]; rfl)) ?_
                  with_reducible refine (wicketmanref07_Escape.calls kj9 t391 t392 _ A24.out).mono ?_
                  rintro e w' ⟨rfl, ⟨nd, rfl⟩⟩
                  refine ⟨_, rfl, ?_⟩
                  refine hK.out _ _ (hHeld) (fun hHeld => ?_)
                  clear hK K
                  refine norm_ (a' := ?_) ?_ ?_
                  rotate_left
                  ·show Act.put _ (some 50) _ = _
                   simp only [Act.put, List.setIfInBounds_toArray, List.set_cons_zero, List.set_cons_succ, i64_w, i32_w]
                   rfl
                  refine pure_ (i := 8) (N := some 51) (v := ?_) (a' := ?_) #[true, true, true, true, true, true, true, true, true, true, false] rfl rfl (any_of HT_.out (by kernel_rfl)) (fun _ _ _ h => h) (Or.inl ⟨by rfl, ?_⟩) ?_ ?_
                  rotate_left
                  ·intro w'
                   go_simp
                   with_reducible rfl
                  rotate_left
                  ·simp only [Act.put, List.setIfInBounds_toArray, List.set_cons_zero, List.set_cons_succ, i64_w, i32_w]
                   rfl
                  exact norm_ (by simp only [putAll, Act.put, List.setIfInBounds_toArray, List.set_cons_zero, List.set_cons_succ]) (hCont (gb393) _ ⟨hHeld, (by (with_reducible repeat (first | apply Kd.R_alloc | apply Kd.R_drewN | apply Kd.R_drew)); exact HO389.out), (by (with_reducible repeat (first | refine blk_drewN ?_ _ | refine blk_drew ?_ | refine blk_alloc ?_ _)); exact BK384.out), (by (with_reducible repeat (first | refine blk_drewN ?_ _ | refine blk_drew ?_ | refine blk_alloc ?_ _)); exact BK393.out), GW393.out, GE393.out, NB384_393.out, NB393_384.out, (by repeat (first | (with_reducible first | apply bA | apply bN | apply bD | refine below_set ?_ GE384.out | refine below_set ?_ GE393.out) | exact HB.out))⟩)
                rintro gb393 w51 ⟨hS_, h0_, h1_, h2_, h3_, h4_, h5_, h6_, h7_⟩
                have n0_ : Aside0 (Kd.R Kd.string 9 w51 w.heap.size (fun _ => True) (.slice (some ad390) y387.length co48) y387) := ⟨h0_⟩
                have n1_ : Aside0 (w51.heap[gb384]? = some (.cells #[.string a0_0, .string a0_1] 38 (0, 0))) := ⟨h1_⟩
                have n2_ : Aside0 (w51.heap[gb393]? = some (.cells #[.string (⟨#[]⟩ : ByteArray), .string (⟨#[]⟩ : ByteArray)] 38 (0, 0))) := ⟨h2_⟩
                have n3_ : Aside0 (w.heap.size ≤ gb393) := ⟨h3_⟩
                have n4_ : Aside0 (w.heap.size ≤ gb393) := ⟨h4_⟩
                have n5_ : Aside0 (gb384 ≠ gb393) := ⟨h5_⟩
                have n6_ : Aside0 (gb393 ≠ gb384) := ⟨h6_⟩
                have n7_ : Aside0 (Below w.heap.size w w51) := ⟨h7_⟩
                clear HO389
                clear BK384
                clear HB
                clear h0_ h1_ h2_ h3_ h4_ h5_ h6_ h7_
                have HO389 := n0_
                have BK384 := n1_
                have BK393 := n2_
                have GW393 := n3_
                have GE393 := n4_
                have NB384_393 := n5_
                have NB393_384 := n6_
                have HB := n7_
                clear n0_ n1_ n2_ n3_ n4_ n5_ n6_ n7_
                have hHeld : w51.cell? (ad390.add ((ji20)).toNat) = some (.string (rdOf ByteArray.empty y387 (ji20))) := hS_
                refine norm_ (a' := ?_) ?_ ?_
                rotate_left
                ·simp only [putAll, Act.put, List.setIfInBounds_toArray, List.set_cons_zero, List.set_cons_succ]
                 rfl
                refine one_ (i := 10) (N := none) #[true, true, true, true, true, true, true, true, true, true, true] rfl rfl (one_of HT_.out (by kernel_rfl)) (by decide) (fun K hK => ?_)
                have hs52 : w51.cell? ⟨gb393, 0, none⟩ = some (.string (⟨#[]⟩ : ByteArray)) := (blk_cell BK393.out 0).trans rfl
                have hfs52 := blk_frozen BK393.out 0
                have hns52_0 := NB384_393.out
                have hms52_0 := NB393_384.out
                have hs53 : w51.cell? ⟨gb393, 1, none⟩ = some (.string (⟨#[]⟩ : ByteArray)) := (blk_cell BK393.out 1).trans rfl
                have hfs53 := blk_frozen BK393.out 1
                have hns53_0 := NB384_393.out
                have hms53_0 := NB393_384.out
                refine skip_ (w1 := ?_) (by rfl) rfl ?_ ?_
                rotate_left
                ·go_simp
                 rfl
                refine hK.out _ _ (((cell_far (p := ⟨gb393, _, none⟩) (by first | exact Kd.own_blk (Kd.R_ne HO389.out BK393.out (by decide)) | (rw [add_block]; exact Kd.own_blk (Kd.R_ne HO389.out BK393.out (by decide))) | (show (Addr.add _ _).block ≠ _; rw [add_block]; exact Kd.own_blk (Kd.R_ne HO389.out BK393.out (by decide))) | (dsimp only; exact Kd.own_blk (Kd.R_ne HO389.out BK393.out (by decide)))) _).trans (((cell_far (p := ⟨gb393, _, none⟩) (by first | exact Kd.own_blk (Kd.R_ne HO389.out BK393.out (by decide)) | (rw [add_block]; exact Kd.own_blk (Kd.R_ne HO389.out BK393.out (by decide))) | (show (Addr.add _ _).block ≠ _; rw [add_block]; exact Kd.own_blk (Kd.R_ne HO389.out BK393.out (by decide))) | (dsimp only; exact Kd.own_blk (Kd.R_ne HO389.out BK393.out (by decide)))) _).trans (hHeld))))) (fun hHeld => ?_)
                clear hK K
                refine done_ (done_of HT_.out (by kernel_rfl)) ?_
                have hnb54 := NB393_384.out
                have hnc54 := NB384_393.out
                have hcz55_0 : w51.cell? ⟨gb393, 0, none⟩ = some (.string (⟨#[]⟩ : ByteArray)) := (blk_cell BK393.out 0).trans rfl
                have hcz55_1 : w51.cell? ⟨gb393, 1, none⟩ = some (.string (⟨#[]⟩ : ByteArray)) := (blk_cell BK393.out 1).trans rfl
                have hfz55_0 := blk_frozen BK393.out 0
                have hfz55_1 := blk_frozen BK393.out 1
                try go_wp2_with (first | ((with_reducible refine gate_callee (f := 23) rfl ?_); refine goesL_ (some 56) rfl rfl Tryd.func23 (by kernel_rfl) rfl #[.agg #[.string (rdOf ByteArray.empty y387 (ji20)), .string t392], .int .i64 (wrap64 (a8))] rfl (by (try simp only [List.map_toArray, List.map_cons, List.map_nil]); first | done | (simp only [hji20]; rfl) | rfl | (simp only [List.length_drop, List.length_take]; rfl)) ?_; (with_reducible refine (wicketmanref11_Set.calls kj9 (rdOf ByteArray.empty y387 (ji20)) t392 (wrap64 (a8)) t394 t395 _ (by first | exact hS | (refine Sh.of_below hS ?_; repeat (first | (with_reducible first | apply bA | apply bN | apply bD) | exact HB.out | refine Below.setCell ?_ (Aside0.out (by assumption)) _)) | (refine Sh.of_below hS ?_; assumption)) A25.out).mono ?_); rintro e w56 ⟨rfl, hb⟩; refine ⟨_, rfl, ?_⟩; have n0_ := Aside0.mk (Kd.R_below (by (with_reducible repeat (first | apply Kd.R_alloc | apply Kd.R_drewN | apply Kd.R_drew)); exact (Kd.R_mono (Kd.R_far (p := ⟨gb393, 1, none⟩) (Kd.R_far (p := ⟨gb393, 0, none⟩) (Kd.R_types HO389.out BK393.out (by decide)) (fun _ hk => hk.2) (.string (rdOf ByteArray.empty y387 (ji20)))) (fun _ hk => hk.2) (.string t392)) (fun _ h_ => h_.1))) hb); have n1_ := Aside0.mk (blk_below (g := gb384) (o := .cells #[.string a0_0, .string a0_1] 38 (0, 0)) (by (with_reducible repeat (first | refine blk_drewN ?_ _ | refine blk_drew ?_ | refine blk_alloc ?_ _)); refine blk_far ?_ NB384_393.out _; (with_reducible repeat (first | refine blk_drewN ?_ _ | refine blk_drew ?_ | refine blk_alloc ?_ _)); refine blk_far ?_ NB384_393.out _; (with_reducible repeat (first | refine blk_drewN ?_ _ | refine blk_drew ?_ | refine blk_alloc ?_ _)); exact BK384.out) hb); have n2_ := Aside0.mk (blk_below (g := gb393) (o := .cells #[.string (rdOf ByteArray.empty y387 (ji20)), .string t392] 38 (0, 0)) (by (with_reducible repeat (first | refine blk_drewN ?_ _ | refine blk_drew ?_ | refine blk_alloc ?_ _)); refine blk_put (cs := #[.string (rdOf ByteArray.empty y387 (ji20)), .string (⟨#[]⟩ : ByteArray)]) ?_ 1 _ rfl; (with_reducible repeat (first | refine blk_drewN ?_ _ | refine blk_drew ?_ | refine blk_alloc ?_ _)); refine blk_put (cs := #[.string (⟨#[]⟩ : ByteArray), .string (⟨#[]⟩ : ByteArray)]) ?_ 0 _ rfl; (with_reducible repeat (first | refine blk_drewN ?_ _ | refine blk_drew ?_ | refine blk_alloc ?_ _)); exact BK393.out) hb); have n3_ := Aside0.mk (below_step (by repeat (first | (with_reducible first | apply bA | apply bN | apply bD | refine below_set ?_ GE384.out | refine below_set ?_ GE393.out) | exact HB.out)) hb); clear HO389; clear BK384; clear BK393; clear HB; have HO389 := n0_; have BK384 := n1_; have BK393 := n2_; have HB := n3_; clear n0_ n1_ n2_ n3_; (try clear hb); (try clear hb2); (try clear hk); (try clear hi); have hcz57_0 : w56.cell? ⟨gb384, 0, none⟩ = some (.string a0_0) := (blk_cell BK384.out 0).trans rfl; have hcz57_1 : w56.cell? ⟨gb384, 1, none⟩ = some (.string a0_1) := (blk_cell BK384.out 1).trans rfl; have hfz57_0 := blk_frozen BK384.out 0; have hfz57_1 := blk_frozen BK384.out 1) | ((with_reducible refine gate_callee (f := 24) rfl ?_); refine goesL_ (some 61) rfl rfl Tryd.func24 (by kernel_rfl) rfl #[.agg #[.string a0_0, .string a0_1], .int .i64 a1] rfl (by (try simp only [List.map_toArray, List.map_cons, List.map_nil]); first | done | rfl | (simp only [List.length_drop, List.length_take]; rfl)) ?_; (with_reducible refine (wicketmanlaw11_sets.calls kj9 a0_0 a0_1 a1 true _ (by first | exact hS | (refine Sh.of_below hS ?_; repeat (first | (with_reducible first | apply bA | apply bN | apply bD) | exact HB.out | refine Below.setCell ?_ (Aside0.out (by assumption)) _)) | (refine Sh.of_below hS ?_; assumption)) A26.out).mono ?_); rintro e w58 ⟨rfl, hb⟩; refine ⟨_, rfl, ?_⟩; have n0_ := Aside0.mk (Kd.R_below (by (with_reducible repeat (first | apply Kd.R_alloc | apply Kd.R_drewN | apply Kd.R_drew)); exact HO389.out) hb); have n1_ := Aside0.mk (blk_below (g := gb384) (o := .cells #[.string a0_0, .string a0_1] 38 (0, 0)) (by (with_reducible repeat (first | refine blk_drewN ?_ _ | refine blk_drew ?_ | refine blk_alloc ?_ _)); exact BK384.out) hb); have n2_ := Aside0.mk (blk_below (g := gb393) (o := .cells #[.string (rdOf ByteArray.empty y387 (ji20)), .string t392] 38 (0, 0)) (by (with_reducible repeat (first | refine blk_drewN ?_ _ | refine blk_drew ?_ | refine blk_alloc ?_ _)); exact BK393.out) hb); have n3_ := Aside0.mk (below_step (by repeat (first | (with_reducible first | apply bA | apply bN | apply bD | refine below_set ?_ GE384.out | refine below_set ?_ GE393.out) | exact HB.out)) hb); clear HO389; clear BK384; clear BK393; clear HB; have HO389 := n0_; have BK384 := n1_; have BK393 := n2_; have HB := n3_; clear n0_ n1_ n2_ n3_; (try clear hb); (try clear hb2); (try clear hk); (try clear hi); have hcz59_0 : w58.cell? ⟨gb393, 0, none⟩ = some (.string (rdOf ByteArray.empty y387 (ji20))) := (blk_cell BK393.out 0).trans rfl; have hcz59_1 : w58.cell? ⟨gb393, 1, none⟩ = some (.string t392) := (blk_cell BK393.out 1).trans rfl; have hfz59_0 := blk_frozen BK393.out 0; have hfz59_1 := blk_frozen BK393.out 1) | (go_at_call 24; (with_reducible refine (wicketmanlaw11_sets.calls kj9 (rdOf ByteArray.empty y387 (ji20)) t392 a1 true _ (by first | exact hS | (refine Sh.of_below hS ?_; repeat (first | (with_reducible first | apply bA | apply bN | apply bD) | exact HB.out | refine Below.setCell ?_ (Aside0.out (by assumption)) _)) | (refine Sh.of_below hS ?_; assumption)) A28.out).mono ?_); rintro e w60 ⟨rfl, hb⟩; have n0_ := Aside0.mk (Kd.R_below (by (with_reducible repeat (first | apply Kd.R_alloc | apply Kd.R_drewN | apply Kd.R_drew)); exact HO389.out) hb); have n1_ := Aside0.mk (blk_below (g := gb384) (o := .cells #[.string a0_0, .string a0_1] 38 (0, 0)) (by (with_reducible repeat (first | refine blk_drewN ?_ _ | refine blk_drew ?_ | refine blk_alloc ?_ _)); exact BK384.out) hb); have n2_ := Aside0.mk (blk_below (g := gb393) (o := .cells #[.string (rdOf ByteArray.empty y387 (ji20)), .string t392] 38 (0, 0)) (by (with_reducible repeat (first | refine blk_drewN ?_ _ | refine blk_drew ?_ | refine blk_alloc ?_ _)); exact BK393.out) hb); have n3_ := Aside0.mk (below_step (by repeat (first | (with_reducible first | apply bA | apply bN | apply bD | refine below_set ?_ GE384.out | refine below_set ?_ GE393.out) | exact HB.out)) hb); clear HO389; clear BK384; clear BK393; clear HB; have HO389 := n0_; have BK384 := n1_; have BK393 := n2_; have HB := n3_; clear n0_ n1_ n2_ n3_; (try clear hb); (try clear hb2); (try clear hk); (try clear hi); have hcz61_0 : w60.cell? ⟨gb393, 0, none⟩ = some (.string (rdOf ByteArray.empty y387 (ji20))) := (blk_cell BK393.out 0).trans rfl; have hcz61_1 : w60.cell? ⟨gb393, 1, none⟩ = some (.string t392) := (blk_cell BK393.out 1).trans rfl; have hfz61_0 := blk_frozen BK393.out 0; have hfz61_1 := blk_frozen BK393.out 1) | (go_at_call 24; (with_reducible refine (wicketmanlaw11_sets.calls kj9 (rdOf ByteArray.empty y387 (ji20)) t392 (wrap64 (a8)) true _ (by first | exact hS | (refine Sh.of_below hS ?_; repeat (first | (with_reducible first | apply bA | apply bN | apply bD) | exact HB.out | refine Below.setCell ?_ (Aside0.out (by assumption)) _)) | (refine Sh.of_below hS ?_; assumption)) A30.out).mono ?_); rintro e w62 ⟨rfl, hb⟩; have n0_ := Aside0.mk (Kd.R_below (by (with_reducible repeat (first | apply Kd.R_alloc | apply Kd.R_drewN | apply Kd.R_drew)); exact HO389.out) hb); have n1_ := Aside0.mk (blk_below (g := gb384) (o := .cells #[.string a0_0, .string a0_1] 38 (0, 0)) (by (with_reducible repeat (first | refine blk_drewN ?_ _ | refine blk_drew ?_ | refine blk_alloc ?_ _)); exact BK384.out) hb); have n2_ := Aside0.mk (blk_below (g := gb393) (o := .cells #[.string (rdOf ByteArray.empty y387 (ji20)), .string t392] 38 (0, 0)) (by (with_reducible repeat (first | refine blk_drewN ?_ _ | refine blk_drew ?_ | refine blk_alloc ?_ _)); exact BK393.out) hb); have n3_ := Aside0.mk (below_step (by repeat (first | (with_reducible first | apply bA | apply bN | apply bD | refine below_set ?_ GE384.out | refine below_set ?_ GE393.out) | exact HB.out)) hb); clear HO389; clear BK384; clear BK393; clear HB; have HO389 := n0_; have BK384 := n1_; have BK393 := n2_; have HB := n3_; clear n0_ n1_ n2_ n3_; (try clear hb); (try clear hb2); (try clear hk); (try clear hi)) | (go_at_call 25; (with_reducible refine (wicketmanlaw11_reads.calls kj9 a2 true _ (by first | exact hS | (refine Sh.of_below hS ?_; repeat (first | (with_reducible first | apply bA | apply bN | apply bD) | exact HB.out | refine Below.setCell ?_ (Aside0.out (by assumption)) _)) | (refine Sh.of_below hS ?_; assumption)) A32.out).mono ?_); rintro e w63 ⟨rfl, hb⟩; have n0_ := Aside0.mk (Kd.R_below (by (with_reducible repeat (first | apply Kd.R_alloc | apply Kd.R_drewN | apply Kd.R_drew)); exact HO389.out) hb); have n1_ := Aside0.mk (blk_below (g := gb384) (o := .cells #[.string a0_0, .string a0_1] 38 (0, 0)) (by (with_reducible repeat (first | refine blk_drewN ?_ _ | refine blk_drew ?_ | refine blk_alloc ?_ _)); exact BK384.out) hb); have n2_ := Aside0.mk (blk_below (g := gb393) (o := .cells #[.string (rdOf ByteArray.empty y387 (ji20)), .string t392] 38 (0, 0)) (by (with_reducible repeat (first | refine blk_drewN ?_ _ | refine blk_drew ?_ | refine blk_alloc ?_ _)); exact BK393.out) hb); have n3_ := Aside0.mk (below_step (by repeat (first | (with_reducible first | apply bA | apply bN | apply bD | refine below_set ?_ GE384.out | refine below_set ?_ GE393.out) | exact HB.out)) hb); clear HO389; clear BK384; clear BK393; clear HB; have HO389 := n0_; have BK384 := n1_; have BK393 := n2_; have HB := n3_; clear n0_ n1_ n2_ n3_; (try clear hb); (try clear hb2); (try clear hk); (try clear hi)) | (go_at_call 25; (with_reducible refine (wicketmanlaw11_reads.calls kj9 t394 true _ (by first | exact hS | (refine Sh.of_below hS ?_; repeat (first | (with_reducible first | apply bA | apply bN | apply bD) | exact HB.out | refine Below.setCell ?_ (Aside0.out (by assumption)) _)) | (refine Sh.of_below hS ?_; assumption)) A34.out).mono ?_); rintro e w64 ⟨rfl, hb⟩; have n0_ := Aside0.mk (Kd.R_below (by (with_reducible repeat (first | apply Kd.R_alloc | apply Kd.R_drewN | apply Kd.R_drew)); exact HO389.out) hb); have n1_ := Aside0.mk (blk_below (g := gb384) (o := .cells #[.string a0_0, .string a0_1] 38 (0, 0)) (by (with_reducible repeat (first | refine blk_drewN ?_ _ | refine blk_drew ?_ | refine blk_alloc ?_ _)); exact BK384.out) hb); have n2_ := Aside0.mk (blk_below (g := gb393) (o := .cells #[.string (rdOf ByteArray.empty y387 (ji20)), .string t392] 38 (0, 0)) (by (with_reducible repeat (first | refine blk_drewN ?_ _ | refine blk_drew ?_ | refine blk_alloc ?_ _)); exact BK393.out) hb); have n3_ := Aside0.mk (below_step (by repeat (first | (with_reducible first | apply bA | apply bN | apply bD | refine below_set ?_ GE384.out | refine below_set ?_ GE393.out) | exact HB.out)) hb); clear HO389; clear BK384; clear BK393; clear HB; have HO389 := n0_; have BK384 := n1_; have BK393 := n2_; have HB := n3_; clear n0_ n1_ n2_ n3_; (try clear hb); (try clear hb2); (try clear hk); (try clear hi)) | (go_at_call 25; (with_reducible refine (wicketmanlaw11_reads.calls kj9 ((⟨#[97, 61, 49, 59, 32, 77, 97, 120, 45, 65, 103, 101, 61, 48]⟩ : ByteArray) ++ a2) true _ (by first | exact hS | (refine Sh.of_below hS ?_; repeat (first | (with_reducible first | apply bA | apply bN | apply bD) | exact HB.out | refine Below.setCell ?_ (Aside0.out (by assumption)) _)) | (refine Sh.of_below hS ?_; assumption)) A37.out).mono ?_); rintro e w65 ⟨rfl, hb⟩; have n0_ := Aside0.mk (Kd.R_below (by (with_reducible repeat (first | apply Kd.R_alloc | apply Kd.R_drewN | apply Kd.R_drew)); exact HO389.out) hb); have n1_ := Aside0.mk (blk_below (g := gb384) (o := .cells #[.string a0_0, .string a0_1] 38 (0, 0)) (by (with_reducible repeat (first | refine blk_drewN ?_ _ | refine blk_drew ?_ | refine blk_alloc ?_ _)); exact BK384.out) hb); have n2_ := Aside0.mk (blk_below (g := gb393) (o := .cells #[.string (rdOf ByteArray.empty y387 (ji20)), .string t392] 38 (0, 0)) (by (with_reducible repeat (first | refine blk_drewN ?_ _ | refine blk_drew ?_ | refine blk_alloc ?_ _)); exact BK393.out) hb); have n3_ := Aside0.mk (below_step (by repeat (first | (with_reducible first | apply bA | apply bN | apply bD | refine below_set ?_ GE384.out | refine below_set ?_ GE393.out) | exact HB.out)) hb); clear HO389; clear BK384; clear BK393; clear HB; have HO389 := n0_; have BK384 := n1_; have BK393 := n2_; have HB := n3_; clear n0_ n1_ n2_ n3_; (try clear hb); (try clear hb2); (try clear hk); (try clear hi); have hcz66_0 : w65.cell? ⟨gb384, 0, none⟩ = some (.string a0_0) := (blk_cell BK384.out 0).trans rfl; have hcz66_1 : w65.cell? ⟨gb384, 1, none⟩ = some (.string a0_1) := (blk_cell BK384.out 1).trans rfl; have hfz66_0 := blk_frozen BK384.out 0; have hfz66_1 := blk_frozen BK384.out 1) | (go_at_call 26; (with_reducible refine (wicketmanlaw11_prefix.calls kj9 a0_0 a3 a4 a5 true _ A39.out).mono ?_); rintro e w67 ⟨rfl, hb⟩; have n0_ := Aside0.mk (Kd.R_below (by (with_reducible repeat (first | apply Kd.R_alloc | apply Kd.R_drewN | apply Kd.R_drew)); exact HO389.out) hb); have n1_ := Aside0.mk (blk_below (g := gb384) (o := .cells #[.string a0_0, .string a0_1] 38 (0, 0)) (by (with_reducible repeat (first | refine blk_drewN ?_ _ | refine blk_drew ?_ | refine blk_alloc ?_ _)); exact BK384.out) hb); have n2_ := Aside0.mk (blk_below (g := gb393) (o := .cells #[.string (rdOf ByteArray.empty y387 (ji20)), .string t392] 38 (0, 0)) (by (with_reducible repeat (first | refine blk_drewN ?_ _ | refine blk_drew ?_ | refine blk_alloc ?_ _)); exact BK393.out) hb); have n3_ := Aside0.mk (below_step (by repeat (first | (with_reducible first | apply bA | apply bN | apply bD | refine below_set ?_ GE384.out | refine below_set ?_ GE393.out) | exact HB.out)) hb); clear HO389; clear BK384; clear BK393; clear HB; have HO389 := n0_; have BK384 := n1_; have BK393 := n2_; have HB := n3_; clear n0_ n1_ n2_ n3_; (try clear hb); (try clear hb2); (try clear hk); (try clear hi); have hcz68_0 : w67.cell? ⟨gb393, 0, none⟩ = some (.string (rdOf ByteArray.empty y387 (ji20))) := (blk_cell BK393.out 0).trans rfl; have hcz68_1 : w67.cell? ⟨gb393, 1, none⟩ = some (.string t392) := (blk_cell BK393.out 1).trans rfl; have hfz68_0 := blk_frozen BK393.out 0; have hfz68_1 := blk_frozen BK393.out 1) | (go_at_call 26; (with_reducible refine (wicketmanlaw11_prefix.calls kj9 (rdOf ByteArray.empty y387 (ji20)) a3 (⟨#[47]⟩ : ByteArray) a5 true _ A41.out).mono ?_); rintro e w69 ⟨rfl, hb⟩; have n0_ := Aside0.mk (Kd.R_below (by (with_reducible repeat (first | apply Kd.R_alloc | apply Kd.R_drewN | apply Kd.R_drew)); exact HO389.out) hb); have n1_ := Aside0.mk (blk_below (g := gb384) (o := .cells #[.string a0_0, .string a0_1] 38 (0, 0)) (by (with_reducible repeat (first | refine blk_drewN ?_ _ | refine blk_drew ?_ | refine blk_alloc ?_ _)); exact BK384.out) hb); have n2_ := Aside0.mk (blk_below (g := gb393) (o := .cells #[.string (rdOf ByteArray.empty y387 (ji20)), .string t392] 38 (0, 0)) (by (with_reducible repeat (first | refine blk_drewN ?_ _ | refine blk_drew ?_ | refine blk_alloc ?_ _)); exact BK393.out) hb); have n3_ := Aside0.mk (below_step (by repeat (first | (with_reducible first | apply bA | apply bN | apply bD | refine below_set ?_ GE384.out | refine below_set ?_ GE393.out) | exact HB.out)) hb); clear HO389; clear BK384; clear BK393; clear HB; have HO389 := n0_; have BK384 := n1_; have BK393 := n2_; have HB := n3_; clear n0_ n1_ n2_ n3_; (try clear hb); (try clear hb2); (try clear hk); (try clear hi); have hcz70_0 : w69.cell? ⟨gb393, 0, none⟩ = some (.string (rdOf ByteArray.empty y387 (ji20))) := (blk_cell BK393.out 0).trans rfl; have hcz70_1 : w69.cell? ⟨gb393, 1, none⟩ = some (.string t392) := (blk_cell BK393.out 1).trans rfl; have hfz70_0 := blk_frozen BK393.out 0; have hfz70_1 := blk_frozen BK393.out 1) | (go_at_call 26; (with_reducible refine (wicketmanlaw11_prefix.calls kj9 ((rdOf ByteArray.empty y387 (ji20)) ++ a2) a3 (⟨#[47]⟩ : ByteArray) a5 t404 _ A44.out).mono ?_); rintro e w71 ⟨rfl, hb⟩; have n0_ := Aside0.mk (Kd.R_below (by (with_reducible repeat (first | apply Kd.R_alloc | apply Kd.R_drewN | apply Kd.R_drew)); exact HO389.out) hb); have n1_ := Aside0.mk (blk_below (g := gb384) (o := .cells #[.string a0_0, .string a0_1] 38 (0, 0)) (by (with_reducible repeat (first | refine blk_drewN ?_ _ | refine blk_drew ?_ | refine blk_alloc ?_ _)); exact BK384.out) hb); have n2_ := Aside0.mk (blk_below (g := gb393) (o := .cells #[.string (rdOf ByteArray.empty y387 (ji20)), .string t392] 38 (0, 0)) (by (with_reducible repeat (first | refine blk_drewN ?_ _ | refine blk_drew ?_ | refine blk_alloc ?_ _)); exact BK393.out) hb); have n3_ := Aside0.mk (below_step (by repeat (first | (with_reducible first | apply bA | apply bN | apply bD | refine below_set ?_ GE384.out | refine below_set ?_ GE393.out) | exact HB.out)) hb); clear HO389; clear BK384; clear BK393; clear HB; have HO389 := n0_; have BK384 := n1_; have BK393 := n2_; have HB := n3_; clear n0_ n1_ n2_ n3_; (try clear hb); (try clear hb2); (try clear hk); (try clear hi)))
                go_ret
                exact ⟨by first | rfl | (simp [errW_none, errW_some] <;> rfl) | (simp only [← hji20]; first | rfl | (simp [errW_none, errW_some] <;> rfl)) | (simp [*, errW_none, errW_some] <;> rfl), by repeat (first | (with_reducible first | apply bA | apply bN | apply bD | refine below_set ?_ GE384.out | refine below_set ?_ GE393.out) | exact HB.out)⟩
               ·rw [if_neg c43] at H
                exact absurd H (by simp)
              ·replace c42 := Bool.eq_false_iff.mpr c42
               subst c42
               rw [if_neg (show ¬ (false = true) by decide)] at H
               exact absurd (Option.some.inj H) (by rw [hTR.out]; decide)
             ·replace c40 := Bool.eq_false_iff.mpr c40
              subst c40
              rw [if_neg (show ¬ (false = true) by decide)] at H
              exact absurd (Option.some.inj H) (by rw [hTR.out]; decide)
            ·replace c38 := Bool.eq_false_iff.mpr c38
             subst c38
             rw [if_neg (show ¬ (false = true) by decide)] at H
             exact absurd (Option.some.inj H) (by rw [hTR.out]; decide)
           ·rw [if_neg c36] at H
            exact absurd H (by simp)
          ·replace c35 := Bool.eq_false_iff.mpr c35
           subst c35
           rw [if_neg (show ¬ (false = true) by decide)] at H
           exact absurd (Option.some.inj H) (by rw [hTR.out]; decide)
         ·replace c33 := Bool.eq_false_iff.mpr c33
          subst c33
          rw [if_neg (show ¬ (false = true) by decide)] at H
          exact absurd (Option.some.inj H) (by rw [hTR.out]; decide)
        ·replace c31 := Bool.eq_false_iff.mpr c31
         subst c31
         rw [if_neg (show ¬ (false = true) by decide)] at H
         exact absurd (Option.some.inj H) (by rw [hTR.out]; decide)
       ·replace c29 := Bool.eq_false_iff.mpr c29
        subst c29
        rw [if_neg (show ¬ (false = true) by decide)] at H
        exact absurd (Option.some.inj H) (by rw [hTR.out]; decide)
      ·replace c27 := Bool.eq_false_iff.mpr c27
       subst c27
       rw [if_neg (show ¬ (false = true) by decide)] at H
       exact absurd (Option.some.inj H) (by rw [hTR.out]; decide)
     ·rw [if_neg c22] at H
      exact absurd H (by simp)
    ·rw [if_neg c21] at H
     exact absurd H (by simp)

end Go.Proofs.YtipbgnhhmgljnaaDoor.Pall

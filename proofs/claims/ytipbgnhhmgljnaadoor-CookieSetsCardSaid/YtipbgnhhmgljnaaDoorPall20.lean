-- Written by a program of this session: the kit's print with given contracts. Not trusted: Lean checks it.
import Derived.Test.YtipbgnhhmgljnaaDoorPall0
import Derived.Test.YtipbgnhhmgljnaaDoorPall4
import Derived.Test.YtipbgnhhmgljnaaDoorPall19
namespace Go.Proofs.YtipbgnhhmgljnaaDoor.Pall
open Go.RowKit Go.Proofs.YtipbgnhhmgljnaaDoorW.PrintWords Go.Proofs.YtipbgnhhmgljnaaDoorW.PrintLast Go.Proofs.YtipbgnhhmgljnaaDoorW.PrintMore
attribute [local go_sem] max2_int min2_int max_two min_two
set_option linter.unusedVariables false
set_option linter.unusedSimpArgs false

/-! ### wicketmanref11_Read: function 40 -/
mutual
def wicketmanref11_Read.j0 : Nat → ByteArray → List ByteArray → Bool → Option (ByteArray × ByteArray × Int × Bool)
 | 0, _, _, _ => none
 | k + 1, x0, x5, x23 => if x23 = true then (some ((⟨#[]⟩ : ByteArray), (⟨#[]⟩ : ByteArray), 0, false)) else (wicketmanref11_Read.l0 k x0 x5 0)
def wicketmanref11_Read.j2 : Nat → ByteArray → List ByteArray → Int → Option (ByteArray × ByteArray × Int × Bool)
 | 0, _, _, _ => none
 | k + 1, x0, x5, x6 => if 0 < (x5.length : Int) then (if x6 = ((rdOf ByteArray.empty x5 0).size : Int) then (some ((⟨#[]⟩ : ByteArray), (⟨#[]⟩ : ByteArray), 0, false)) else (if 0 ≤ x6 then (if x6 ≤ ((rdOf ByteArray.empty x5 0).size : Int) then (if 0 ≤ (wrap64 (x6 + 1)) then (if (wrap64 (x6 + 1)) ≤ ((rdOf ByteArray.empty x5 0).size : Int) then (if 1 < (x5.length : Int) then (if 8 ≤ ((rdOf ByteArray.empty x5 1).size : Int) then ((wicketmanref01_Decimal.f k ((rdOf ByteArray.empty x5 1).extract 8 (rdOf ByteArray.empty x5 1).size) 999999999).bind fun bt363 => ((wicketmanref11_Set.f k ((rdOf ByteArray.empty x5 0).extract 0 (x6 : Int).toNat) ((rdOf ByteArray.empty x5 0).extract ((wrap64 (x6 + 1)) : Int).toNat (rdOf ByteArray.empty x5 0).size) bt363.1).bind fun bt365 => (if bt365.2 = 0 then (if bt365.1.toList = x0.toList then (some ((rdOf ByteArray.empty x5 0).extract 0 (x6 : Int).toNat, (rdOf ByteArray.empty x5 0).extract ((wrap64 (x6 + 1)) : Int).toNat (rdOf ByteArray.empty x5 0).size, bt363.1, true)) else (some ((⟨#[]⟩ : ByteArray), (⟨#[]⟩ : ByteArray), 0, false))) else (some ((⟨#[]⟩ : ByteArray), (⟨#[]⟩ : ByteArray), 0, false))))) else (none)) else (none)) else (none)) else (none)) else (none)) else (none))) else (none)
def wicketmanref11_Read.l0 : Nat → ByteArray → List ByteArray → Int → Option (ByteArray × ByteArray × Int × Bool)
 | 0, _, _, _ => none
 | k + 1, x0, x5, x6 => if 0 < (x5.length : Int) then (if x6 < ((rdOf ByteArray.empty x5 0).size : Int) then (if 0 ≤ x6 then (if (bt (rdOf ByteArray.empty x5 0) x6) = 61 then (wicketmanref11_Read.j2 k x0 x5 x6) else (wicketmanref11_Read.l0 k x0 x5 (wrap64 (x6 + 1)))) else (none)) else (wicketmanref11_Read.j2 k x0 x5 x6)) else (none)
end
def wicketmanref11_Read.f (k : Nat) (a0 : ByteArray) : Option (ByteArray × ByteArray × Int × Bool) := (wicketmanref11_pieces.f k a0).bind fun t352 => (if (t352.length : Int) = 6 then (if 1 < (t352.length : Int) then (wicketmanref11_Read.j0 k a0 t352 (decide (((rdOf ByteArray.empty t352 1).size : Int) < 8))) else (none)) else (wicketmanref11_Read.j0 k a0 t352 true))
theorem wicketmanref11_Read.mono_l : ∀ k, (∀ y0 y1 y2, LeO (wicketmanref11_Read.j0 k y0 y1 y2) (wicketmanref11_Read.j0 (k + 1) y0 y1 y2)) ∧ (∀ y0 y1 y2, LeO (wicketmanref11_Read.j2 k y0 y1 y2) (wicketmanref11_Read.j2 (k + 1) y0 y1 y2)) ∧ (∀ y0 y1 y2, LeO (wicketmanref11_Read.l0 k y0 y1 y2) (wicketmanref11_Read.l0 (k + 1) y0 y1 y2))
 | 0 => ⟨fun _ _ _ r h => by simp [wicketmanref11_Read.j0] at h, fun _ _ _ r h => by simp [wicketmanref11_Read.j2] at h, fun _ _ _ r h => by simp [wicketmanref11_Read.l0] at h⟩
 | k + 1 => by
  obtain ⟨ih0, ih1, ih2⟩ := wicketmanref11_Read.mono_l k
  refine ⟨?_, ?_, ?_⟩
  ·intro y0 y1 y2
   unfold wicketmanref11_Read.j0
   repeat' first
   | (with_reducible exact ih0 _ _ _)
   | (with_reducible exact ih1 _ _ _)
   | (with_reducible exact ih2 _ _ _)
   | (with_reducible exact wicketmanref01_Decimal.mono _ _ _)
   | (with_reducible exact wicketmanref11_Set.mono _ _ _ _)
   | (with_reducible exact wicketmanref11_pieces.mono _ _)
   | (with_reducible exact LeO.refl _)
   | (with_reducible exact LeO.none _)
   | (with_reducible refine LeO.ite ?_ ?_)
   | (with_reducible refine LeO.bind ?_ (fun _ => ?_))
   | exact ih0 _ _ _
   | exact ih1 _ _ _
   | exact ih2 _ _ _
   | exact wicketmanref01_Decimal.mono _ _ _
   | exact wicketmanref11_Set.mono _ _ _ _
   | exact wicketmanref11_pieces.mono _ _
   | exact LeO.none _
   | refine LeO.ite ?_ ?_
   | refine LeO.bind ?_ (fun _ => ?_)
  ·intro y0 y1 y2
   unfold wicketmanref11_Read.j2
   repeat' first
   | (with_reducible exact ih0 _ _ _)
   | (with_reducible exact ih1 _ _ _)
   | (with_reducible exact ih2 _ _ _)
   | (with_reducible exact wicketmanref01_Decimal.mono _ _ _)
   | (with_reducible exact wicketmanref11_Set.mono _ _ _ _)
   | (with_reducible exact wicketmanref11_pieces.mono _ _)
   | (with_reducible exact LeO.refl _)
   | (with_reducible exact LeO.none _)
   | (with_reducible refine LeO.ite ?_ ?_)
   | (with_reducible refine LeO.bind ?_ (fun _ => ?_))
   | exact ih0 _ _ _
   | exact ih1 _ _ _
   | exact ih2 _ _ _
   | exact wicketmanref01_Decimal.mono _ _ _
   | exact wicketmanref11_Set.mono _ _ _ _
   | exact wicketmanref11_pieces.mono _ _
   | exact LeO.none _
   | refine LeO.ite ?_ ?_
   | refine LeO.bind ?_ (fun _ => ?_)
  ·intro y0 y1 y2
   unfold wicketmanref11_Read.l0
   repeat' first
   | (with_reducible exact ih0 _ _ _)
   | (with_reducible exact ih1 _ _ _)
   | (with_reducible exact ih2 _ _ _)
   | (with_reducible exact wicketmanref01_Decimal.mono _ _ _)
   | (with_reducible exact wicketmanref11_Set.mono _ _ _ _)
   | (with_reducible exact wicketmanref11_pieces.mono _ _)
   | (with_reducible exact LeO.refl _)
   | (with_reducible exact LeO.none _)
   | (with_reducible refine LeO.ite ?_ ?_)
   | (with_reducible refine LeO.bind ?_ (fun _ => ?_))
   | exact ih0 _ _ _
   | exact ih1 _ _ _
   | exact ih2 _ _ _
   | exact wicketmanref01_Decimal.mono _ _ _
   | exact wicketmanref11_Set.mono _ _ _ _
   | exact wicketmanref11_pieces.mono _ _
   | exact LeO.none _
   | refine LeO.ite ?_ ?_
   | refine LeO.bind ?_ (fun _ => ?_)
theorem wicketmanref11_Read.mono : ∀ a0 k, LeO (wicketmanref11_Read.f k a0) (wicketmanref11_Read.f (k + 1) a0) := by
 intro a0 k
 obtain ⟨ih0, ih1, ih2⟩ := wicketmanref11_Read.mono_l k
 unfold wicketmanref11_Read.f
 repeat' first
   | (with_reducible exact ih0 _ _ _)
   | (with_reducible exact ih1 _ _ _)
   | (with_reducible exact ih2 _ _ _)
   | (with_reducible exact wicketmanref01_Decimal.mono _ _ _)
   | (with_reducible exact wicketmanref11_Set.mono _ _ _ _)
   | (with_reducible exact wicketmanref11_pieces.mono _ _)
   | (with_reducible exact LeO.refl _)
   | (with_reducible exact LeO.none _)
   | (with_reducible refine LeO.ite ?_ ?_)
   | (with_reducible refine LeO.bind ?_ (fun _ => ?_))
   | exact ih0 _ _ _
   | exact ih1 _ _ _
   | exact ih2 _ _ _
   | exact wicketmanref01_Decimal.mono _ _ _
   | exact wicketmanref11_Set.mono _ _ _ _
   | exact wicketmanref11_pieces.mono _ _
   | exact LeO.none _
   | refine LeO.ite ?_ ?_
   | refine LeO.bind ?_ (fun _ => ?_)
def wicketmanref11_Read.T9 : Bool × List (List Nat × List Nat) := (true, [([], []), ([0], [0]), ([1], [1]), ([], []), ([2, 3], [2, 3]), ([], []), ([5], [5]), ([6], [6]), ([], []), ([8], [8]), ([7, 9], [7, 9]), ([4, 10], [4, 10]), ([], []), ([12, 11, 0, 1, 2, 3, 4, 5, 6, 7, 8, 9, 10, 11, 12], [11, 12])])
def wicketmanref11_Read.B9 : List Nat := [0, 1, 3, 0, 15, 0, 32, 96, 0, 256, 992, 2047, 0, 8191]
theorem wicketmanref11_Read.tab9 : rtab .any (opsOf Tryd.f40 9) = wicketmanref11_Read.T9 := by kernel_rfl
theorem wicketmanref11_Read.bits9 : waitsOk wicketmanref11_Read.T9.2 wicketmanref11_Read.B9 = true := by kernel_rfl
set_option maxHeartbeats 8000000 in
set_option maxRecDepth 100000 in
theorem wicketmanref11_Read.calls (k : Nat) (a0 : ByteArray) (r1 : ByteArray) (r2 : ByteArray) (r3 : Int) (r4 : Bool) (w : World) (hS : Sh w) (h : wicketmanref11_Read.f k a0 = some (r1, r2, r3, r4)) :
  Calls Tryd.prog 40 #[.string a0] w fun e w' => e = .returned (.tuple #[.agg #[.string r1, .string r2], .int .i64 r3, .bool r4]) ∧ Below w.heap.size w w' := by
 have hu38 := Tryd.underlying38
 have HB := Aside0.mk (Below.refl w.heap.size w)
 have H : ((wicketmanref11_pieces.f k a0).bind fun t352 => (if (t352.length : Int) = 6 then (if 1 < (t352.length : Int) then (wicketmanref11_Read.j0 k a0 t352 (decide (((rdOf ByteArray.empty t352 1).size : Int) < 8))) else (none)) else (wicketmanref11_Read.j0 k a0 t352 true))) = some (r1, r2, r3, r4) := h
 clear h
 replace H := Option.bind_eq_some_iff.mp H
 obtain ⟨t352, A20, H⟩ := H
 try dsimp only at H
 have A2 := Aside0.mk A20
 clear A20
 have HC3 := Aside0.mk H
 clear H
 go_enter Tryd.func40, Tryd.ntmps40
 go_upto_region 2 with (first | ((with_reducible refine gate_dst (N := 2) rfl ?_); refine box_event ?hg (N := 2) ?hd (cs := #[.string (⟨#[]⟩ : ByteArray), .string (⟨#[]⟩ : ByteArray)]) (t := 38) ?hr ?_; (case hd => rfl); (case hg => rfl); (case hr => first | (go_simp; done) | (go_simp; rfl)); intro gb351 hg w4 hbox hb; have n0_ := Aside0.mk (below_step (by repeat (first | (with_reducible first | apply bA | apply bN | apply bD) | exact HB.out)) hb); have n1_ := Aside0.mk (hbox); have n2_ := Aside0.mk ((by rw [hg]; exact (below_size (by repeat (first | (with_reducible first | apply bA | apply bN | apply bD) | exact HB.out))) : w.heap.size ≤ gb351)); have n3_ := Aside0.mk ((by rw [hg]; exact (below_size (by repeat (first | (with_reducible first | apply bA | apply bN | apply bD) | exact HB.out))) : w.heap.size ≤ gb351)); clear HB; have HB := n0_; have BK351 := n1_; have GW351 := n2_; have GE351 := n3_; clear n0_ n1_ n2_ n3_; clear hb hbox hg) | ((with_reducible refine gate_callee (f := 42) rfl ?_); refine goesL_ (some 13) rfl rfl Tryd.func42 (by kernel_rfl) rfl #[.string a0] rfl (by (try simp only [List.map_toArray, List.map_cons, List.map_nil]); first | done | rfl | (simp only [List.length_drop, List.length_take]; rfl)) ?_; (with_reducible refine (wicketmanref11_pieces.calls k a0 t352 _ A2.out).mono ?_); rintro e w5 ⟨v353, rfl, ho0, hb⟩; refine ⟨_, rfl, ?_⟩; have n0_ := Aside0.mk (Kd.R_lower ho0 (below_size (by repeat (first | (with_reducible first | apply bA | apply bN | apply bD | refine below_set ?_ GE351.out) | exact HB.out)))); have n1_ := Aside0.mk (blk_below (g := gb351) (o := .cells #[.string (⟨#[]⟩ : ByteArray), .string (⟨#[]⟩ : ByteArray)] 38 (0, 0)) (by (with_reducible repeat (first | refine blk_drewN ?_ _ | refine blk_drew ?_ | refine blk_alloc ?_ _)); exact BK351.out) hb); have n2_ := Aside0.mk (below_step (by repeat (first | (with_reducible first | apply bA | apply bN | apply bD | refine below_set ?_ GE351.out) | exact HB.out)) hb); clear BK351; clear HB; have HO354 := n0_; have BK351 := n1_; have HB := n2_; clear n0_ n1_ n2_; (try clear hb); (try clear hb2); (try clear hk); (try clear hi); (try clear ho0)))
 (try simp only [Act.put, List.setIfInBounds_toArray, List.set_cons_zero, List.set_cons_succ])
 go_cut [23] (fun v23 wc => ∃ (kq : Nat) (x23_2 : Bool), v23 = .bool x23_2 ∧ Aside0 (wicketmanref11_Read.j0 kq a0 t352 x23_2 = some (r1, r2, r3, r4)) ∧ Aside0 (kq ≤ k) ∧ Aside0 (Kd.R Kd.string 9 wc w.heap.size (fun _ => True) v353 t352) ∧ Aside0 (wc.heap[gb351]? = some (.cells #[.string (⟨#[]⟩ : ByteArray), .string (⟨#[]⟩ : ByteArray)] 38 (0, 0))) ∧ Aside0 (Below w.heap.size w wc))
 case first =>
  have H := HC3.out
  clear HC3
  by_cases c6 : (t352.length : Int) = 6
  ·rw [if_pos c6] at H
   have c6b0 : ((t352.length : Int) == 6) = true := beq_iff_eq.mpr c6
   have c6b1 : ((t352.length : Int) != 6) = false := bne_eq_false_iff_eq.mpr c6
   clear c6
   (first | rw [c6b0] | (simp only [i64_w, i32_w]; rw [c6b0]) | skip)
   by_cases c7 : 1 < (t352.length : Int)
   ·rw [if_pos c7] at H
    have c7b0 : decide (1 < (t352.length : Int)) = true := decide_eq_true c7
    have c7b1 : decide (1 < t352.length) = true := decide_eq_true (by omega)
    clear c7
    have H' := Aside0.mk H
    clear H
    obtain ⟨Ao8, co8, eo8⟩ := Kd.R_slice HO354.out
    subst eo8
    have p355 : 0 ≤ (1 : Int) := (by omega)
    have q355 : 1 < (t352.length : Int) := of_decide_eq_true (by first | (with_reducible assumption) | assumption)
    obtain ⟨ad355, e355, hx355_0⟩ := Kd.at_string (Kd.R_reads' HO354.out).2.2 1 p355 q355
    cases e355
    (try simp only [show (1 : Int).toNat = 1 from rfl, Nat.reduceMul, Nat.reduceEqDiff, Go.Addr.add, ↓reduceIte] at hx355_0)
    have qi355 : (1 < t352.length) = True := eq_true (by omega)
    (try rw [show ((1 : Int)).toNat = 1 from rfl] at hx355_0)
    replace p355 := eq_true p355
    replace q355 := eq_true q355
    go_wp2
    go_meet
    case rel => exact ⟨_, (decide (((rdOf ByteArray.empty t352 1).size : Int) < 8)), (by first | rfl | (simp; done) | (simp [*]; done)), H', ⟨by first | omega | exact Nat.le_refl _⟩, ⟨by (with_reducible repeat (first | apply Kd.R_alloc | apply Kd.R_drewN | apply Kd.R_drew)); exact HO354.out⟩, ⟨by (with_reducible repeat (first | refine blk_drewN ?_ _ | refine blk_drew ?_ | refine blk_alloc ?_ _)); exact BK351.out⟩, ⟨by repeat (first | (with_reducible first | apply bA | apply bN | apply bD | refine below_set ?_ GE351.out) | exact HB.out)⟩⟩
   ·rw [if_neg c7] at H
    exact absurd H (by simp)
  ·rw [if_neg c6] at H
   have c6b0 : ((t352.length : Int) == 6) = false := beq_eq_false_iff_ne.mpr c6
   have c6b1 : ((t352.length : Int) != 6) = true := bne_iff_ne.mpr c6
   (first | rw [c6b0] | (simp only [i64_w, i32_w]; rw [c6b0]) | skip)
   have H' := Aside0.mk H
   clear H
   obtain ⟨Ao9, co9, eo9⟩ := Kd.R_slice HO354.out
   subst eo9
   go_wp2
   go_meet
   case rel => exact ⟨_, (true), (by first | rfl | (simp; done) | (simp [*]; done)), H', ⟨by first | omega | exact Nat.le_refl _⟩, ⟨by (with_reducible repeat (first | apply Kd.R_alloc | apply Kd.R_drewN | apply Kd.R_drew)); exact HO354.out⟩, ⟨by (with_reducible repeat (first | refine blk_drewN ?_ _ | refine blk_drew ?_ | refine blk_alloc ?_ _)); exact BK351.out⟩, ⟨by repeat (first | (with_reducible first | apply bA | apply bN | apply bD | refine below_set ?_ GE351.out) | exact HB.out)⟩⟩
 case rest =>
  clear HC3
  try clear p2
  try clear p3
  try clear q3
  try clear hx3
  try clear qi3
  try clear c4
  try clear c6
  try clear c6b0
  try clear c6b1
  try clear c7
  try clear c7b0
  try clear c7b1
  try clear hx355_0
  try clear p355
  try clear q355
  obtain ⟨kq, x23_2, rfl, HA, HJ2, HO_5, BK351, HB⟩ := hcut
  cases kq with
  | zero => exact absurd HA.out (by simp [wicketmanref11_Read.j0])
  | succ kj2 =>
   have H := HA.out
   clear HA
   simp only [wicketmanref11_Read.j0] at H
   by_cases c10 : x23_2 = true
   ·subst c10
    rw [if_pos rfl] at H
    simp only [Option.some.injEq, Prod.mk.injEq] at H
    obtain ⟨rfl, rfl, rfl, rfl⟩ := H
    have hcz11_0 : wc.cell? ⟨gb351, 0, none⟩ = some (.string (⟨#[]⟩ : ByteArray)) := (blk_cell BK351.out 0).trans rfl
    have hcz11_1 : wc.cell? ⟨gb351, 1, none⟩ = some (.string (⟨#[]⟩ : ByteArray)) := (blk_cell BK351.out 1).trans rfl
    have hfz11_0 := blk_frozen BK351.out 0
    have hfz11_1 := blk_frozen BK351.out 1
    go_wp2
    refine bodyPost_ret (results_ctt rfl _ _ gb351 38 #[.string (⟨#[]⟩ : ByteArray), .string (⟨#[]⟩ : ByteArray)] (0, 0) _ rfl (by (with_reducible repeat (first | refine blk_drewN ?_ _ | refine blk_drew ?_ | refine blk_alloc ?_ _)); refine blk_put (cs := #[.string (⟨#[]⟩ : ByteArray), .string (⟨#[]⟩ : ByteArray)]) ?_ 1 _ rfl; (with_reducible repeat (first | refine blk_drewN ?_ _ | refine blk_drew ?_ | refine blk_alloc ?_ _)); refine blk_put (cs := #[.string (⟨#[]⟩ : ByteArray), .string (⟨#[]⟩ : ByteArray)]) ?_ 0 _ rfl; (with_reducible repeat (first | refine blk_drewN ?_ _ | refine blk_drew ?_ | refine blk_alloc ?_ _)); exact BK351.out) Tryd.underlying38 rfl (by kernel_rfl)) rfl ?_
    exact ⟨by first | rfl | (simp [errW_none, errW_some] <;> rfl) | (simp [*, errW_none, errW_some] <;> rfl), by repeat (first | (with_reducible first | apply bA | apply bN | apply bD | refine below_set ?_ GE351.out) | exact HB.out)⟩
   ·replace c10 := Bool.eq_false_iff.mpr c10
    subst c10
    rw [if_neg (show ¬ (false = true) by decide)] at H
    have HC12 := Aside0.mk H
    clear H
    go_upto_block 0 with (fail)
    go_cut [6] (fun v6 wc => ∃ (kq : Nat) (x6_11 : Int), v6 = .int .i64 x6_11 ∧ Aside0 (wicketmanref11_Read.j2 kq a0 t352 x6_11 = some (r1, r2, r3, r4)) ∧ Aside0 (kq ≤ kj2) ∧ Aside0 (Kd.R Kd.string 9 wc w.heap.size (fun _ => True) v353 t352) ∧ Aside0 (wc.heap[gb351]? = some (.cells #[.string (⟨#[]⟩ : ByteArray), .string (⟨#[]⟩ : ByteArray)] 38 (0, 0))) ∧ Aside0 (Below w.heap.size w wc))
    case first =>
     have H := HC12.out
     clear HC12
     have H' := Aside0.mk H
     clear H
     go_wp2
     go_loopg [6] kj2 (fun kq v6 w' => ∃ (x6_2 : Int), v6 = .int .i64 x6_2 ∧ Aside0 (wicketmanref11_Read.l0 kq a0 t352 x6_2 = some (r1, r2, r3, r4)) ∧ Aside0 (kq ≤ kj2) ∧ Aside0 (Kd.R Kd.string 9 w' w.heap.size (fun _ => True) v353 t352) ∧ Aside0 (w'.heap[gb351]? = some (.cells #[.string (⟨#[]⟩ : ByteArray), .string (⟨#[]⟩ : ByteArray)] 38 (0, 0))) ∧ Aside0 (Below w.heap.size w w'))
     case atStart => exact ⟨(0), (by first | rfl | (simp; done) | (simp [*]; done)), H', ⟨Nat.le_refl _⟩, ⟨by (with_reducible repeat (first | apply Kd.R_alloc | apply Kd.R_drewN | apply Kd.R_drew)); exact HO_5.out⟩, ⟨by (with_reducible repeat (first | refine blk_drewN ?_ _ | refine blk_drew ?_ | refine blk_alloc ?_ _)); exact BK351.out⟩, ⟨by repeat (first | (with_reducible first | apply bA | apply bN | apply bD | refine below_set ?_ GE351.out) | exact HB.out)⟩⟩
     case round =>
      clear H'
      try clear c1
      try clear p2
      try clear p3
      try clear q3
      try clear hx3
      try clear qi3
      try clear c4
      try clear c6
      try clear c6b0
      try clear c6b1
      try clear c7
      try clear c7b0
      try clear c7b1
      try clear c10
      try clear hcz11_0
      try clear hcz11_1
      try clear hfz11_0
      try clear hfz11_1
      try clear hx355_0
      try clear p2
      try clear p3
      try clear p355
      try clear q3
      try clear q355
      obtain ⟨x6_2, rfl, HA, HK2, HO_5, BK351, HB⟩ := hrel
      cases gk with
      | zero => exact absurd HA.out (by simp [wicketmanref11_Read.l0])
      | succ k2 =>
       have H := HA.out
       clear HA
       simp only [wicketmanref11_Read.l0] at H
       by_cases c13 : 0 < (t352.length : Int)
       ·rw [if_pos c13] at H
        have c13b0 : decide (0 < (t352.length : Int)) = true := decide_eq_true c13
        have c13b1 : decide (0 < t352.length) = true := decide_eq_true (by omega)
        clear c13
        (first | rw [c13b0] | (simp only [i64_w, i32_w]; rw [c13b0]) | skip)
        by_cases c14 : x6_2 < ((rdOf ByteArray.empty t352 0).size : Int)
        ·rw [if_pos c14] at H
         have c14b0 : decide (x6_2 < ((rdOf ByteArray.empty t352 0).size : Int)) = true := decide_eq_true c14
         clear c14
         by_cases c15 : 0 ≤ x6_2
         ·rw [if_pos c15] at H
          have c15b0 : decide (0 ≤ x6_2) = true := decide_eq_true c15
          clear c15
          by_cases c17 : (bt (rdOf ByteArray.empty t352 0) x6_2) = 61
          ·rw [if_pos c17] at H
           have c17b0 : ((bt (rdOf ByteArray.empty t352 0) x6_2) == 61) = true := beq_iff_eq.mpr c17
           have c17b1 : ((bt (rdOf ByteArray.empty t352 0) x6_2) != 61) = false := bne_eq_false_iff_eq.mpr c17
           clear c17
           have H' := Aside0.mk H
           clear H
           obtain ⟨Ao18, co18, eo18⟩ := Kd.R_slice HO_5.out
           subst eo18
           have p356 : 0 ≤ (0 : Int) := (by omega)
           have q356 : 0 < (t352.length : Int) := of_decide_eq_true (by first | (with_reducible assumption) | assumption)
           obtain ⟨ad356, e356, hx356_0⟩ := Kd.at_string (Kd.R_reads' HO_5.out).2.2 0 p356 q356
           cases e356
           have qi356 : (0 < t352.length) = True := eq_true (by omega)
           (try rw [show ((0 : Int)).toNat = 0 from rfl] at hx356_0)
           (try rw [Addr.add_zero'] at hx356_0)
           replace p356 := eq_true p356
           replace q356 := eq_true q356
           have p357 : 0 ≤ (0 : Int) := (by omega)
           have q357 : 0 < (t352.length : Int) := of_decide_eq_true (by first | (with_reducible assumption) | assumption)
           obtain ⟨ad357, e357, hx357_0⟩ := Kd.at_string (Kd.R_reads' HO_5.out).2.2 0 p357 q357
           obtain rfl : ad356 = ad357 := (by injection e357)
           have qi357 : (0 < t352.length) = True := eq_true (by omega)
           (try rw [show ((0 : Int)).toNat = 0 from rfl] at hx357_0)
           (try rw [Addr.add_zero'] at hx357_0)
           replace p357 := eq_true p357
           replace q357 := eq_true q357
           have p16 : 0 ≤ (x6_2 : Int) := of_decide_eq_true (by first | (with_reducible assumption) | assumption)
           have q16 : x6_2 < ((rdOf ByteArray.empty t352 0).size : Int) := of_decide_eq_true (by first | (with_reducible assumption) | assumption)
           have hx16 := bt_at (rdOf ByteArray.empty t352 0) x6_2
           replace p16 := eq_true p16
           replace q16 := eq_true q16
           go_wp2
           go_meet
           case rel => exact ⟨_, (x6_2), (by first | rfl | (simp; done) | (simp [*]; done)), H', ⟨by have := HJ2.out; have := HK2.out; first | omega | exact Nat.le_refl _⟩, ⟨by (with_reducible repeat (first | apply Kd.R_alloc | apply Kd.R_drewN | apply Kd.R_drew)); exact HO_5.out⟩, ⟨by (with_reducible repeat (first | refine blk_drewN ?_ _ | refine blk_drew ?_ | refine blk_alloc ?_ _)); exact BK351.out⟩, ⟨by repeat (first | (with_reducible first | apply bA | apply bN | apply bD | refine below_set ?_ GE351.out) | exact HB.out)⟩⟩
          ·rw [if_neg c17] at H
           have c17b0 : ((bt (rdOf ByteArray.empty t352 0) x6_2) == 61) = false := beq_eq_false_iff_ne.mpr c17
           have c17b1 : ((bt (rdOf ByteArray.empty t352 0) x6_2) != 61) = true := bne_iff_ne.mpr c17
           have H' := Aside0.mk H
           clear H
           obtain ⟨Ao19, co19, eo19⟩ := Kd.R_slice HO_5.out
           subst eo19
           have p356 : 0 ≤ (0 : Int) := (by omega)
           have q356 : 0 < (t352.length : Int) := of_decide_eq_true (by first | (with_reducible assumption) | assumption)
           obtain ⟨ad356, e356, hx356_0⟩ := Kd.at_string (Kd.R_reads' HO_5.out).2.2 0 p356 q356
           cases e356
           have qi356 : (0 < t352.length) = True := eq_true (by omega)
           (try rw [show ((0 : Int)).toNat = 0 from rfl] at hx356_0)
           (try rw [Addr.add_zero'] at hx356_0)
           replace p356 := eq_true p356
           replace q356 := eq_true q356
           have p357 : 0 ≤ (0 : Int) := (by omega)
           have q357 : 0 < (t352.length : Int) := of_decide_eq_true (by first | (with_reducible assumption) | assumption)
           obtain ⟨ad357, e357, hx357_0⟩ := Kd.at_string (Kd.R_reads' HO_5.out).2.2 0 p357 q357
           obtain rfl : ad356 = ad357 := (by injection e357)
           have qi357 : (0 < t352.length) = True := eq_true (by omega)
           (try rw [show ((0 : Int)).toNat = 0 from rfl] at hx357_0)
           (try rw [Addr.add_zero'] at hx357_0)
           replace p357 := eq_true p357
           replace q357 := eq_true q357
           have p16 : 0 ≤ (x6_2 : Int) := of_decide_eq_true (by first | (with_reducible assumption) | assumption)
           have q16 : x6_2 < ((rdOf ByteArray.empty t352 0).size : Int) := of_decide_eq_true (by first | (with_reducible assumption) | assumption)
           have hx16 := bt_at (rdOf ByteArray.empty t352 0) x6_2
           replace p16 := eq_true p16
           replace q16 := eq_true q16
           go_wp2
           go_roundg k2
           case measure => have := HJ2.out; have := HK2.out; omega
           case rel => exact ⟨(wrap64 (x6_2 + 1)), (by first | rfl | (simp; done) | (simp [*]; done)), H', ⟨by have := HJ2.out; have := HK2.out; omega⟩, ⟨by (with_reducible repeat (first | apply Kd.R_alloc | apply Kd.R_drewN | apply Kd.R_drew)); exact HO_5.out⟩, ⟨by (with_reducible repeat (first | refine blk_drewN ?_ _ | refine blk_drew ?_ | refine blk_alloc ?_ _)); exact BK351.out⟩, ⟨by repeat (first | (with_reducible first | apply bA | apply bN | apply bD | refine below_set ?_ GE351.out) | exact HB.out)⟩⟩
         ·rw [if_neg c15] at H
          exact absurd H (by simp)
        ·rw [if_neg c14] at H
         have c14b0 : decide (x6_2 < ((rdOf ByteArray.empty t352 0).size : Int)) = false := decide_eq_false c14
         clear c14
         have H' := Aside0.mk H
         clear H
         obtain ⟨Ao20, co20, eo20⟩ := Kd.R_slice HO_5.out
         subst eo20
         have p356 : 0 ≤ (0 : Int) := (by omega)
         have q356 : 0 < (t352.length : Int) := of_decide_eq_true (by first | (with_reducible assumption) | assumption)
         obtain ⟨ad356, e356, hx356_0⟩ := Kd.at_string (Kd.R_reads' HO_5.out).2.2 0 p356 q356
         cases e356
         have qi356 : (0 < t352.length) = True := eq_true (by omega)
         (try rw [show ((0 : Int)).toNat = 0 from rfl] at hx356_0)
         (try rw [Addr.add_zero'] at hx356_0)
         replace p356 := eq_true p356
         replace q356 := eq_true q356
         go_wp2
         go_meet
         case rel => exact ⟨_, (x6_2), (by first | rfl | (simp; done) | (simp [*]; done)), H', ⟨by have := HJ2.out; have := HK2.out; first | omega | exact Nat.le_refl _⟩, ⟨by (with_reducible repeat (first | apply Kd.R_alloc | apply Kd.R_drewN | apply Kd.R_drew)); exact HO_5.out⟩, ⟨by (with_reducible repeat (first | refine blk_drewN ?_ _ | refine blk_drew ?_ | refine blk_alloc ?_ _)); exact BK351.out⟩, ⟨by repeat (first | (with_reducible first | apply bA | apply bN | apply bD | refine below_set ?_ GE351.out) | exact HB.out)⟩⟩
       ·rw [if_neg c13] at H
        exact absurd H (by simp)
    case rest =>
     clear HC12
     try clear c1
     try clear p1
     try clear q1
     try clear hx1
     try clear p2
     try clear p3
     try clear q3
     try clear hx3
     try clear qi3
     try clear c4
     try clear c6
     try clear c6b0
     try clear c6b1
     try clear p6
     try clear c7
     try clear c7b0
     try clear c7b1
     try clear c10
     try clear c13
     try clear c13b0
     try clear c13b1
     try clear c14
     try clear c14b0
     try clear c15
     try clear c15b0
     try clear p16
     try clear q16
     try clear hx16
     try clear c17
     try clear c17b0
     try clear c17b1
     try clear hcz11_0
     try clear hcz11_1
     try clear hfz11_0
     try clear hfz11_1
     try clear hx355_0
     try clear hx356_0
     try clear hx357_0
     try clear p16
     try clear p2
     try clear p3
     try clear p355
     try clear p356
     try clear p357
     try clear q16
     try clear q3
     try clear q355
     try clear q356
     try clear q357
     obtain ⟨kq, x6_11, rfl, HA, HJ11, HO_5, BK351, HB⟩ := hcut
     cases kq with
     | zero => exact absurd HA.out (by simp [wicketmanref11_Read.j2])
     | succ kj11 =>
      have H := HA.out
      clear HA
      simp only [wicketmanref11_Read.j2] at H
      by_cases c21 : 0 < (t352.length : Int)
      ·rw [if_pos c21] at H
       have c21b0 : decide (0 < (t352.length : Int)) = true := decide_eq_true c21
       have c21b1 : decide (0 < t352.length) = true := decide_eq_true (by omega)
       clear c21
       by_cases c22 : x6_11 = ((rdOf ByteArray.empty t352 0).size : Int)
       ·rw [if_pos c22] at H
        have c22b0 : (x6_11 == ((rdOf ByteArray.empty t352 0).size : Int)) = true := beq_iff_eq.mpr c22
        have c22b1 : (x6_11 != ((rdOf ByteArray.empty t352 0).size : Int)) = false := bne_eq_false_iff_eq.mpr c22
        clear c22
        simp only [Option.some.injEq, Prod.mk.injEq] at H
        obtain ⟨rfl, rfl, rfl, rfl⟩ := H
        obtain ⟨Ao23, co23, eo23⟩ := Kd.R_slice HO_5.out
        subst eo23
        have p358 : 0 ≤ (0 : Int) := (by omega)
        have q358 : 0 < (t352.length : Int) := of_decide_eq_true (by first | (with_reducible assumption) | assumption)
        obtain ⟨ad358, e358, hx358_0⟩ := Kd.at_string (Kd.R_reads' HO_5.out).2.2 0 p358 q358
        cases e358
        have qi358 : (0 < t352.length) = True := eq_true (by omega)
        (try rw [show ((0 : Int)).toNat = 0 from rfl] at hx358_0)
        (try rw [Addr.add_zero'] at hx358_0)
        replace p358 := eq_true p358
        replace q358 := eq_true q358
        have hcz24_0 : wc.cell? ⟨gb351, 0, none⟩ = some (.string (⟨#[]⟩ : ByteArray)) := (blk_cell BK351.out 0).trans rfl
        have hcz24_1 : wc.cell? ⟨gb351, 1, none⟩ = some (.string (⟨#[]⟩ : ByteArray)) := (blk_cell BK351.out 1).trans rfl
        have hfz24_0 := blk_frozen BK351.out 0
        have hfz24_1 := blk_frozen BK351.out 1
        go_wp2
        refine bodyPost_ret (results_ctt rfl _ _ gb351 38 #[.string (⟨#[]⟩ : ByteArray), .string (⟨#[]⟩ : ByteArray)] (0, 0) _ rfl (by (with_reducible repeat (first | refine blk_drewN ?_ _ | refine blk_drew ?_ | refine blk_alloc ?_ _)); refine blk_put (cs := #[.string (⟨#[]⟩ : ByteArray), .string (⟨#[]⟩ : ByteArray)]) ?_ 1 _ rfl; (with_reducible repeat (first | refine blk_drewN ?_ _ | refine blk_drew ?_ | refine blk_alloc ?_ _)); refine blk_put (cs := #[.string (⟨#[]⟩ : ByteArray), .string (⟨#[]⟩ : ByteArray)]) ?_ 0 _ rfl; (with_reducible repeat (first | refine blk_drewN ?_ _ | refine blk_drew ?_ | refine blk_alloc ?_ _)); exact BK351.out) Tryd.underlying38 rfl (by kernel_rfl)) rfl ?_
        exact ⟨by first | rfl | (simp [errW_none, errW_some] <;> rfl) | (simp [*, errW_none, errW_some] <;> rfl), by repeat (first | (with_reducible first | apply bA | apply bN | apply bD | refine below_set ?_ GE351.out) | exact HB.out)⟩
       ·rw [if_neg c22] at H
        have c22b0 : (x6_11 == ((rdOf ByteArray.empty t352 0).size : Int)) = false := beq_eq_false_iff_ne.mpr c22
        have c22b1 : (x6_11 != ((rdOf ByteArray.empty t352 0).size : Int)) = true := bne_iff_ne.mpr c22
        by_cases c25 : 0 ≤ x6_11
        ·rw [if_pos c25] at H
         have c25b0 := eq_true c25
         have c25b1 : decide (0 ≤ x6_11) = true := decide_eq_true c25
         clear c25
         by_cases c26 : x6_11 ≤ ((rdOf ByteArray.empty t352 0).size : Int)
         ·rw [if_pos c26] at H
          have c26b0 := eq_true c26
          have c26b1 : decide (x6_11 ≤ ((rdOf ByteArray.empty t352 0).size : Int)) = true := decide_eq_true c26
          clear c26
          obtain ⟨ji27, hji27⟩ : ∃ j_ : Int, (wrap64 (x6_11 + 1)) = j_ := ⟨_, rfl⟩
          replace H : (if 0 ≤ (ji27) then (if (ji27) ≤ ((rdOf ByteArray.empty t352 0).size : Int) then (if 1 < (t352.length : Int) then (if 8 ≤ ((rdOf ByteArray.empty t352 1).size : Int) then ((wicketmanref01_Decimal.f kj11 ((rdOf ByteArray.empty t352 1).extract 8 (rdOf ByteArray.empty t352 1).size) 999999999).bind fun bt363 => ((wicketmanref11_Set.f kj11 ((rdOf ByteArray.empty t352 0).extract 0 (x6_11 : Int).toNat) ((rdOf ByteArray.empty t352 0).extract ((ji27) : Int).toNat (rdOf ByteArray.empty t352 0).size) bt363.1).bind fun bt365 => (if bt365.2 = 0 then (if bt365.1.toList = a0.toList then (some ((rdOf ByteArray.empty t352 0).extract 0 (x6_11 : Int).toNat, (rdOf ByteArray.empty t352 0).extract ((ji27) : Int).toNat (rdOf ByteArray.empty t352 0).size, bt363.1, true)) else (some ((⟨#[]⟩ : ByteArray), (⟨#[]⟩ : ByteArray), 0, false))) else (some ((⟨#[]⟩ : ByteArray), (⟨#[]⟩ : ByteArray), 0, false))))) else (none)) else (none)) else (none)) else (none)) = some (r1, r2, r3, r4) := by first | (rw [hji27] at H; exact H) | (simp only [hji27] at H ⊢; exact H)
          have hji27w : (IntKind.i64.wrap (x6_11 + 1)) = ji27 := (i64_w _).trans hji27
          by_cases c28 : 0 ≤ (ji27)
          ·rw [if_pos c28] at H
           have c28b0 := eq_true c28
           have c28b1 : decide (0 ≤ (ji27)) = true := decide_eq_true c28
           clear c28
           by_cases c29 : (ji27) ≤ ((rdOf ByteArray.empty t352 0).size : Int)
           ·rw [if_pos c29] at H
            have c29b0 := eq_true c29
            have c29b1 : decide ((ji27) ≤ ((rdOf ByteArray.empty t352 0).size : Int)) = true := decide_eq_true c29
            clear c29
            by_cases c30 : 1 < (t352.length : Int)
            ·rw [if_pos c30] at H
             have c30b0 : decide (1 < (t352.length : Int)) = true := decide_eq_true c30
             have c30b1 : decide (1 < t352.length) = true := decide_eq_true (by omega)
             clear c30
             by_cases c31 : 8 ≤ ((rdOf ByteArray.empty t352 1).size : Int)
             ·rw [if_pos c31] at H
              have c31b0 := eq_true c31
              have c31b1 : decide (8 ≤ ((rdOf ByteArray.empty t352 1).size : Int)) = true := decide_eq_true c31
              clear c31
              replace H := Option.bind_eq_some_iff.mp H
              obtain ⟨⟨t363, t364⟩, A320, H⟩ := H
              try dsimp only at H
              have A32 := Aside0.mk A320
              clear A320
              replace H := Option.bind_eq_some_iff.mp H
              obtain ⟨⟨t365, t366⟩, A330, H⟩ := H
              try dsimp only at H
              have A33 := Aside0.mk A330
              clear A330
              by_cases c34 : t366 = 0
              ·rw [if_pos c34] at H
               have c34b0 : (t366 == 0) = true := beq_iff_eq.mpr c34
               have c34b1 : (t366 != 0) = false := bne_eq_false_iff_eq.mpr c34
               clear c34
               by_cases c35 : t365.toList = a0.toList
               ·rw [if_pos c35] at H
                have c35b0 : (t365.toList == a0.toList) = true := beq_iff_eq.mpr c35
                have c35b1 : (t365.toList != a0.toList) = false := bne_eq_false_iff_eq.mpr c35
                clear c35
                simp only [Option.some.injEq, Prod.mk.injEq] at H
                obtain ⟨rfl, rfl, rfl, rfl⟩ := H
                obtain ⟨Ao36, co36, eo36⟩ := Kd.R_slice HO_5.out
                subst eo36
                have p358 : 0 ≤ (0 : Int) := (by omega)
                have q358 : 0 < (t352.length : Int) := of_decide_eq_true (by first | (with_reducible assumption) | assumption)
                obtain ⟨ad358, e358, hx358_0⟩ := Kd.at_string (Kd.R_reads' HO_5.out).2.2 0 p358 q358
                cases e358
                have qi358 : (0 < t352.length) = True := eq_true (by omega)
                (try rw [show ((0 : Int)).toNat = 0 from rfl] at hx358_0)
                (try rw [Addr.add_zero'] at hx358_0)
                replace p358 := eq_true p358
                replace q358 := eq_true q358
                try go_wp2
                have n0_ := Aside0.mk (Kd.R_drew HO_5.out)
                have n1_ := Aside0.mk (blk_drew BK351.out)
                have n2_ := Aside0.mk (below_drew1 HB.out)
                clear HO_5
                clear BK351
                clear HB
                have HO_5 := n0_
                have BK351 := n1_
                have HB := n2_
                clear n0_ n1_ n2_
                have p359 : 0 ≤ (0 : Int) := (by omega)
                have q359 : 0 < (t352.length : Int) := of_decide_eq_true (by first | (with_reducible assumption) | assumption)
                obtain ⟨ad359, e359, hx359_0⟩ := Kd.at_string (Kd.R_reads' HO_5.out).2.2 0 p359 q359
                obtain rfl : ad358 = ad359 := (by injection e359)
                have qi359 : (0 < t352.length) = True := eq_true (by omega)
                (try rw [show ((0 : Int)).toNat = 0 from rfl] at hx359_0)
                (try rw [Addr.add_zero'] at hx359_0)
                replace p359 := eq_true p359
                replace q359 := eq_true q359
                have p360 : 0 ≤ (0 : Int) := (by omega)
                have q360 : 0 < (t352.length : Int) := of_decide_eq_true (by first | (with_reducible assumption) | assumption)
                obtain ⟨ad360, e360, hx360_0⟩ := Kd.at_string (Kd.R_reads' HO_5.out).2.2 0 p360 q360
                obtain rfl : ad358 = ad360 := (by injection e360)
                have qi360 : (0 < t352.length) = True := eq_true (by omega)
                (try rw [show ((0 : Int)).toNat = 0 from rfl] at hx360_0)
                (try rw [Addr.add_zero'] at hx360_0)
                replace p360 := eq_true p360
                replace q360 := eq_true q360
                refine start_ (n := 14) (S := fun w' => w'.cell? ad358 = some (.string (rdOf ByteArray.empty t352 0)) ∧ w'.cell? ad358 = some (.string (rdOf ByteArray.empty t352 0))) (ds := []) #[false, false, false, false, false, false, false, false, false, false, false, false, false, false] (by kernel_rfl) rfl rfl ⟨hx359_0, hx360_0⟩ (fun hHeld => ?_); refine with_tabW wicketmanref11_Read.tab9 wicketmanref11_Read.bits9 (fun HT_ HW_ => ?_)
                generalize wc.drew = w37 at HO_5 BK351 HB hx359_0 hx360_0 hHeld ⊢
                refine pure_ (i := 0) (N := some 48) (v := ?_) (a' := ?_) #[true, false, false, false, false, false, false, false, false, false, false, false, false, false] rfl rfl (any_of HT_.out (by kernel_rfl)) (fun _ _ _ h => h) (Or.inl ⟨by rfl, ?_⟩) ?_ ?_
                rotate_left
                ·intro w'
                 go_simp
                 with_reducible rfl
                rotate_left
                ·simp only [Act.put, List.setIfInBounds_toArray, List.set_cons_zero, List.set_cons_succ, i64_w, i32_w]
                 rfl
                refine pure_ (i := 1) (N := some 49) (v := ?_) (a' := ?_) #[true, true, false, false, false, false, false, false, false, false, false, false, false, false] rfl rfl (any_of HT_.out (by kernel_rfl)) (fun _ _ _ h => h) (Or.inl ⟨by rfl, ?_⟩) ?_ ?_
                rotate_left
                ·intro w'
                 go_simp
                 with_reducible rfl
                rotate_left
                ·simp only [Act.put, List.setIfInBounds_toArray, List.set_cons_zero, List.set_cons_succ, i64_w, i32_w]
                 rfl
                refine pure_ (i := 3) (N := some 51) (v := ?_) (a' := ?_) #[true, true, false, true, false, false, false, false, false, false, false, false, false, false] rfl rfl (any_of HT_.out (by kernel_rfl)) (fun _ _ _ h => h) (Or.inl ⟨by rfl, ?_⟩) ?_ ?_
                rotate_left
                ·intro w'
                 go_simp
                 with_reducible rfl
                rotate_left
                ·simp only [Act.put, List.setIfInBounds_toArray, List.set_cons_zero, List.set_cons_succ, i64_w, i32_w]
                 rfl
                refine pure_ (i := 5) (N := some 53) (v := ?_) (a' := ?_) #[true, true, false, true, false, true, false, false, false, false, false, false, false, false] rfl rfl (any_of HT_.out (by kernel_rfl)) (fun _ _ _ h => h) (Or.inl ⟨by rfl, ?_⟩) ?_ ?_
                rotate_left
                ·intro w'
                 go_simp
                 with_reducible rfl
                rotate_left
                ·simp only [Act.put, List.setIfInBounds_toArray, List.set_cons_zero, List.set_cons_succ, i64_w, i32_w]
                 rfl
                refine pure_ (i := 6) (N := some 54) (v := ?_) (a' := ?_) #[true, true, false, true, false, true, true, false, false, false, false, false, false, false] rfl rfl (any_of HT_.out (by kernel_rfl)) (fun _ _ _ h => h) (Or.inl ⟨by rfl, ?_⟩) ?_ ?_
                rotate_left
                ·intro w'
                 go_simp
                 with_reducible rfl
                rotate_left
                ·simp only [Act.put, List.setIfInBounds_toArray, List.set_cons_zero, List.set_cons_succ, i64_w, i32_w]
                 rfl
                refine pure_ (i := 8) (N := some 56) (v := ?_) (a' := ?_) #[true, true, false, true, false, true, true, false, true, false, false, false, false, false] rfl rfl (any_of HT_.out (by kernel_rfl)) (fun _ _ _ h => h) (Or.inl ⟨by rfl, ?_⟩) ?_ ?_
                rotate_left
                ·intro w'
                 go_simp
                 with_reducible rfl
                rotate_left
                ·simp only [Act.put, List.setIfInBounds_toArray, List.set_cons_zero, List.set_cons_succ, i64_w, i32_w]
                 rfl
                refine pure_ (i := 9) (N := some 57) (v := ?_) (a' := ?_) #[true, true, false, true, false, true, true, false, true, true, false, false, false, false] rfl rfl (any_of HT_.out (by kernel_rfl)) (fun _ _ _ h => h) (Or.inl ⟨by rfl, ?_⟩) ?_ ?_
                rotate_left
                ·intro w'
                 go_simp
                 with_reducible rfl
                rotate_left
                ·simp only [Act.put, List.setIfInBounds_toArray, List.set_cons_zero, List.set_cons_succ, i64_w, i32_w]
                 rfl
                refine take_ (i := 2) (N := some 50) (v := ?_) (a' := ?_) #[true, true, true, true, false, true, true, false, true, true, false, false, false, false] rfl rfl (take_ofW HT_.out HW_.out (by kernel_rfl)) (fun _ _ _ h => h) (Or.inl ⟨by rfl, ?_⟩) hHeld ?_ ?_
                rotate_left
                ·rintro w' ⟨s0, s1⟩
                 go_simp
                 with_reducible rfl
                rotate_left
                ·simp only [Act.put, List.setIfInBounds_toArray, List.set_cons_zero, List.set_cons_succ, i64_w, i32_w]
                 rfl
                refine pure_ (i := 4) (N := some 52) (v := ?_) (a' := ?_) #[true, true, true, true, true, true, true, false, true, true, false, false, false, false] rfl rfl (any_of HT_.out (by kernel_rfl)) (fun _ _ _ h => h) (Or.inl ⟨by rfl, ?_⟩) ?_ ?_
                rotate_left
                ·intro w'
                 go_simp
                 with_reducible rfl
                rotate_left
                ·simp only [Act.put, List.setIfInBounds_toArray, List.set_cons_zero, List.set_cons_succ, i64_w, i32_w]
                 rfl
                refine take_ (i := 7) (N := some 55) (v := ?_) (a' := ?_) #[true, true, true, true, true, true, true, true, true, true, false, false, false, false] rfl rfl (take_ofW HT_.out HW_.out (by kernel_rfl)) (fun _ _ _ h => h) (Or.inl ⟨by rfl, ?_⟩) hHeld ?_ ?_
                rotate_left
                ·rintro w' ⟨s0, s1⟩
                 go_simp
                 with_reducible rfl
                rotate_left
                ·simp only [Act.put, List.setIfInBounds_toArray, List.set_cons_zero, List.set_cons_succ, i64_w, i32_w]
                 rfl
                refine pure_ (i := 10) (N := some 58) (v := ?_) (a' := ?_) #[true, true, true, true, true, true, true, true, true, true, true, false, false, false] rfl rfl (any_of HT_.out (by kernel_rfl)) (fun _ _ _ h => h) (Or.inl ⟨by rfl, ?_⟩) ?_ ?_
                rotate_left
                ·intro w'
                 go_simp
                 with_reducible rfl
                rotate_left
                ·simp only [Act.put, List.setIfInBounds_toArray, List.set_cons_zero, List.set_cons_succ, i64_w, i32_w]
                 rfl
                refine pure_ (i := 11) (N := some 59) (v := ?_) (a' := ?_) #[true, true, true, true, true, true, true, true, true, true, true, true, false, false] rfl rfl (any_of HT_.out (by kernel_rfl)) (fun _ _ _ h => h) (Or.inl ⟨by rfl, ?_⟩) ?_ ?_
                rotate_left
                ·intro w'
                 go_simp
                 with_reducible rfl
                rotate_left
                ·simp only [Act.put, List.setIfInBounds_toArray, List.set_cons_zero, List.set_cons_succ, i64_w, i32_w]
                 rfl
                refine one_ (i := 12) (N := some 7) #[true, true, true, true, true, true, true, true, true, true, true, true, true, false] rfl rfl (one_of HT_.out (by kernel_rfl)) (by decide) (fun K hK => ?_)
                refine box_step ?hg (N := 7) ?hd (cs := #[.string (⟨#[]⟩ : ByteArray), .string (⟨#[]⟩ : ByteArray)]) (t := 38) ?hr ?_; (case hd => rfl); (case hg => rfl); (case hr => first | (go_simp; done) | (go_simp; rfl))
                intro gb361 hg w38 hbox hb
                have HS0_ := (hb.cell (World.block_lt_of_cell? _ _ (hHeld.1))).trans (hHeld.1)
                have HS1_ := (hb.cell (World.block_lt_of_cell? _ _ (hHeld.2))).trans (hHeld.2)
                have n0_ := Aside0.mk (Kd.R_below (by (with_reducible repeat (first | apply Kd.R_alloc | apply Kd.R_drewN | apply Kd.R_drew)); exact HO_5.out) hb)
                have n1_ := Aside0.mk (blk_below (g := gb351) (o := .cells #[.string (⟨#[]⟩ : ByteArray), .string (⟨#[]⟩ : ByteArray)] 38 (0, 0)) (by (with_reducible repeat (first | refine blk_drewN ?_ _ | refine blk_drew ?_ | refine blk_alloc ?_ _)); exact BK351.out) hb)
                have n2_ := Aside0.mk (below_step (by repeat (first | (with_reducible first | apply bA | apply bN | apply bD | refine below_set ?_ GE351.out) | exact HB.out)) hb)
                have n3_ := Aside0.mk (hbox)
                have n4_ := Aside0.mk ((by rw [hg]; exact (below_size (by repeat (first | (with_reducible first | apply bA | apply bN | apply bD | refine below_set ?_ GE351.out) | exact HB.out))) : w.heap.size ≤ gb361))
                have n5_ := Aside0.mk ((by rw [hg]; exact (below_size (by repeat (first | (with_reducible first | apply bA | apply bN | apply bD | refine below_set ?_ GE351.out) | exact HB.out))) : w.heap.size ≤ gb361))
                have n6_ := Aside0.mk ((by rw [hg]; exact Nat.ne_of_lt (blk_lt (g := gb351) (o := .cells #[.string (⟨#[]⟩ : ByteArray), .string (⟨#[]⟩ : ByteArray)] 38 (0, 0)) (by (with_reducible repeat (first | refine blk_drewN ?_ _ | refine blk_drew ?_ | refine blk_alloc ?_ _)); exact BK351.out)) : gb351 ≠ gb361))
                have n7_ := Aside0.mk ((by rw [hg]; exact Nat.ne_of_gt (blk_lt (g := gb351) (o := .cells #[.string (⟨#[]⟩ : ByteArray), .string (⟨#[]⟩ : ByteArray)] 38 (0, 0)) (by (with_reducible repeat (first | refine blk_drewN ?_ _ | refine blk_drew ?_ | refine blk_alloc ?_ _)); exact BK351.out)) : gb361 ≠ gb351))
                clear HO_5
                clear BK351
                clear HB
                have HO_5 := n0_
                have BK351 := n1_
                have HB := n2_
                have BK361 := n3_
                have GW361 := n4_
                have GE361 := n5_
                have NB351_361 := n6_
                have NB361_351 := n7_
                clear n0_ n1_ n2_ n3_ n4_ n5_ n6_ n7_
                clear hb hbox hg
                refine hK.out _ _ ⟨HS0_, HS1_⟩ (fun hHeld => ?_)
                clear hK K
                refine norm_ (a' := ?_) ?_ ?_
                rotate_left
                ·show Act.put _ (some 7) _ = _
                 simp only [Act.put, List.setIfInBounds_toArray, List.set_cons_zero, List.set_cons_succ, i64_w, i32_w]
                 rfl
                refine one_ (i := 13) (N := none) #[true, true, true, true, true, true, true, true, true, true, true, true, true, true] rfl rfl (one_of HT_.out (by kernel_rfl)) (by decide) (fun K hK => ?_)
                have hs39 : w38.cell? ⟨gb361, 0, none⟩ = some (.string (⟨#[]⟩ : ByteArray)) := (blk_cell BK361.out 0).trans rfl
                have hfs39 := blk_frozen BK361.out 0
                have hns39_0 := NB351_361.out
                have hms39_0 := NB361_351.out
                have hs40 : w38.cell? ⟨gb361, 1, none⟩ = some (.string (⟨#[]⟩ : ByteArray)) := (blk_cell BK361.out 1).trans rfl
                have hfs40 := blk_frozen BK361.out 1
                have hns40_0 := NB351_361.out
                have hms40_0 := NB361_351.out
                refine skip_ (w1 := ?_) (by rfl) rfl ?_ ?_
                rotate_left
                ·go_simp
                 rfl
                refine hK.out _ _ ⟨((cell_far (p := ⟨gb361, _, none⟩) (by first | exact Kd.own_blk (Kd.R_ne HO_5.out BK361.out (by decide)) | (rw [add_block]; exact Kd.own_blk (Kd.R_ne HO_5.out BK361.out (by decide))) | (show (Addr.add _ _).block ≠ _; rw [add_block]; exact Kd.own_blk (Kd.R_ne HO_5.out BK361.out (by decide))) | (dsimp only; exact Kd.own_blk (Kd.R_ne HO_5.out BK361.out (by decide)))) _).trans (((cell_far (p := ⟨gb361, _, none⟩) (by first | exact Kd.own_blk (Kd.R_ne HO_5.out BK361.out (by decide)) | (rw [add_block]; exact Kd.own_blk (Kd.R_ne HO_5.out BK361.out (by decide))) | (show (Addr.add _ _).block ≠ _; rw [add_block]; exact Kd.own_blk (Kd.R_ne HO_5.out BK361.out (by decide))) | (dsimp only; exact Kd.own_blk (Kd.R_ne HO_5.out BK361.out (by decide)))) _).trans (hHeld.1)))), ((cell_far (p := ⟨gb361, _, none⟩) (by first | exact Kd.own_blk (Kd.R_ne HO_5.out BK361.out (by decide)) | (rw [add_block]; exact Kd.own_blk (Kd.R_ne HO_5.out BK361.out (by decide))) | (show (Addr.add _ _).block ≠ _; rw [add_block]; exact Kd.own_blk (Kd.R_ne HO_5.out BK361.out (by decide))) | (dsimp only; exact Kd.own_blk (Kd.R_ne HO_5.out BK361.out (by decide)))) _).trans (((cell_far (p := ⟨gb361, _, none⟩) (by first | exact Kd.own_blk (Kd.R_ne HO_5.out BK361.out (by decide)) | (rw [add_block]; exact Kd.own_blk (Kd.R_ne HO_5.out BK361.out (by decide))) | (show (Addr.add _ _).block ≠ _; rw [add_block]; exact Kd.own_blk (Kd.R_ne HO_5.out BK361.out (by decide))) | (dsimp only; exact Kd.own_blk (Kd.R_ne HO_5.out BK361.out (by decide)))) _).trans (hHeld.2))))⟩ (fun hHeld => ?_)
                clear hK K
                refine done_ (done_of HT_.out (by kernel_rfl)) ?_
                have p362 : 0 ≤ (1 : Int) := (by omega)
                have q362 : 1 < (t352.length : Int) := of_decide_eq_true (by first | (with_reducible assumption) | assumption)
                obtain ⟨ad362, e362, hx362_0⟩ := Kd.at_string (Kd.R_reads' HO_5.out).2.2 1 p362 q362
                obtain rfl : ad358 = ad362 := (by injection e362)
                (try simp only [show (1 : Int).toNat = 1 from rfl, Nat.reduceMul, Nat.reduceEqDiff, Go.Addr.add, ↓reduceIte] at hx362_0)
                have qi362 : (1 < t352.length) = True := eq_true (by omega)
                (try rw [show ((1 : Int)).toNat = 1 from rfl] at hx362_0)
                have hn362_0 : ad358.block ≠ gb361 := Kd.own_blk (Kd.R_ne HO_5.out BK361.out (by decide))
                have hn362_1 : ad358.block ≠ gb361 := Kd.own_blk (Kd.R_ne HO_5.out BK361.out (by decide))
                replace hx362_0 := (cell_far (p := ⟨gb361, 0, none⟩) (by first | (rw [add_block]; exact hn362_0) | (show (Addr.add _ _).block ≠ _; rw [add_block]; exact hn362_0) | exact hn362_0) (.string ((rdOf ByteArray.empty t352 0).extract 0 (x6_11 : Int).toNat))).trans hx362_0
                replace hx362_0 := (cell_far (p := ⟨gb361, 1, none⟩) (by first | (rw [add_block]; exact hn362_1) | (show (Addr.add _ _).block ≠ _; rw [add_block]; exact hn362_1) | exact hn362_1) (.string ((rdOf ByteArray.empty t352 0).extract ((ji27) : Int).toNat (rdOf ByteArray.empty t352 0).size))).trans hx362_0
                clear hn362_0
                clear hn362_1
                replace p362 := eq_true p362
                replace q362 := eq_true q362
                try go_wp2_with (first | ((with_reducible refine gate_callee (f := 53) rfl ?_); refine goesL_ (some 65) rfl rfl Tryd.func53 (by kernel_rfl) rfl #[.string ((rdOf ByteArray.empty t352 1).extract 8 (rdOf ByteArray.empty t352 1).size), .int .i64 999999999] rfl (by (try simp only [List.map_toArray, List.map_cons, List.map_nil]); first | done | rfl | (simp only [List.length_drop, List.length_take]; rfl)) ?_; (with_reducible refine (wicketmanref01_Decimal.calls kj11 ((rdOf ByteArray.empty t352 1).extract 8 (rdOf ByteArray.empty t352 1).size) 999999999 t363 t364 _ A32.out).mono ?_); rintro e w' ⟨rfl, ⟨nd, rfl⟩⟩; refine ⟨_, rfl, ?_⟩; have hnb41 := NB361_351.out; have hnc41 := NB351_361.out; have hcz42_0 : w38.cell? ⟨gb361, 0, none⟩ = some (.string (⟨#[]⟩ : ByteArray)) := (blk_cell BK361.out 0).trans rfl; have hcz42_1 : w38.cell? ⟨gb361, 1, none⟩ = some (.string (⟨#[]⟩ : ByteArray)) := (blk_cell BK361.out 1).trans rfl; have hfz42_0 := blk_frozen BK361.out 0; have hfz42_1 := blk_frozen BK361.out 1) | ((with_reducible refine gate_callee (f := 23) rfl ?_); refine goesL_ (some 71) rfl rfl Tryd.func23 (by kernel_rfl) rfl #[.agg #[.string ((rdOf ByteArray.empty t352 0).extract 0 (x6_11 : Int).toNat), .string ((rdOf ByteArray.empty t352 0).extract ((ji27) : Int).toNat (rdOf ByteArray.empty t352 0).size)], .int .i64 t363] rfl (by (try simp only [List.map_toArray, List.map_cons, List.map_nil]); first | done | (simp only [hji27]; rfl) | rfl | (simp only [List.length_drop, List.length_take]; rfl)) ?_; (with_reducible refine (wicketmanref11_Set.calls kj11 ((rdOf ByteArray.empty t352 0).extract 0 (x6_11 : Int).toNat) ((rdOf ByteArray.empty t352 0).extract ((ji27) : Int).toNat (rdOf ByteArray.empty t352 0).size) t363 t365 t366 _ (by first | exact hS | (refine Sh.of_below hS ?_; repeat (first | (with_reducible first | apply bA | apply bN | apply bD) | exact HB.out | refine Below.setCell ?_ (Aside0.out (by assumption)) _)) | (refine Sh.of_below hS ?_; assumption)) A33.out).mono ?_); rintro e w43 ⟨rfl, hb⟩; refine ⟨_, rfl, ?_⟩; have n0_ := Aside0.mk (Kd.R_below (by (with_reducible repeat (first | apply Kd.R_alloc | apply Kd.R_drewN | apply Kd.R_drew)); exact (Kd.R_mono (Kd.R_far (p := ⟨gb361, 1, none⟩) (Kd.R_far (p := ⟨gb361, 0, none⟩) (Kd.R_types HO_5.out BK361.out (by decide)) (fun _ hk => hk.2) (.string ((rdOf ByteArray.empty t352 0).extract 0 (x6_11 : Int).toNat))) (fun _ hk => hk.2) (.string ((rdOf ByteArray.empty t352 0).extract ((ji27) : Int).toNat (rdOf ByteArray.empty t352 0).size))) (fun _ h_ => h_.1))) hb); have n1_ := Aside0.mk (blk_below (g := gb351) (o := .cells #[.string (⟨#[]⟩ : ByteArray), .string (⟨#[]⟩ : ByteArray)] 38 (0, 0)) (by (with_reducible repeat (first | refine blk_drewN ?_ _ | refine blk_drew ?_ | refine blk_alloc ?_ _)); refine blk_far ?_ NB351_361.out _; (with_reducible repeat (first | refine blk_drewN ?_ _ | refine blk_drew ?_ | refine blk_alloc ?_ _)); refine blk_far ?_ NB351_361.out _; (with_reducible repeat (first | refine blk_drewN ?_ _ | refine blk_drew ?_ | refine blk_alloc ?_ _)); exact BK351.out) hb); have n2_ := Aside0.mk (blk_below (g := gb361) (o := .cells #[.string ((rdOf ByteArray.empty t352 0).extract 0 (x6_11 : Int).toNat), .string ((rdOf ByteArray.empty t352 0).extract ((ji27) : Int).toNat (rdOf ByteArray.empty t352 0).size)] 38 (0, 0)) (by (with_reducible repeat (first | refine blk_drewN ?_ _ | refine blk_drew ?_ | refine blk_alloc ?_ _)); refine blk_put (cs := #[.string ((rdOf ByteArray.empty t352 0).extract 0 (x6_11 : Int).toNat), .string (⟨#[]⟩ : ByteArray)]) ?_ 1 _ rfl; (with_reducible repeat (first | refine blk_drewN ?_ _ | refine blk_drew ?_ | refine blk_alloc ?_ _)); refine blk_put (cs := #[.string (⟨#[]⟩ : ByteArray), .string (⟨#[]⟩ : ByteArray)]) ?_ 0 _ rfl; (with_reducible repeat (first | refine blk_drewN ?_ _ | refine blk_drew ?_ | refine blk_alloc ?_ _)); exact BK361.out) hb); have n3_ := Aside0.mk (below_step (by repeat (first | (with_reducible first | apply bA | apply bN | apply bD | refine below_set ?_ GE351.out | refine below_set ?_ GE361.out) | exact HB.out)) hb); clear HO_5; clear BK351; clear BK361; clear HB; have HO_5 := n0_; have BK351 := n1_; have BK361 := n2_; have HB := n3_; clear n0_ n1_ n2_ n3_; (try clear hb); (try clear hb2); (try clear hk); (try clear hi); have hcz44_0 : w43.cell? ⟨gb361, 0, none⟩ = some (.string ((rdOf ByteArray.empty t352 0).extract 0 (x6_11 : Int).toNat)) := (blk_cell BK361.out 0).trans rfl; have hcz44_1 : w43.cell? ⟨gb361, 1, none⟩ = some (.string ((rdOf ByteArray.empty t352 0).extract ((ji27) : Int).toNat (rdOf ByteArray.empty t352 0).size)) := (blk_cell BK361.out 1).trans rfl; have hfz44_0 := blk_frozen BK361.out 0; have hfz44_1 := blk_frozen BK361.out 1; have hcz45_0 : w43.cell? ⟨gb351, 0, none⟩ = some (.string (⟨#[]⟩ : ByteArray)) := (blk_cell BK351.out 0).trans rfl; have hcz45_1 : w43.cell? ⟨gb351, 1, none⟩ = some (.string (⟨#[]⟩ : ByteArray)) := (blk_cell BK351.out 1).trans rfl; have hfz45_0 := blk_frozen BK351.out 0; have hfz45_1 := blk_frozen BK351.out 1))
                refine bodyPost_ret (results_ctt rfl _ _ gb351 38 #[.string ((rdOf ByteArray.empty t352 0).extract 0 (x6_11 : Int).toNat), .string ((rdOf ByteArray.empty t352 0).extract ((ji27) : Int).toNat (rdOf ByteArray.empty t352 0).size)] (0, 0) _ rfl (by (with_reducible repeat (first | refine blk_drewN ?_ _ | refine blk_drew ?_ | refine blk_alloc ?_ _)); refine blk_put (cs := #[.string ((rdOf ByteArray.empty t352 0).extract 0 (x6_11 : Int).toNat), .string (⟨#[]⟩ : ByteArray)]) ?_ 1 _ rfl; (with_reducible repeat (first | refine blk_drewN ?_ _ | refine blk_drew ?_ | refine blk_alloc ?_ _)); refine blk_put (cs := #[.string (⟨#[]⟩ : ByteArray), .string (⟨#[]⟩ : ByteArray)]) ?_ 0 _ rfl; (with_reducible repeat (first | refine blk_drewN ?_ _ | refine blk_drew ?_ | refine blk_alloc ?_ _)); exact BK351.out) Tryd.underlying38 rfl (by kernel_rfl)) rfl ?_
                exact ⟨by first | rfl | (simp [errW_none, errW_some] <;> rfl) | (simp only [← hji27]; first | rfl | (simp [errW_none, errW_some] <;> rfl)) | (simp [*, errW_none, errW_some] <;> rfl), by repeat (first | (with_reducible first | apply bA | apply bN | apply bD | refine below_set ?_ GE351.out | refine below_set ?_ GE361.out) | exact HB.out)⟩
               ·rw [if_neg c35] at H
                have c35b0 : (t365.toList == a0.toList) = false := beq_eq_false_iff_ne.mpr c35
                have c35b1 : (t365.toList != a0.toList) = true := bne_iff_ne.mpr c35
                simp only [Option.some.injEq, Prod.mk.injEq] at H
                obtain ⟨rfl, rfl, rfl, rfl⟩ := H
                obtain ⟨Ao46, co46, eo46⟩ := Kd.R_slice HO_5.out
                subst eo46
                have p358 : 0 ≤ (0 : Int) := (by omega)
                have q358 : 0 < (t352.length : Int) := of_decide_eq_true (by first | (with_reducible assumption) | assumption)
                obtain ⟨ad358, e358, hx358_0⟩ := Kd.at_string (Kd.R_reads' HO_5.out).2.2 0 p358 q358
                cases e358
                have qi358 : (0 < t352.length) = True := eq_true (by omega)
                (try rw [show ((0 : Int)).toNat = 0 from rfl] at hx358_0)
                (try rw [Addr.add_zero'] at hx358_0)
                replace p358 := eq_true p358
                replace q358 := eq_true q358
                try go_wp2
                have n0_ := Aside0.mk (Kd.R_drew HO_5.out)
                have n1_ := Aside0.mk (blk_drew BK351.out)
                have n2_ := Aside0.mk (below_drew1 HB.out)
                clear HO_5
                clear BK351
                clear HB
                have HO_5 := n0_
                have BK351 := n1_
                have HB := n2_
                clear n0_ n1_ n2_
                have p359 : 0 ≤ (0 : Int) := (by omega)
                have q359 : 0 < (t352.length : Int) := of_decide_eq_true (by first | (with_reducible assumption) | assumption)
                obtain ⟨ad359, e359, hx359_0⟩ := Kd.at_string (Kd.R_reads' HO_5.out).2.2 0 p359 q359
                obtain rfl : ad358 = ad359 := (by injection e359)
                have qi359 : (0 < t352.length) = True := eq_true (by omega)
                (try rw [show ((0 : Int)).toNat = 0 from rfl] at hx359_0)
                (try rw [Addr.add_zero'] at hx359_0)
                replace p359 := eq_true p359
                replace q359 := eq_true q359
                have p360 : 0 ≤ (0 : Int) := (by omega)
                have q360 : 0 < (t352.length : Int) := of_decide_eq_true (by first | (with_reducible assumption) | assumption)
                obtain ⟨ad360, e360, hx360_0⟩ := Kd.at_string (Kd.R_reads' HO_5.out).2.2 0 p360 q360
                obtain rfl : ad358 = ad360 := (by injection e360)
                have qi360 : (0 < t352.length) = True := eq_true (by omega)
                (try rw [show ((0 : Int)).toNat = 0 from rfl] at hx360_0)
                (try rw [Addr.add_zero'] at hx360_0)
                replace p360 := eq_true p360
                replace q360 := eq_true q360
                refine start_ (n := 14) (S := fun w' => w'.cell? ad358 = some (.string (rdOf ByteArray.empty t352 0)) ∧ w'.cell? ad358 = some (.string (rdOf ByteArray.empty t352 0))) (ds := []) #[false, false, false, false, false, false, false, false, false, false, false, false, false, false] (by kernel_rfl) rfl rfl ⟨hx359_0, hx360_0⟩ (fun hHeld => ?_); refine with_tabW wicketmanref11_Read.tab9 wicketmanref11_Read.bits9 (fun HT_ HW_ => ?_)
                generalize wc.drew = w47 at HO_5 BK351 HB hx359_0 hx360_0 hHeld ⊢
                refine pure_ (i := 0) (N := some 48) (v := ?_) (a' := ?_) #[true, false, false, false, false, false, false, false, false, false, false, false, false, false] rfl rfl (any_of HT_.out (by kernel_rfl)) (fun _ _ _ h => h) (Or.inl ⟨by rfl, ?_⟩) ?_ ?_
                rotate_left
                ·intro w'
                 go_simp
                 with_reducible rfl
                rotate_left
                ·simp only [Act.put, List.setIfInBounds_toArray, List.set_cons_zero, List.set_cons_succ, i64_w, i32_w]
                 rfl
                refine pure_ (i := 1) (N := some 49) (v := ?_) (a' := ?_) #[true, true, false, false, false, false, false, false, false, false, false, false, false, false] rfl rfl (any_of HT_.out (by kernel_rfl)) (fun _ _ _ h => h) (Or.inl ⟨by rfl, ?_⟩) ?_ ?_
                rotate_left
                ·intro w'
                 go_simp
                 with_reducible rfl
                rotate_left
                ·simp only [Act.put, List.setIfInBounds_toArray, List.set_cons_zero, List.set_cons_succ, i64_w, i32_w]
                 rfl
                refine pure_ (i := 3) (N := some 51) (v := ?_) (a' := ?_) #[true, true, false, true, false, false, false, false, false, false, false, false, false, false] rfl rfl (any_of HT_.out (by kernel_rfl)) (fun _ _ _ h => h) (Or.inl ⟨by rfl, ?_⟩) ?_ ?_
                rotate_left
                ·intro w'
                 go_simp
                 with_reducible rfl
                rotate_left
                ·simp only [Act.put, List.setIfInBounds_toArray, List.set_cons_zero, List.set_cons_succ, i64_w, i32_w]
                 rfl
                refine pure_ (i := 5) (N := some 53) (v := ?_) (a' := ?_) #[true, true, false, true, false, true, false, false, false, false, false, false, false, false] rfl rfl (any_of HT_.out (by kernel_rfl)) (fun _ _ _ h => h) (Or.inl ⟨by rfl, ?_⟩) ?_ ?_
                rotate_left
                ·intro w'
                 go_simp
                 with_reducible rfl
                rotate_left
                ·simp only [Act.put, List.setIfInBounds_toArray, List.set_cons_zero, List.set_cons_succ, i64_w, i32_w]
                 rfl
                refine pure_ (i := 6) (N := some 54) (v := ?_) (a' := ?_) #[true, true, false, true, false, true, true, false, false, false, false, false, false, false] rfl rfl (any_of HT_.out (by kernel_rfl)) (fun _ _ _ h => h) (Or.inl ⟨by rfl, ?_⟩) ?_ ?_
                rotate_left
                ·intro w'
                 go_simp
                 with_reducible rfl
                rotate_left
                ·simp only [Act.put, List.setIfInBounds_toArray, List.set_cons_zero, List.set_cons_succ, i64_w, i32_w]
                 rfl
                refine pure_ (i := 8) (N := some 56) (v := ?_) (a' := ?_) #[true, true, false, true, false, true, true, false, true, false, false, false, false, false] rfl rfl (any_of HT_.out (by kernel_rfl)) (fun _ _ _ h => h) (Or.inl ⟨by rfl, ?_⟩) ?_ ?_
                rotate_left
                ·intro w'
                 go_simp
                 with_reducible rfl
                rotate_left
                ·simp only [Act.put, List.setIfInBounds_toArray, List.set_cons_zero, List.set_cons_succ, i64_w, i32_w]
                 rfl
                refine pure_ (i := 9) (N := some 57) (v := ?_) (a' := ?_) #[true, true, false, true, false, true, true, false, true, true, false, false, false, false] rfl rfl (any_of HT_.out (by kernel_rfl)) (fun _ _ _ h => h) (Or.inl ⟨by rfl, ?_⟩) ?_ ?_
                rotate_left
                ·intro w'
                 go_simp
                 with_reducible rfl
                rotate_left
                ·simp only [Act.put, List.setIfInBounds_toArray, List.set_cons_zero, List.set_cons_succ, i64_w, i32_w]
                 rfl
                refine take_ (i := 2) (N := some 50) (v := ?_) (a' := ?_) #[true, true, true, true, false, true, true, false, true, true, false, false, false, false] rfl rfl (take_ofW HT_.out HW_.out (by kernel_rfl)) (fun _ _ _ h => h) (Or.inl ⟨by rfl, ?_⟩) hHeld ?_ ?_
                rotate_left
                ·rintro w' ⟨s0, s1⟩
                 go_simp
                 with_reducible rfl
                rotate_left
                ·simp only [Act.put, List.setIfInBounds_toArray, List.set_cons_zero, List.set_cons_succ, i64_w, i32_w]
                 rfl
                refine pure_ (i := 4) (N := some 52) (v := ?_) (a' := ?_) #[true, true, true, true, true, true, true, false, true, true, false, false, false, false] rfl rfl (any_of HT_.out (by kernel_rfl)) (fun _ _ _ h => h) (Or.inl ⟨by rfl, ?_⟩) ?_ ?_
                rotate_left
                ·intro w'
                 go_simp
                 with_reducible rfl
                rotate_left
                ·simp only [Act.put, List.setIfInBounds_toArray, List.set_cons_zero, List.set_cons_succ, i64_w, i32_w]
                 rfl
                refine take_ (i := 7) (N := some 55) (v := ?_) (a' := ?_) #[true, true, true, true, true, true, true, true, true, true, false, false, false, false] rfl rfl (take_ofW HT_.out HW_.out (by kernel_rfl)) (fun _ _ _ h => h) (Or.inl ⟨by rfl, ?_⟩) hHeld ?_ ?_
                rotate_left
                ·rintro w' ⟨s0, s1⟩
                 go_simp
                 with_reducible rfl
                rotate_left
                ·simp only [Act.put, List.setIfInBounds_toArray, List.set_cons_zero, List.set_cons_succ, i64_w, i32_w]
                 rfl
                refine pure_ (i := 10) (N := some 58) (v := ?_) (a' := ?_) #[true, true, true, true, true, true, true, true, true, true, true, false, false, false] rfl rfl (any_of HT_.out (by kernel_rfl)) (fun _ _ _ h => h) (Or.inl ⟨by rfl, ?_⟩) ?_ ?_
                rotate_left
                ·intro w'
                 go_simp
                 with_reducible rfl
                rotate_left
                ·simp only [Act.put, List.setIfInBounds_toArray, List.set_cons_zero, List.set_cons_succ, i64_w, i32_w]
                 rfl
                refine pure_ (i := 11) (N := some 59) (v := ?_) (a' := ?_) #[true, true, true, true, true, true, true, true, true, true, true, true, false, false] rfl rfl (any_of HT_.out (by kernel_rfl)) (fun _ _ _ h => h) (Or.inl ⟨by rfl, ?_⟩) ?_ ?_
                rotate_left
                ·intro w'
                 go_simp
                 with_reducible rfl
                rotate_left
                ·simp only [Act.put, List.setIfInBounds_toArray, List.set_cons_zero, List.set_cons_succ, i64_w, i32_w]
                 rfl
                refine one_ (i := 12) (N := some 7) #[true, true, true, true, true, true, true, true, true, true, true, true, true, false] rfl rfl (one_of HT_.out (by kernel_rfl)) (by decide) (fun K hK => ?_)
                refine box_step ?hg (N := 7) ?hd (cs := #[.string (⟨#[]⟩ : ByteArray), .string (⟨#[]⟩ : ByteArray)]) (t := 38) ?hr ?_; (case hd => rfl); (case hg => rfl); (case hr => first | (go_simp; done) | (go_simp; rfl))
                intro gb361 hg w48 hbox hb
                have HS0_ := (hb.cell (World.block_lt_of_cell? _ _ (hHeld.1))).trans (hHeld.1)
                have HS1_ := (hb.cell (World.block_lt_of_cell? _ _ (hHeld.2))).trans (hHeld.2)
                have n0_ := Aside0.mk (Kd.R_below (by (with_reducible repeat (first | apply Kd.R_alloc | apply Kd.R_drewN | apply Kd.R_drew)); exact HO_5.out) hb)
                have n1_ := Aside0.mk (blk_below (g := gb351) (o := .cells #[.string (⟨#[]⟩ : ByteArray), .string (⟨#[]⟩ : ByteArray)] 38 (0, 0)) (by (with_reducible repeat (first | refine blk_drewN ?_ _ | refine blk_drew ?_ | refine blk_alloc ?_ _)); exact BK351.out) hb)
                have n2_ := Aside0.mk (below_step (by repeat (first | (with_reducible first | apply bA | apply bN | apply bD | refine below_set ?_ GE351.out) | exact HB.out)) hb)
                have n3_ := Aside0.mk (hbox)
                have n4_ := Aside0.mk ((by rw [hg]; exact (below_size (by repeat (first | (with_reducible first | apply bA | apply bN | apply bD | refine below_set ?_ GE351.out) | exact HB.out))) : w.heap.size ≤ gb361))
                have n5_ := Aside0.mk ((by rw [hg]; exact (below_size (by repeat (first | (with_reducible first | apply bA | apply bN | apply bD | refine below_set ?_ GE351.out) | exact HB.out))) : w.heap.size ≤ gb361))
                have n6_ := Aside0.mk ((by rw [hg]; exact Nat.ne_of_lt (blk_lt (g := gb351) (o := .cells #[.string (⟨#[]⟩ : ByteArray), .string (⟨#[]⟩ : ByteArray)] 38 (0, 0)) (by (with_reducible repeat (first | refine blk_drewN ?_ _ | refine blk_drew ?_ | refine blk_alloc ?_ _)); exact BK351.out)) : gb351 ≠ gb361))
                have n7_ := Aside0.mk ((by rw [hg]; exact Nat.ne_of_gt (blk_lt (g := gb351) (o := .cells #[.string (⟨#[]⟩ : ByteArray), .string (⟨#[]⟩ : ByteArray)] 38 (0, 0)) (by (with_reducible repeat (first | refine blk_drewN ?_ _ | refine blk_drew ?_ | refine blk_alloc ?_ _)); exact BK351.out)) : gb361 ≠ gb351))
                clear HO_5
                clear BK351
                clear HB
                have HO_5 := n0_
                have BK351 := n1_
                have HB := n2_
                have BK361 := n3_
                have GW361 := n4_
                have GE361 := n5_
                have NB351_361 := n6_
                have NB361_351 := n7_
                clear n0_ n1_ n2_ n3_ n4_ n5_ n6_ n7_
                clear hb hbox hg
                refine hK.out _ _ ⟨HS0_, HS1_⟩ (fun hHeld => ?_)
                clear hK K
                refine norm_ (a' := ?_) ?_ ?_
                rotate_left
                ·show Act.put _ (some 7) _ = _
                 simp only [Act.put, List.setIfInBounds_toArray, List.set_cons_zero, List.set_cons_succ, i64_w, i32_w]
                 rfl
                refine one_ (i := 13) (N := none) #[true, true, true, true, true, true, true, true, true, true, true, true, true, true] rfl rfl (one_of HT_.out (by kernel_rfl)) (by decide) (fun K hK => ?_)
                have hs49 : w48.cell? ⟨gb361, 0, none⟩ = some (.string (⟨#[]⟩ : ByteArray)) := (blk_cell BK361.out 0).trans rfl
                have hfs49 := blk_frozen BK361.out 0
                have hns49_0 := NB351_361.out
                have hms49_0 := NB361_351.out
                have hs50 : w48.cell? ⟨gb361, 1, none⟩ = some (.string (⟨#[]⟩ : ByteArray)) := (blk_cell BK361.out 1).trans rfl
                have hfs50 := blk_frozen BK361.out 1
                have hns50_0 := NB351_361.out
                have hms50_0 := NB361_351.out
                refine skip_ (w1 := ?_) (by rfl) rfl ?_ ?_
                rotate_left
                ·go_simp
                 rfl
                refine hK.out _ _ ⟨((cell_far (p := ⟨gb361, _, none⟩) (by first | exact Kd.own_blk (Kd.R_ne HO_5.out BK361.out (by decide)) | (rw [add_block]; exact Kd.own_blk (Kd.R_ne HO_5.out BK361.out (by decide))) | (show (Addr.add _ _).block ≠ _; rw [add_block]; exact Kd.own_blk (Kd.R_ne HO_5.out BK361.out (by decide))) | (dsimp only; exact Kd.own_blk (Kd.R_ne HO_5.out BK361.out (by decide)))) _).trans (((cell_far (p := ⟨gb361, _, none⟩) (by first | exact Kd.own_blk (Kd.R_ne HO_5.out BK361.out (by decide)) | (rw [add_block]; exact Kd.own_blk (Kd.R_ne HO_5.out BK361.out (by decide))) | (show (Addr.add _ _).block ≠ _; rw [add_block]; exact Kd.own_blk (Kd.R_ne HO_5.out BK361.out (by decide))) | (dsimp only; exact Kd.own_blk (Kd.R_ne HO_5.out BK361.out (by decide)))) _).trans (hHeld.1)))), ((cell_far (p := ⟨gb361, _, none⟩) (by first | exact Kd.own_blk (Kd.R_ne HO_5.out BK361.out (by decide)) | (rw [add_block]; exact Kd.own_blk (Kd.R_ne HO_5.out BK361.out (by decide))) | (show (Addr.add _ _).block ≠ _; rw [add_block]; exact Kd.own_blk (Kd.R_ne HO_5.out BK361.out (by decide))) | (dsimp only; exact Kd.own_blk (Kd.R_ne HO_5.out BK361.out (by decide)))) _).trans (((cell_far (p := ⟨gb361, _, none⟩) (by first | exact Kd.own_blk (Kd.R_ne HO_5.out BK361.out (by decide)) | (rw [add_block]; exact Kd.own_blk (Kd.R_ne HO_5.out BK361.out (by decide))) | (show (Addr.add _ _).block ≠ _; rw [add_block]; exact Kd.own_blk (Kd.R_ne HO_5.out BK361.out (by decide))) | (dsimp only; exact Kd.own_blk (Kd.R_ne HO_5.out BK361.out (by decide)))) _).trans (hHeld.2))))⟩ (fun hHeld => ?_)
                clear hK K
                refine done_ (done_of HT_.out (by kernel_rfl)) ?_
                have p362 : 0 ≤ (1 : Int) := (by omega)
                have q362 : 1 < (t352.length : Int) := of_decide_eq_true (by first | (with_reducible assumption) | assumption)
                obtain ⟨ad362, e362, hx362_0⟩ := Kd.at_string (Kd.R_reads' HO_5.out).2.2 1 p362 q362
                obtain rfl : ad358 = ad362 := (by injection e362)
                (try simp only [show (1 : Int).toNat = 1 from rfl, Nat.reduceMul, Nat.reduceEqDiff, Go.Addr.add, ↓reduceIte] at hx362_0)
                have qi362 : (1 < t352.length) = True := eq_true (by omega)
                (try rw [show ((1 : Int)).toNat = 1 from rfl] at hx362_0)
                have hn362_0 : ad358.block ≠ gb361 := Kd.own_blk (Kd.R_ne HO_5.out BK361.out (by decide))
                have hn362_1 : ad358.block ≠ gb361 := Kd.own_blk (Kd.R_ne HO_5.out BK361.out (by decide))
                replace hx362_0 := (cell_far (p := ⟨gb361, 0, none⟩) (by first | (rw [add_block]; exact hn362_0) | (show (Addr.add _ _).block ≠ _; rw [add_block]; exact hn362_0) | exact hn362_0) (.string ((rdOf ByteArray.empty t352 0).extract 0 (x6_11 : Int).toNat))).trans hx362_0
                replace hx362_0 := (cell_far (p := ⟨gb361, 1, none⟩) (by first | (rw [add_block]; exact hn362_1) | (show (Addr.add _ _).block ≠ _; rw [add_block]; exact hn362_1) | exact hn362_1) (.string ((rdOf ByteArray.empty t352 0).extract ((ji27) : Int).toNat (rdOf ByteArray.empty t352 0).size))).trans hx362_0
                clear hn362_0
                clear hn362_1
                replace p362 := eq_true p362
                replace q362 := eq_true q362
                try go_wp2_with (first | ((with_reducible refine gate_callee (f := 53) rfl ?_); refine goesL_ (some 65) rfl rfl Tryd.func53 (by kernel_rfl) rfl #[.string ((rdOf ByteArray.empty t352 1).extract 8 (rdOf ByteArray.empty t352 1).size), .int .i64 999999999] rfl (by (try simp only [List.map_toArray, List.map_cons, List.map_nil]); first | done | rfl | (simp only [List.length_drop, List.length_take]; rfl)) ?_; (with_reducible refine (wicketmanref01_Decimal.calls kj11 ((rdOf ByteArray.empty t352 1).extract 8 (rdOf ByteArray.empty t352 1).size) 999999999 t363 t364 _ A32.out).mono ?_); rintro e w' ⟨rfl, ⟨nd, rfl⟩⟩; refine ⟨_, rfl, ?_⟩; have hnb51 := NB361_351.out; have hnc51 := NB351_361.out; have hcz52_0 : w48.cell? ⟨gb361, 0, none⟩ = some (.string (⟨#[]⟩ : ByteArray)) := (blk_cell BK361.out 0).trans rfl; have hcz52_1 : w48.cell? ⟨gb361, 1, none⟩ = some (.string (⟨#[]⟩ : ByteArray)) := (blk_cell BK361.out 1).trans rfl; have hfz52_0 := blk_frozen BK361.out 0; have hfz52_1 := blk_frozen BK361.out 1) | ((with_reducible refine gate_callee (f := 23) rfl ?_); refine goesL_ (some 71) rfl rfl Tryd.func23 (by kernel_rfl) rfl #[.agg #[.string ((rdOf ByteArray.empty t352 0).extract 0 (x6_11 : Int).toNat), .string ((rdOf ByteArray.empty t352 0).extract ((ji27) : Int).toNat (rdOf ByteArray.empty t352 0).size)], .int .i64 t363] rfl (by (try simp only [List.map_toArray, List.map_cons, List.map_nil]); first | done | (simp only [hji27]; rfl) | rfl | (simp only [List.length_drop, List.length_take]; rfl)) ?_; (with_reducible refine (wicketmanref11_Set.calls kj11 ((rdOf ByteArray.empty t352 0).extract 0 (x6_11 : Int).toNat) ((rdOf ByteArray.empty t352 0).extract ((ji27) : Int).toNat (rdOf ByteArray.empty t352 0).size) t363 t365 t366 _ (by first | exact hS | (refine Sh.of_below hS ?_; repeat (first | (with_reducible first | apply bA | apply bN | apply bD) | exact HB.out | refine Below.setCell ?_ (Aside0.out (by assumption)) _)) | (refine Sh.of_below hS ?_; assumption)) A33.out).mono ?_); rintro e w53 ⟨rfl, hb⟩; refine ⟨_, rfl, ?_⟩; have n0_ := Aside0.mk (Kd.R_below (by (with_reducible repeat (first | apply Kd.R_alloc | apply Kd.R_drewN | apply Kd.R_drew)); exact (Kd.R_mono (Kd.R_far (p := ⟨gb361, 1, none⟩) (Kd.R_far (p := ⟨gb361, 0, none⟩) (Kd.R_types HO_5.out BK361.out (by decide)) (fun _ hk => hk.2) (.string ((rdOf ByteArray.empty t352 0).extract 0 (x6_11 : Int).toNat))) (fun _ hk => hk.2) (.string ((rdOf ByteArray.empty t352 0).extract ((ji27) : Int).toNat (rdOf ByteArray.empty t352 0).size))) (fun _ h_ => h_.1))) hb); have n1_ := Aside0.mk (blk_below (g := gb351) (o := .cells #[.string (⟨#[]⟩ : ByteArray), .string (⟨#[]⟩ : ByteArray)] 38 (0, 0)) (by (with_reducible repeat (first | refine blk_drewN ?_ _ | refine blk_drew ?_ | refine blk_alloc ?_ _)); refine blk_far ?_ NB351_361.out _; (with_reducible repeat (first | refine blk_drewN ?_ _ | refine blk_drew ?_ | refine blk_alloc ?_ _)); refine blk_far ?_ NB351_361.out _; (with_reducible repeat (first | refine blk_drewN ?_ _ | refine blk_drew ?_ | refine blk_alloc ?_ _)); exact BK351.out) hb); have n2_ := Aside0.mk (blk_below (g := gb361) (o := .cells #[.string ((rdOf ByteArray.empty t352 0).extract 0 (x6_11 : Int).toNat), .string ((rdOf ByteArray.empty t352 0).extract ((ji27) : Int).toNat (rdOf ByteArray.empty t352 0).size)] 38 (0, 0)) (by (with_reducible repeat (first | refine blk_drewN ?_ _ | refine blk_drew ?_ | refine blk_alloc ?_ _)); refine blk_put (cs := #[.string ((rdOf ByteArray.empty t352 0).extract 0 (x6_11 : Int).toNat), .string (⟨#[]⟩ : ByteArray)]) ?_ 1 _ rfl; (with_reducible repeat (first | refine blk_drewN ?_ _ | refine blk_drew ?_ | refine blk_alloc ?_ _)); refine blk_put (cs := #[.string (⟨#[]⟩ : ByteArray), .string (⟨#[]⟩ : ByteArray)]) ?_ 0 _ rfl; (with_reducible repeat (first | refine blk_drewN ?_ _ | refine blk_drew ?_ | refine blk_alloc ?_ _)); exact BK361.out) hb); have n3_ := Aside0.mk (below_step (by repeat (first | (with_reducible first | apply bA | apply bN | apply bD | refine below_set ?_ GE351.out | refine below_set ?_ GE361.out) | exact HB.out)) hb); clear HO_5; clear BK351; clear BK361; clear HB; have HO_5 := n0_; have BK351 := n1_; have BK361 := n2_; have HB := n3_; clear n0_ n1_ n2_ n3_; (try clear hb); (try clear hb2); (try clear hk); (try clear hi); have hcz54_0 : w53.cell? ⟨gb351, 0, none⟩ = some (.string (⟨#[]⟩ : ByteArray)) := (blk_cell BK351.out 0).trans rfl; have hcz54_1 : w53.cell? ⟨gb351, 1, none⟩ = some (.string (⟨#[]⟩ : ByteArray)) := (blk_cell BK351.out 1).trans rfl; have hfz54_0 := blk_frozen BK351.out 0; have hfz54_1 := blk_frozen BK351.out 1))
                refine bodyPost_ret (results_ctt rfl _ _ gb351 38 #[.string (⟨#[]⟩ : ByteArray), .string (⟨#[]⟩ : ByteArray)] (0, 0) _ rfl (by (with_reducible repeat (first | refine blk_drewN ?_ _ | refine blk_drew ?_ | refine blk_alloc ?_ _)); refine blk_put (cs := #[.string (⟨#[]⟩ : ByteArray), .string (⟨#[]⟩ : ByteArray)]) ?_ 1 _ rfl; (with_reducible repeat (first | refine blk_drewN ?_ _ | refine blk_drew ?_ | refine blk_alloc ?_ _)); refine blk_put (cs := #[.string (⟨#[]⟩ : ByteArray), .string (⟨#[]⟩ : ByteArray)]) ?_ 0 _ rfl; (with_reducible repeat (first | refine blk_drewN ?_ _ | refine blk_drew ?_ | refine blk_alloc ?_ _)); exact BK351.out) Tryd.underlying38 rfl (by kernel_rfl)) rfl ?_
                exact ⟨by first | rfl | (simp [errW_none, errW_some] <;> rfl) | (simp only [← hji27]; first | rfl | (simp [errW_none, errW_some] <;> rfl)) | (simp [*, errW_none, errW_some] <;> rfl), by repeat (first | (with_reducible first | apply bA | apply bN | apply bD | refine below_set ?_ GE351.out | refine below_set ?_ GE361.out) | exact HB.out)⟩
              ·rw [if_neg c34] at H
               have c34b0 : (t366 == 0) = false := beq_eq_false_iff_ne.mpr c34
               have c34b1 : (t366 != 0) = true := bne_iff_ne.mpr c34
               simp only [Option.some.injEq, Prod.mk.injEq] at H
               obtain ⟨rfl, rfl, rfl, rfl⟩ := H
               obtain ⟨Ao55, co55, eo55⟩ := Kd.R_slice HO_5.out
               subst eo55
               have p358 : 0 ≤ (0 : Int) := (by omega)
               have q358 : 0 < (t352.length : Int) := of_decide_eq_true (by first | (with_reducible assumption) | assumption)
               obtain ⟨ad358, e358, hx358_0⟩ := Kd.at_string (Kd.R_reads' HO_5.out).2.2 0 p358 q358
               cases e358
               have qi358 : (0 < t352.length) = True := eq_true (by omega)
               (try rw [show ((0 : Int)).toNat = 0 from rfl] at hx358_0)
               (try rw [Addr.add_zero'] at hx358_0)
               replace p358 := eq_true p358
               replace q358 := eq_true q358
               try go_wp2
               have n0_ := Aside0.mk (Kd.R_drew HO_5.out)
               have n1_ := Aside0.mk (blk_drew BK351.out)
               have n2_ := Aside0.mk (below_drew1 HB.out)
               clear HO_5
               clear BK351
               clear HB
               have HO_5 := n0_
               have BK351 := n1_
               have HB := n2_
               clear n0_ n1_ n2_
               have p359 : 0 ≤ (0 : Int) := (by omega)
               have q359 : 0 < (t352.length : Int) := of_decide_eq_true (by first | (with_reducible assumption) | assumption)
               obtain ⟨ad359, e359, hx359_0⟩ := Kd.at_string (Kd.R_reads' HO_5.out).2.2 0 p359 q359
               obtain rfl : ad358 = ad359 := (by injection e359)
               have qi359 : (0 < t352.length) = True := eq_true (by omega)
               (try rw [show ((0 : Int)).toNat = 0 from rfl] at hx359_0)
               (try rw [Addr.add_zero'] at hx359_0)
               replace p359 := eq_true p359
               replace q359 := eq_true q359
               have p360 : 0 ≤ (0 : Int) := (by omega)
               have q360 : 0 < (t352.length : Int) := of_decide_eq_true (by first | (with_reducible assumption) | assumption)
               obtain ⟨ad360, e360, hx360_0⟩ := Kd.at_string (Kd.R_reads' HO_5.out).2.2 0 p360 q360
               obtain rfl : ad358 = ad360 := (by injection e360)
               have qi360 : (0 < t352.length) = True := eq_true (by omega)
               (try rw [show ((0 : Int)).toNat = 0 from rfl] at hx360_0)
               (try rw [Addr.add_zero'] at hx360_0)
               replace p360 := eq_true p360
               replace q360 := eq_true q360
               refine start_ (n := 14) (S := fun w' => w'.cell? ad358 = some (.string (rdOf ByteArray.empty t352 0)) ∧ w'.cell? ad358 = some (.string (rdOf ByteArray.empty t352 0))) (ds := []) #[false, false, false, false, false, false, false, false, false, false, false, false, false, false] (by kernel_rfl) rfl rfl ⟨hx359_0, hx360_0⟩ (fun hHeld => ?_); refine with_tabW wicketmanref11_Read.tab9 wicketmanref11_Read.bits9 (fun HT_ HW_ => ?_)
               generalize wc.drew = w56 at HO_5 BK351 HB hx359_0 hx360_0 hHeld ⊢
               refine pure_ (i := 0) (N := some 48) (v := ?_) (a' := ?_) #[true, false, false, false, false, false, false, false, false, false, false, false, false, false] rfl rfl (any_of HT_.out (by kernel_rfl)) (fun _ _ _ h => h) (Or.inl ⟨by rfl, ?_⟩) ?_ ?_
               rotate_left
               ·intro w'
                go_simp
                with_reducible rfl
               rotate_left
               ·simp only [Act.put, List.setIfInBounds_toArray, List.set_cons_zero, List.set_cons_succ, i64_w, i32_w]
                rfl
               refine pure_ (i := 1) (N := some 49) (v := ?_) (a' := ?_) #[true, true, false, false, false, false, false, false, false, false, false, false, false, false] rfl rfl (any_of HT_.out (by kernel_rfl)) (fun _ _ _ h => h) (Or.inl ⟨by rfl, ?_⟩) ?_ ?_
               rotate_left
               ·intro w'
                go_simp
                with_reducible rfl
               rotate_left
               ·simp only [Act.put, List.setIfInBounds_toArray, List.set_cons_zero, List.set_cons_succ, i64_w, i32_w]
                rfl
               refine pure_ (i := 3) (N := some 51) (v := ?_) (a' := ?_) #[true, true, false, true, false, false, false, false, false, false, false, false, false, false] rfl rfl (any_of HT_.out (by kernel_rfl)) (fun _ _ _ h => h) (Or.inl ⟨by rfl, ?_⟩) ?_ ?_
               rotate_left
               ·intro w'
                go_simp
                with_reducible rfl
               rotate_left
               ·simp only [Act.put, List.setIfInBounds_toArray, List.set_cons_zero, List.set_cons_succ, i64_w, i32_w]
                rfl
               refine pure_ (i := 5) (N := some 53) (v := ?_) (a' := ?_) #[true, true, false, true, false, true, false, false, false, false, false, false, false, false] rfl rfl (any_of HT_.out (by kernel_rfl)) (fun _ _ _ h => h) (Or.inl ⟨by rfl, ?_⟩) ?_ ?_
               rotate_left
               ·intro w'
                go_simp
                with_reducible rfl
               rotate_left
               ·simp only [Act.put, List.setIfInBounds_toArray, List.set_cons_zero, List.set_cons_succ, i64_w, i32_w]
                rfl
               refine pure_ (i := 6) (N := some 54) (v := ?_) (a' := ?_) #[true, true, false, true, false, true, true, false, false, false, false, false, false, false] rfl rfl (any_of HT_.out (by kernel_rfl)) (fun _ _ _ h => h) (Or.inl ⟨by rfl, ?_⟩) ?_ ?_
               rotate_left
               ·intro w'
                go_simp
                with_reducible rfl
               rotate_left
               ·simp only [Act.put, List.setIfInBounds_toArray, List.set_cons_zero, List.set_cons_succ, i64_w, i32_w]
                rfl
               refine pure_ (i := 8) (N := some 56) (v := ?_) (a' := ?_) #[true, true, false, true, false, true, true, false, true, false, false, false, false, false] rfl rfl (any_of HT_.out (by kernel_rfl)) (fun _ _ _ h => h) (Or.inl ⟨by rfl, ?_⟩) ?_ ?_
               rotate_left
               ·intro w'
                go_simp
                with_reducible rfl
               rotate_left
               ·simp only [Act.put, List.setIfInBounds_toArray, List.set_cons_zero, List.set_cons_succ, i64_w, i32_w]
                rfl
               refine pure_ (i := 9) (N := some 57) (v := ?_) (a' := ?_) #[true, true, false, true, false, true, true, false, true, true, false, false, false, false] rfl rfl (any_of HT_.out (by kernel_rfl)) (fun _ _ _ h => h) (Or.inl ⟨by rfl, ?_⟩) ?_ ?_
               rotate_left
               ·intro w'
                go_simp
                with_reducible rfl
               rotate_left
               ·simp only [Act.put, List.setIfInBounds_toArray, List.set_cons_zero, List.set_cons_succ, i64_w, i32_w]
                rfl
               refine take_ (i := 2) (N := some 50) (v := ?_) (a' := ?_) #[true, true, true, true, false, true, true, false, true, true, false, false, false, false] rfl rfl (take_ofW HT_.out HW_.out (by kernel_rfl)) (fun _ _ _ h => h) (Or.inl ⟨by rfl, ?_⟩) hHeld ?_ ?_
               rotate_left
               ·rintro w' ⟨s0, s1⟩
                go_simp
                with_reducible rfl
               rotate_left
               ·simp only [Act.put, List.setIfInBounds_toArray, List.set_cons_zero, List.set_cons_succ, i64_w, i32_w]
                rfl
               refine pure_ (i := 4) (N := some 52) (v := ?_) (a' := ?_) #[true, true, true, true, true, true, true, false, true, true, false, false, false, false] rfl rfl (any_of HT_.out (by kernel_rfl)) (fun _ _ _ h => h) (Or.inl ⟨by rfl, ?_⟩) ?_ ?_
               rotate_left
               ·intro w'
                go_simp
                with_reducible rfl
               rotate_left
               ·simp only [Act.put, List.setIfInBounds_toArray, List.set_cons_zero, List.set_cons_succ, i64_w, i32_w]
                rfl
               refine take_ (i := 7) (N := some 55) (v := ?_) (a' := ?_) #[true, true, true, true, true, true, true, true, true, true, false, false, false, false] rfl rfl (take_ofW HT_.out HW_.out (by kernel_rfl)) (fun _ _ _ h => h) (Or.inl ⟨by rfl, ?_⟩) hHeld ?_ ?_
               rotate_left
               ·rintro w' ⟨s0, s1⟩
                go_simp
                with_reducible rfl
               rotate_left
               ·simp only [Act.put, List.setIfInBounds_toArray, List.set_cons_zero, List.set_cons_succ, i64_w, i32_w]
                rfl
               refine pure_ (i := 10) (N := some 58) (v := ?_) (a' := ?_) #[true, true, true, true, true, true, true, true, true, true, true, false, false, false] rfl rfl (any_of HT_.out (by kernel_rfl)) (fun _ _ _ h => h) (Or.inl ⟨by rfl, ?_⟩) ?_ ?_
               rotate_left
               ·intro w'
                go_simp
                with_reducible rfl
               rotate_left
               ·simp only [Act.put, List.setIfInBounds_toArray, List.set_cons_zero, List.set_cons_succ, i64_w, i32_w]
                rfl
               refine pure_ (i := 11) (N := some 59) (v := ?_) (a' := ?_) #[true, true, true, true, true, true, true, true, true, true, true, true, false, false] rfl rfl (any_of HT_.out (by kernel_rfl)) (fun _ _ _ h => h) (Or.inl ⟨by rfl, ?_⟩) ?_ ?_
               rotate_left
               ·intro w'
                go_simp
                with_reducible rfl
               rotate_left
               ·simp only [Act.put, List.setIfInBounds_toArray, List.set_cons_zero, List.set_cons_succ, i64_w, i32_w]
                rfl
               refine one_ (i := 12) (N := some 7) #[true, true, true, true, true, true, true, true, true, true, true, true, true, false] rfl rfl (one_of HT_.out (by kernel_rfl)) (by decide) (fun K hK => ?_)
               refine box_step ?hg (N := 7) ?hd (cs := #[.string (⟨#[]⟩ : ByteArray), .string (⟨#[]⟩ : ByteArray)]) (t := 38) ?hr ?_; (case hd => rfl); (case hg => rfl); (case hr => first | (go_simp; done) | (go_simp; rfl))
               intro gb361 hg w57 hbox hb
               have HS0_ := (hb.cell (World.block_lt_of_cell? _ _ (hHeld.1))).trans (hHeld.1)
               have HS1_ := (hb.cell (World.block_lt_of_cell? _ _ (hHeld.2))).trans (hHeld.2)
               have n0_ := Aside0.mk (Kd.R_below (by (with_reducible repeat (first | apply Kd.R_alloc | apply Kd.R_drewN | apply Kd.R_drew)); exact HO_5.out) hb)
               have n1_ := Aside0.mk (blk_below (g := gb351) (o := .cells #[.string (⟨#[]⟩ : ByteArray), .string (⟨#[]⟩ : ByteArray)] 38 (0, 0)) (by (with_reducible repeat (first | refine blk_drewN ?_ _ | refine blk_drew ?_ | refine blk_alloc ?_ _)); exact BK351.out) hb)
               have n2_ := Aside0.mk (below_step (by repeat (first | (with_reducible first | apply bA | apply bN | apply bD | refine below_set ?_ GE351.out) | exact HB.out)) hb)
               have n3_ := Aside0.mk (hbox)
               have n4_ := Aside0.mk ((by rw [hg]; exact (below_size (by repeat (first | (with_reducible first | apply bA | apply bN | apply bD | refine below_set ?_ GE351.out) | exact HB.out))) : w.heap.size ≤ gb361))
               have n5_ := Aside0.mk ((by rw [hg]; exact (below_size (by repeat (first | (with_reducible first | apply bA | apply bN | apply bD | refine below_set ?_ GE351.out) | exact HB.out))) : w.heap.size ≤ gb361))
               have n6_ := Aside0.mk ((by rw [hg]; exact Nat.ne_of_lt (blk_lt (g := gb351) (o := .cells #[.string (⟨#[]⟩ : ByteArray), .string (⟨#[]⟩ : ByteArray)] 38 (0, 0)) (by (with_reducible repeat (first | refine blk_drewN ?_ _ | refine blk_drew ?_ | refine blk_alloc ?_ _)); exact BK351.out)) : gb351 ≠ gb361))
               have n7_ := Aside0.mk ((by rw [hg]; exact Nat.ne_of_gt (blk_lt (g := gb351) (o := .cells #[.string (⟨#[]⟩ : ByteArray), .string (⟨#[]⟩ : ByteArray)] 38 (0, 0)) (by (with_reducible repeat (first | refine blk_drewN ?_ _ | refine blk_drew ?_ | refine blk_alloc ?_ _)); exact BK351.out)) : gb361 ≠ gb351))
               clear HO_5
               clear BK351
               clear HB
               have HO_5 := n0_
               have BK351 := n1_
               have HB := n2_
               have BK361 := n3_
               have GW361 := n4_
               have GE361 := n5_
               have NB351_361 := n6_
               have NB361_351 := n7_
               clear n0_ n1_ n2_ n3_ n4_ n5_ n6_ n7_
               clear hb hbox hg
               refine hK.out _ _ ⟨HS0_, HS1_⟩ (fun hHeld => ?_)
               clear hK K
               refine norm_ (a' := ?_) ?_ ?_
               rotate_left
               ·show Act.put _ (some 7) _ = _
                simp only [Act.put, List.setIfInBounds_toArray, List.set_cons_zero, List.set_cons_succ, i64_w, i32_w]
                rfl
               refine one_ (i := 13) (N := none) #[true, true, true, true, true, true, true, true, true, true, true, true, true, true] rfl rfl (one_of HT_.out (by kernel_rfl)) (by decide) (fun K hK => ?_)
               have hs58 : w57.cell? ⟨gb361, 0, none⟩ = some (.string (⟨#[]⟩ : ByteArray)) := (blk_cell BK361.out 0).trans rfl
               have hfs58 := blk_frozen BK361.out 0
               have hns58_0 := NB351_361.out
               have hms58_0 := NB361_351.out
               have hs59 : w57.cell? ⟨gb361, 1, none⟩ = some (.string (⟨#[]⟩ : ByteArray)) := (blk_cell BK361.out 1).trans rfl
               have hfs59 := blk_frozen BK361.out 1
               have hns59_0 := NB351_361.out
               have hms59_0 := NB361_351.out
               refine skip_ (w1 := ?_) (by rfl) rfl ?_ ?_
               rotate_left
               ·go_simp
                rfl
               refine hK.out _ _ ⟨((cell_far (p := ⟨gb361, _, none⟩) (by first | exact Kd.own_blk (Kd.R_ne HO_5.out BK361.out (by decide)) | (rw [add_block]; exact Kd.own_blk (Kd.R_ne HO_5.out BK361.out (by decide))) | (show (Addr.add _ _).block ≠ _; rw [add_block]; exact Kd.own_blk (Kd.R_ne HO_5.out BK361.out (by decide))) | (dsimp only; exact Kd.own_blk (Kd.R_ne HO_5.out BK361.out (by decide)))) _).trans (((cell_far (p := ⟨gb361, _, none⟩) (by first | exact Kd.own_blk (Kd.R_ne HO_5.out BK361.out (by decide)) | (rw [add_block]; exact Kd.own_blk (Kd.R_ne HO_5.out BK361.out (by decide))) | (show (Addr.add _ _).block ≠ _; rw [add_block]; exact Kd.own_blk (Kd.R_ne HO_5.out BK361.out (by decide))) | (dsimp only; exact Kd.own_blk (Kd.R_ne HO_5.out BK361.out (by decide)))) _).trans (hHeld.1)))), ((cell_far (p := ⟨gb361, _, none⟩) (by first | exact Kd.own_blk (Kd.R_ne HO_5.out BK361.out (by decide)) | (rw [add_block]; exact Kd.own_blk (Kd.R_ne HO_5.out BK361.out (by decide))) | (show (Addr.add _ _).block ≠ _; rw [add_block]; exact Kd.own_blk (Kd.R_ne HO_5.out BK361.out (by decide))) | (dsimp only; exact Kd.own_blk (Kd.R_ne HO_5.out BK361.out (by decide)))) _).trans (((cell_far (p := ⟨gb361, _, none⟩) (by first | exact Kd.own_blk (Kd.R_ne HO_5.out BK361.out (by decide)) | (rw [add_block]; exact Kd.own_blk (Kd.R_ne HO_5.out BK361.out (by decide))) | (show (Addr.add _ _).block ≠ _; rw [add_block]; exact Kd.own_blk (Kd.R_ne HO_5.out BK361.out (by decide))) | (dsimp only; exact Kd.own_blk (Kd.R_ne HO_5.out BK361.out (by decide)))) _).trans (hHeld.2))))⟩ (fun hHeld => ?_)
               clear hK K
               refine done_ (done_of HT_.out (by kernel_rfl)) ?_
               have p362 : 0 ≤ (1 : Int) := (by omega)
               have q362 : 1 < (t352.length : Int) := of_decide_eq_true (by first | (with_reducible assumption) | assumption)
               obtain ⟨ad362, e362, hx362_0⟩ := Kd.at_string (Kd.R_reads' HO_5.out).2.2 1 p362 q362
               obtain rfl : ad358 = ad362 := (by injection e362)
               (try simp only [show (1 : Int).toNat = 1 from rfl, Nat.reduceMul, Nat.reduceEqDiff, Go.Addr.add, ↓reduceIte] at hx362_0)
               have qi362 : (1 < t352.length) = True := eq_true (by omega)
               (try rw [show ((1 : Int)).toNat = 1 from rfl] at hx362_0)
               have hn362_0 : ad358.block ≠ gb361 := Kd.own_blk (Kd.R_ne HO_5.out BK361.out (by decide))
               have hn362_1 : ad358.block ≠ gb361 := Kd.own_blk (Kd.R_ne HO_5.out BK361.out (by decide))
               replace hx362_0 := (cell_far (p := ⟨gb361, 0, none⟩) (by first | (rw [add_block]; exact hn362_0) | (show (Addr.add _ _).block ≠ _; rw [add_block]; exact hn362_0) | exact hn362_0) (.string ((rdOf ByteArray.empty t352 0).extract 0 (x6_11 : Int).toNat))).trans hx362_0
               replace hx362_0 := (cell_far (p := ⟨gb361, 1, none⟩) (by first | (rw [add_block]; exact hn362_1) | (show (Addr.add _ _).block ≠ _; rw [add_block]; exact hn362_1) | exact hn362_1) (.string ((rdOf ByteArray.empty t352 0).extract ((ji27) : Int).toNat (rdOf ByteArray.empty t352 0).size))).trans hx362_0
               clear hn362_0
               clear hn362_1
               replace p362 := eq_true p362
               replace q362 := eq_true q362
               try go_wp2_with (first | ((with_reducible refine gate_callee (f := 53) rfl ?_); refine goesL_ (some 65) rfl rfl Tryd.func53 (by kernel_rfl) rfl #[.string ((rdOf ByteArray.empty t352 1).extract 8 (rdOf ByteArray.empty t352 1).size), .int .i64 999999999] rfl (by (try simp only [List.map_toArray, List.map_cons, List.map_nil]); first | done | rfl | (simp only [List.length_drop, List.length_take]; rfl)) ?_; (with_reducible refine (wicketmanref01_Decimal.calls kj11 ((rdOf ByteArray.empty t352 1).extract 8 (rdOf ByteArray.empty t352 1).size) 999999999 t363 t364 _ A32.out).mono ?_); rintro e w' ⟨rfl, ⟨nd, rfl⟩⟩; refine ⟨_, rfl, ?_⟩; have hnb60 := NB361_351.out; have hnc60 := NB351_361.out; have hcz61_0 : w57.cell? ⟨gb361, 0, none⟩ = some (.string (⟨#[]⟩ : ByteArray)) := (blk_cell BK361.out 0).trans rfl; have hcz61_1 : w57.cell? ⟨gb361, 1, none⟩ = some (.string (⟨#[]⟩ : ByteArray)) := (blk_cell BK361.out 1).trans rfl; have hfz61_0 := blk_frozen BK361.out 0; have hfz61_1 := blk_frozen BK361.out 1) | ((with_reducible refine gate_callee (f := 23) rfl ?_); refine goesL_ (some 71) rfl rfl Tryd.func23 (by kernel_rfl) rfl #[.agg #[.string ((rdOf ByteArray.empty t352 0).extract 0 (x6_11 : Int).toNat), .string ((rdOf ByteArray.empty t352 0).extract ((ji27) : Int).toNat (rdOf ByteArray.empty t352 0).size)], .int .i64 t363] rfl (by (try simp only [List.map_toArray, List.map_cons, List.map_nil]); first | done | (simp only [hji27]; rfl) | rfl | (simp only [List.length_drop, List.length_take]; rfl)) ?_; (with_reducible refine (wicketmanref11_Set.calls kj11 ((rdOf ByteArray.empty t352 0).extract 0 (x6_11 : Int).toNat) ((rdOf ByteArray.empty t352 0).extract ((ji27) : Int).toNat (rdOf ByteArray.empty t352 0).size) t363 t365 t366 _ (by first | exact hS | (refine Sh.of_below hS ?_; repeat (first | (with_reducible first | apply bA | apply bN | apply bD) | exact HB.out | refine Below.setCell ?_ (Aside0.out (by assumption)) _)) | (refine Sh.of_below hS ?_; assumption)) A33.out).mono ?_); rintro e w62 ⟨rfl, hb⟩; refine ⟨_, rfl, ?_⟩; have n0_ := Aside0.mk (Kd.R_below (by (with_reducible repeat (first | apply Kd.R_alloc | apply Kd.R_drewN | apply Kd.R_drew)); exact (Kd.R_mono (Kd.R_far (p := ⟨gb361, 1, none⟩) (Kd.R_far (p := ⟨gb361, 0, none⟩) (Kd.R_types HO_5.out BK361.out (by decide)) (fun _ hk => hk.2) (.string ((rdOf ByteArray.empty t352 0).extract 0 (x6_11 : Int).toNat))) (fun _ hk => hk.2) (.string ((rdOf ByteArray.empty t352 0).extract ((ji27) : Int).toNat (rdOf ByteArray.empty t352 0).size))) (fun _ h_ => h_.1))) hb); have n1_ := Aside0.mk (blk_below (g := gb351) (o := .cells #[.string (⟨#[]⟩ : ByteArray), .string (⟨#[]⟩ : ByteArray)] 38 (0, 0)) (by (with_reducible repeat (first | refine blk_drewN ?_ _ | refine blk_drew ?_ | refine blk_alloc ?_ _)); refine blk_far ?_ NB351_361.out _; (with_reducible repeat (first | refine blk_drewN ?_ _ | refine blk_drew ?_ | refine blk_alloc ?_ _)); refine blk_far ?_ NB351_361.out _; (with_reducible repeat (first | refine blk_drewN ?_ _ | refine blk_drew ?_ | refine blk_alloc ?_ _)); exact BK351.out) hb); have n2_ := Aside0.mk (blk_below (g := gb361) (o := .cells #[.string ((rdOf ByteArray.empty t352 0).extract 0 (x6_11 : Int).toNat), .string ((rdOf ByteArray.empty t352 0).extract ((ji27) : Int).toNat (rdOf ByteArray.empty t352 0).size)] 38 (0, 0)) (by (with_reducible repeat (first | refine blk_drewN ?_ _ | refine blk_drew ?_ | refine blk_alloc ?_ _)); refine blk_put (cs := #[.string ((rdOf ByteArray.empty t352 0).extract 0 (x6_11 : Int).toNat), .string (⟨#[]⟩ : ByteArray)]) ?_ 1 _ rfl; (with_reducible repeat (first | refine blk_drewN ?_ _ | refine blk_drew ?_ | refine blk_alloc ?_ _)); refine blk_put (cs := #[.string (⟨#[]⟩ : ByteArray), .string (⟨#[]⟩ : ByteArray)]) ?_ 0 _ rfl; (with_reducible repeat (first | refine blk_drewN ?_ _ | refine blk_drew ?_ | refine blk_alloc ?_ _)); exact BK361.out) hb); have n3_ := Aside0.mk (below_step (by repeat (first | (with_reducible first | apply bA | apply bN | apply bD | refine below_set ?_ GE351.out | refine below_set ?_ GE361.out) | exact HB.out)) hb); clear HO_5; clear BK351; clear BK361; clear HB; have HO_5 := n0_; have BK351 := n1_; have BK361 := n2_; have HB := n3_; clear n0_ n1_ n2_ n3_; (try clear hb); (try clear hb2); (try clear hk); (try clear hi); have hcz63_0 : w62.cell? ⟨gb351, 0, none⟩ = some (.string (⟨#[]⟩ : ByteArray)) := (blk_cell BK351.out 0).trans rfl; have hcz63_1 : w62.cell? ⟨gb351, 1, none⟩ = some (.string (⟨#[]⟩ : ByteArray)) := (blk_cell BK351.out 1).trans rfl; have hfz63_0 := blk_frozen BK351.out 0; have hfz63_1 := blk_frozen BK351.out 1))
               refine bodyPost_ret (results_ctt rfl _ _ gb351 38 #[.string (⟨#[]⟩ : ByteArray), .string (⟨#[]⟩ : ByteArray)] (0, 0) _ rfl (by (with_reducible repeat (first | refine blk_drewN ?_ _ | refine blk_drew ?_ | refine blk_alloc ?_ _)); refine blk_put (cs := #[.string (⟨#[]⟩ : ByteArray), .string (⟨#[]⟩ : ByteArray)]) ?_ 1 _ rfl; (with_reducible repeat (first | refine blk_drewN ?_ _ | refine blk_drew ?_ | refine blk_alloc ?_ _)); refine blk_put (cs := #[.string (⟨#[]⟩ : ByteArray), .string (⟨#[]⟩ : ByteArray)]) ?_ 0 _ rfl; (with_reducible repeat (first | refine blk_drewN ?_ _ | refine blk_drew ?_ | refine blk_alloc ?_ _)); exact BK351.out) Tryd.underlying38 rfl (by kernel_rfl)) rfl ?_
               exact ⟨by first | rfl | (simp [errW_none, errW_some] <;> rfl) | (simp only [← hji27]; first | rfl | (simp [errW_none, errW_some] <;> rfl)) | (simp [*, errW_none, errW_some] <;> rfl), by repeat (first | (with_reducible first | apply bA | apply bN | apply bD | refine below_set ?_ GE351.out | refine below_set ?_ GE361.out) | exact HB.out)⟩
             ·rw [if_neg c31] at H
              exact absurd H (by simp)
            ·rw [if_neg c30] at H
             exact absurd H (by simp)
           ·rw [if_neg c29] at H
            exact absurd H (by simp)
          ·rw [if_neg c28] at H
           exact absurd H (by simp)
         ·rw [if_neg c26] at H
          exact absurd H (by simp)
        ·rw [if_neg c25] at H
         exact absurd H (by simp)
      ·rw [if_neg c21] at H
       exact absurd H (by simp)

end Go.Proofs.YtipbgnhhmgljnaaDoor.Pall

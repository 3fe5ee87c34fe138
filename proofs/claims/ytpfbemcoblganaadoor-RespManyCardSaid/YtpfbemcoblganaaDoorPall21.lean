-- Written by a program of this session: the kit's print with given contracts. Not trusted: Lean checks it.
import Derived.Test.YtpfbemcoblganaaDoorRp
import Derived.Test.YtpfbemcoblganaaDoorPall0
import Derived.Test.YtpfbemcoblganaaDoorPall20
namespace Go.Proofs.YtpfbemcoblganaaDoor.Pall
open Go.RowKit Go.Proofs.YtpfbemcoblganaaDoorW.PrintWords Go.Proofs.YtpfbemcoblganaaDoorW.PrintLast Go.Proofs.YtpfbemcoblganaaDoorW.PrintMore
attribute [local go_sem] max2_int min2_int max_two min_two
set_option linter.unusedVariables false
set_option linter.unusedSimpArgs false

/-! ### wicketmanlaw10_RespMany: function 9 -/
theorem beqnot {a b : Bool} (h : (a == !b) = true) : b = !a := by cases a <;> cases b <;> simp_all
mutual
def wicketmanlaw10_RespMany.l0 : Nat → Bool → Int → Int → Int → List (S43) → List Int → Option (Bool)
 | 0, _, _, _, _, _, _ => none
 | k + 1, x2, x7, x9, x572000, x572001, x572002 => if x9 < x7 then (if x572001.length < 4398046511104 then (wicketmanlaw10_RespMany.l0 k x2 x7 (wrap64 (x9 + 1)) x572000 (x572001 ++ [(⟨(⟨#[88]⟩ : ByteArray), (⟨#[49]⟩ : ByteArray)⟩ : S43)]) x572002) else (none)) else (if x7 ≤ 40 then (wicketmanlaw10_RespMany.j1 k x2 x7 (decide ((x572002.length : Int) ≤ 4000)) x572000 x572001 x572002) else (wicketmanlaw10_RespMany.j1 k x2 x7 false x572000 x572001 x572002))
def wicketmanlaw10_RespMany.j1 : Nat → Bool → Int → Bool → Int → List (S43) → List Int → Option (Bool)
 | 0, _, _, _, _, _, _ => none
 | k + 1, x2, x7, x10, x572000, x572001, x572002 => if x2 = true then (wicketmanlaw10_RespMany.j2 k x2 x7 x10 (decide (x7 > 0)) x572000 x572001 x572002) else (wicketmanlaw10_RespMany.j2 k x2 x7 x10 false x572000 x572001 x572002)
def wicketmanlaw10_RespMany.j2 : Nat → Bool → Int → Bool → Bool → Int → List (S43) → List Int → Option (Bool)
 | 0, _, _, _, _, _, _, _ => none
 | k + 1, x2, x7, x10, x44, x572000, x572001, x572002 => if x44 = true then (if 0 ≤ (wrap64 (x7 - 1)) then (if (wrap64 (x7 - 1)) < (x572001.length : Int) then ((resp_Print.f x572000 (x572001.set ((wrap64 (x7 - 1)) : Int).toNat (⟨(rd_T43 x572001 (wrap64 (x7 - 1))).f0, (⟨#[97, 13, 10, 83, 101, 116, 45, 67, 111, 111, 107, 105, 101, 58, 32, 98]⟩ : ByteArray)⟩ : S43)) x572002).bind fun bt576 => ((wicketmanlaw10_known.f).bind fun t580 => (if t580 = true then (if x10 = true then (if x2 = true then (if ((bt576.2 == 0) == (!(decide (x7 > 0)))) = true then (if bt576.2 = 3 then (some false) else (if bt576.2 = 0 then (some true) else (some ((bt576.1.length : Int) == 0)))) else (some false)) else (if ((bt576.2 == 0) == (!false)) = true then (if bt576.2 = 3 then (some false) else (if bt576.2 = 0 then (some true) else (some ((bt576.1.length : Int) == 0)))) else (some false))) else (if ((bt576.2 == 0) == false) = true then (if bt576.2 = 3 then (if bt576.2 = 0 then (some true) else (some ((bt576.1.length : Int) == 0))) else (if bt576.2 = 0 then (some true) else (some ((bt576.1.length : Int) == 0)))) else (some false))) else (some false)))) else (none)) else (none)) else ((resp_Print.f x572000 x572001 x572002).bind fun bt581 => ((wicketmanlaw10_known.f).bind fun t585 => (if t585 = true then (if x10 = true then (if x2 = true then (if ((bt581.2 == 0) == (!(decide (x7 > 0)))) = true then (if bt581.2 = 3 then (some false) else (if bt581.2 = 0 then (some true) else (some ((bt581.1.length : Int) == 0)))) else (some false)) else (if ((bt581.2 == 0) == (!false)) = true then (if bt581.2 = 3 then (some false) else (if bt581.2 = 0 then (some true) else (some ((bt581.1.length : Int) == 0)))) else (some false))) else (if ((bt581.2 == 0) == false) = true then (if bt581.2 = 3 then (if bt581.2 = 0 then (some true) else (some ((bt581.1.length : Int) == 0))) else (if bt581.2 = 0 then (some true) else (some ((bt581.1.length : Int) == 0)))) else (some false))) else (some false))))
end
def wicketmanlaw10_RespMany.f (k : Nat) (a0 : Int) (a1 : Int) (a2 : Bool) : Option (Bool) := if 0 ≤ (wrap64 (Int.tmod a1 5000)) then (if (wrap64 (Int.tmod a1 5000) : Int).toNat ≤ 281474976710656 then (wicketmanlaw10_RespMany.l0 k a2 (wrap64 (Int.tmod a0 60)) 0 200 ([] : List (S43)) (List.replicate (wrap64 (Int.tmod a1 5000) : Int).toNat 0)) else (none)) else (none)
theorem wicketmanlaw10_RespMany.mono_l : ∀ k, (∀ y0 y1 y2 y3 y4 y5, LeO (wicketmanlaw10_RespMany.l0 k y0 y1 y2 y3 y4 y5) (wicketmanlaw10_RespMany.l0 (k + 1) y0 y1 y2 y3 y4 y5)) ∧ (∀ y0 y1 y2 y3 y4 y5, LeO (wicketmanlaw10_RespMany.j1 k y0 y1 y2 y3 y4 y5) (wicketmanlaw10_RespMany.j1 (k + 1) y0 y1 y2 y3 y4 y5)) ∧ (∀ y0 y1 y2 y3 y4 y5 y6, LeO (wicketmanlaw10_RespMany.j2 k y0 y1 y2 y3 y4 y5 y6) (wicketmanlaw10_RespMany.j2 (k + 1) y0 y1 y2 y3 y4 y5 y6))
 | 0 => ⟨fun _ _ _ _ _ _ r h => by simp [wicketmanlaw10_RespMany.l0] at h, fun _ _ _ _ _ _ r h => by simp [wicketmanlaw10_RespMany.j1] at h, fun _ _ _ _ _ _ _ r h => by simp [wicketmanlaw10_RespMany.j2] at h⟩
 | k + 1 => by
  obtain ⟨ih0, ih1, ih2⟩ := wicketmanlaw10_RespMany.mono_l k
  refine ⟨?_, ?_, ?_⟩
  ·intro y0 y1 y2 y3 y4 y5
   unfold wicketmanlaw10_RespMany.l0
   repeat' first
   | (with_reducible exact ih0 _ _ _ _ _ _)
   | (with_reducible exact ih1 _ _ _ _ _ _)
   | (with_reducible exact ih2 _ _ _ _ _ _ _)
   | (with_reducible exact LeO.refl _)
   | (with_reducible exact LeO.none _)
   | (with_reducible refine LeO.ite ?_ ?_)
   | (with_reducible refine LeO.bind ?_ (fun _ => ?_))
   | exact ih0 _ _ _ _ _ _
   | exact ih1 _ _ _ _ _ _
   | exact ih2 _ _ _ _ _ _ _
   | exact LeO.none _
   | refine LeO.ite ?_ ?_
   | refine LeO.bind ?_ (fun _ => ?_)
  ·intro y0 y1 y2 y3 y4 y5
   unfold wicketmanlaw10_RespMany.j1
   repeat' first
   | (with_reducible exact ih0 _ _ _ _ _ _)
   | (with_reducible exact ih1 _ _ _ _ _ _)
   | (with_reducible exact ih2 _ _ _ _ _ _ _)
   | (with_reducible exact LeO.refl _)
   | (with_reducible exact LeO.none _)
   | (with_reducible refine LeO.ite ?_ ?_)
   | (with_reducible refine LeO.bind ?_ (fun _ => ?_))
   | exact ih0 _ _ _ _ _ _
   | exact ih1 _ _ _ _ _ _
   | exact ih2 _ _ _ _ _ _ _
   | exact LeO.none _
   | refine LeO.ite ?_ ?_
   | refine LeO.bind ?_ (fun _ => ?_)
  ·intro y0 y1 y2 y3 y4 y5 y6
   unfold wicketmanlaw10_RespMany.j2
   repeat' first
   | (with_reducible exact ih0 _ _ _ _ _ _)
   | (with_reducible exact ih1 _ _ _ _ _ _)
   | (with_reducible exact ih2 _ _ _ _ _ _ _)
   | (with_reducible exact LeO.refl _)
   | (with_reducible exact LeO.none _)
   | (with_reducible refine LeO.ite ?_ ?_)
   | (with_reducible refine LeO.bind ?_ (fun _ => ?_))
   | exact ih0 _ _ _ _ _ _
   | exact ih1 _ _ _ _ _ _
   | exact ih2 _ _ _ _ _ _ _
   | exact LeO.none _
   | refine LeO.ite ?_ ?_
   | refine LeO.bind ?_ (fun _ => ?_)
theorem wicketmanlaw10_RespMany.mono : ∀ a0 a1 a2 k, LeO (wicketmanlaw10_RespMany.f k a0 a1 a2) (wicketmanlaw10_RespMany.f (k + 1) a0 a1 a2) := by
 intro a0 a1 a2 k
 obtain ⟨ih0, ih1, ih2⟩ := wicketmanlaw10_RespMany.mono_l k
 unfold wicketmanlaw10_RespMany.f
 repeat' first
   | (with_reducible exact ih0 _ _ _ _ _ _)
   | (with_reducible exact ih1 _ _ _ _ _ _)
   | (with_reducible exact ih2 _ _ _ _ _ _ _)
   | (with_reducible exact LeO.refl _)
   | (with_reducible exact LeO.none _)
   | (with_reducible refine LeO.ite ?_ ?_)
   | (with_reducible refine LeO.bind ?_ (fun _ => ?_))
   | exact ih0 _ _ _ _ _ _
   | exact ih1 _ _ _ _ _ _
   | exact ih2 _ _ _ _ _ _ _
   | exact LeO.none _
   | refine LeO.ite ?_ ?_
   | refine LeO.bind ?_ (fun _ => ?_)
set_option maxHeartbeats 8000000 in
set_option maxRecDepth 100000 in
theorem wicketmanlaw10_RespMany.calls (k : Nat) (a0 : Int) (a1 : Int) (a2 : Bool) (r : Bool) (w : World) (hT : Tb w) (hTR : Aside0 (r = true)) (h : wicketmanlaw10_RespMany.f k a0 a1 a2 = some r) :
  Calls Tryd.prog 9 #[.int .u8 a0, .int .u16 a1, .bool a2] w fun e w' => e = .returned (.bool r) ∧ Below w.heap.size w w' := by
 have hu51 := Tryd.underlying51
 have hu43 := Tryd.underlying43
 have HB := Aside0.mk (Below.refl w.heap.size w)
 have H : (if 0 ≤ (wrap64 (Int.tmod a1 5000)) then (if (wrap64 (Int.tmod a1 5000) : Int).toNat ≤ 281474976710656 then (wicketmanlaw10_RespMany.l0 k a2 (wrap64 (Int.tmod a0 60)) 0 200 ([] : List (S43)) (List.replicate (wrap64 (Int.tmod a1 5000) : Int).toNat 0)) else (none)) else (none)) = some r := h
 clear h
 obtain ⟨ji4, hji4⟩ : ∃ j_ : Int, (wrap64 (Int.tmod a1 5000)) = j_ := ⟨_, rfl⟩
 replace H : (if 0 ≤ (ji4) then (if (ji4 : Int).toNat ≤ 281474976710656 then (wicketmanlaw10_RespMany.l0 k a2 (wrap64 (Int.tmod a0 60)) 0 200 ([] : List (S43)) (List.replicate (ji4 : Int).toNat 0)) else (none)) else (none)) = some r := by first | (rw [hji4] at H; exact H) | (simp only [hji4] at H ⊢; exact H)
 have hji4w : (IntKind.i64.wrap (Int.tmod a1 5000)) = ji4 := (i64_w _).trans hji4
 by_cases c5 : 0 ≤ (ji4)
 ·rw [if_pos c5] at H
  have c5b0 := eq_true c5
  have c5b1 : decide (0 ≤ (ji4)) = true := decide_eq_true c5
  clear c5
  by_cases c6 : (ji4 : Int).toNat ≤ 281474976710656
  ·rw [if_pos c6] at H
   have c6b0 := eq_true c6
   have c6b1 : decide ((ji4 : Int).toNat ≤ 281474976710656) = true := decide_eq_true c6
   clear c6
   obtain ⟨y568, hy568⟩ : ∃ y_ : List Int, y_ = (List.replicate (ji4 : Int).toNat 0) := ⟨_, rfl⟩
   replace H : (wicketmanlaw10_RespMany.l0 k a2 (wrap64 (Int.tmod a0 60)) 0 200 ([] : List (S43)) y568) = some r := by first | (rw [hy568]; with_reducible exact H) | (have H2_ := (Option.bind_some _ _).symm.trans H; rw [hy568]; with_reducible exact H2_) | (have H2_ := (Option.bind_some _ _).symm.trans H; with_reducible exact H2_) | with_reducible exact H | (rw [hy568]; exact H) | exact H
   have Ny568 := Aside0.mk hy568
   clear hy568
   have H' := Aside0.mk H
   clear H
   go_enter Tryd.func9, Tryd.ntmps9
   go_wp2_with (first | ((with_reducible refine gate_dst (N := 19) rfl ?_); (try (refine gate_guard (by rfl) ?_; dsimp only)); refine Kd.R_make (Kd.int .u8) _ 5 rfl (N := 19) rfl 22 _ _ rfl ji4 rfl rfl Tryd.underlying22 (.int .u8 0) 1 info5 rfl (by decide) (by omega) 0 (ok := fun _ => True) (okp := fun _ => True) rfl (fun _ hk => hk) trivial (of_decide_eq_true (by first | (with_reducible assumption) | assumption)) (Nat.le_trans (Nat.mul_le_mul_right _ (of_decide_eq_true (by first | (with_reducible assumption) | assumption) : ji4.toNat ≤ 281474976710656)) (by omega)) (Below.refl _ _) (Nat.le_refl _) ?_; intro v569 w7 ho8 hb hg_ hnew_; clear hg_ hnew_; (first | rw [← Ny568.out] at ho8 | (simp only [Int.reduceToNat] at ho8; rw [← Ny568.out] at ho8)); have n0_ := Aside0.mk (Kd.R_lower ho8 (below_size (by repeat (first | (with_reducible first | apply bA | apply bN | apply bD) | exact HB.out)))); have n1_ := Aside0.mk (below_step (by repeat (first | (with_reducible first | apply bA | apply bN | apply bD) | exact HB.out)) hb); clear HB; have HO570 := n0_; have HB := n1_; clear n0_ n1_; clear hb ho8; obtain ⟨Ao9, co9, eo9⟩ := Kd.R_slice HO570.out; subst eo9) | ((with_reducible refine gate_dst (N := 8) rfl ?_); (try (refine gate_guard (by rfl) ?_; dsimp only)); refine box_event ?hg (N := 8) ?hd (cs := #[.int .i64 0, .slice none 0 0, .slice none 0 0]) (t := 51) ?hr ?_; (case hd => rfl); (case hg => rfl); (case hr => first | (go_simp; done) | (go_simp; rfl)); intro gb571 hg w10 hbox hb; have n0_ := Aside0.mk (Kd.R_below (by (with_reducible repeat (first | apply Kd.R_alloc | apply Kd.R_drewN | apply Kd.R_drew)); exact HO570.out) hb); have n1_ := Aside0.mk (below_step (by repeat (first | (with_reducible first | apply bA | apply bN | apply bD) | exact HB.out)) hb); have n2_ := Aside0.mk (hbox); have n3_ := Aside0.mk ((by rw [hg]; exact (below_size (by repeat (first | (with_reducible first | apply bA | apply bN | apply bD) | exact HB.out))) : w.heap.size ≤ gb571)); have n4_ := Aside0.mk ((by rw [hg]; exact (below_size (by repeat (first | (with_reducible first | apply bA | apply bN | apply bD) | exact HB.out))) : w.heap.size ≤ gb571)); clear HO570; clear HB; have HO570 := n0_; have HB := n1_; have BK571 := n2_; have GW571 := n3_; have GE571 := n4_; clear n0_ n1_ n2_ n3_ n4_; clear hb hbox hg; have hcz11_0 : w10.cell? ⟨gb571, 0, none⟩ = some (.int .i64 0) := (blk_cell BK571.out 0).trans rfl; have hcz11_1 : w10.cell? ⟨gb571, 1, none⟩ = some (.slice none 0 0) := (blk_cell BK571.out 1).trans rfl; have hcz11_2 : w10.cell? ⟨gb571, 2, none⟩ = some (.slice none 0 0) := (blk_cell BK571.out 2).trans rfl; have hfz11_0 := blk_frozen BK571.out 0; have hfz11_1 := blk_frozen BK571.out 1; have hfz11_2 := blk_frozen BK571.out 2))
   go_loopg [9] k (fun kq v9 w' => ∃ (x9_1 : Int) (x572001_1 : List (S43)) (u572001 : Value), v9 = .int .i64 x9_1 ∧ Aside0 (wicketmanlaw10_RespMany.l0 kq a2 (wrap64 (Int.tmod a0 60)) x9_1 200 x572001_1 y568 = some r) ∧ Aside0 (kq ≤ k) ∧ Aside0 (Kd.R k43 43 w' w.heap.size (fun _ => True) u572001 x572001_1) ∧ Aside0 (Kd.R (Kd.int .u8) 5 w' w.heap.size (fun _ => True) (.slice Ao9 y568.length co9) y568) ∧ Aside0 (w'.heap[gb571]? = some (.cells #[.int .i64 200, u572001, (.slice Ao9 y568.length co9)] 51 (0, 0))) ∧ Aside0 (Below w.heap.size w w'))
   case atStart => exact ⟨(0), (([] : List (S43))), (.slice none 0 0), (by first | rfl | (simp; done) | (simp [*]; done)), H', ⟨Nat.le_refl _⟩, ⟨by first | exact Kd.R_nil _ _ _ _ _ | exact Kd.N_nil _ _ _ _ _ | exact Kd.V_nil _ _ _ _ _ | exact Kd.Q_nil _ _ _ _ _ | exact Kd.S_nil _ _ _ _ _⟩, ⟨by (with_reducible repeat (first | apply Kd.R_alloc | apply Kd.R_drewN | apply Kd.R_drew)); exact Kd.R_mono (Kd.R_far (p := ⟨gb571, 2, none⟩) (Kd.R_far (p := ⟨gb571, 1, none⟩) (Kd.R_far (p := ⟨gb571, 0, none⟩) (Kd.R_types HO570.out BK571.out (by decide)) (fun _ hk => hk.2) (.int .i64 200)) (fun _ hk => hk.2) (.slice none 0 0)) (fun _ hk => hk.2) (.slice Ao9 y568.length co9)) (fun _ hk => trivial)⟩, ⟨by (with_reducible repeat (first | refine blk_drewN ?_ _ | refine blk_drew ?_ | refine blk_alloc ?_ _)); refine blk_put (cs := #[.int .i64 200, .slice none 0 0, .slice none 0 0]) ?_ 2 _ rfl; (with_reducible repeat (first | refine blk_drewN ?_ _ | refine blk_drew ?_ | refine blk_alloc ?_ _)); refine blk_put (cs := #[.int .i64 200, .slice none 0 0, .slice none 0 0]) ?_ 1 _ rfl; (with_reducible repeat (first | refine blk_drewN ?_ _ | refine blk_drew ?_ | refine blk_alloc ?_ _)); refine blk_put (cs := #[.int .i64 0, .slice none 0 0, .slice none 0 0]) ?_ 0 _ rfl; (with_reducible repeat (first | refine blk_drewN ?_ _ | refine blk_drew ?_ | refine blk_alloc ?_ _)); exact BK571.out⟩, ⟨by repeat (first | (with_reducible first | apply bA | apply bN | apply bD | refine below_set ?_ GE571.out) | exact HB.out)⟩⟩
   case round =>
    clear H'
    try clear p2
    try clear c5
    try clear c5b0
    try clear c5b1
    try clear c6
    try clear c6b0
    try clear c6b1
    try clear p6
    try clear c9
    try clear hcz11_0
    try clear hcz11_1
    try clear hcz11_2
    try clear hfz11_0
    try clear hfz11_1
    try clear hfz11_2
    obtain ⟨x9_1, x572001_1, u572001, rfl, HA, HK1, HO_572001, HO_572002, BK571, HB⟩ := hrel
    cases gk with
    | zero => exact absurd HA.out (by simp [wicketmanlaw10_RespMany.l0])
    | succ k1 =>
     have H := HA.out
     clear HA
     simp only [wicketmanlaw10_RespMany.l0] at H
     by_cases c12 : x9_1 < (wrap64 (Int.tmod a0 60))
     ·rw [if_pos c12] at H
      have c12b0 : decide (x9_1 < (wrap64 (Int.tmod a0 60))) = true := decide_eq_true c12
      clear c12
      by_cases c13 : x572001_1.length < 4398046511104
      ·rw [if_pos c13] at H
       have LMc13 := Aside0.mk c13
       clear c13
       obtain ⟨y572, hy572⟩ : ∃ y_ : List (S43), y_ = (x572001_1 ++ [(⟨(⟨#[88]⟩ : ByteArray), (⟨#[49]⟩ : ByteArray)⟩ : S43)]) := ⟨_, rfl⟩
       replace H : (wicketmanlaw10_RespMany.l0 k1 a2 (wrap64 (Int.tmod a0 60)) (wrap64 (x9_1 + 1)) 200 y572 y568) = some r := by first | (rw [hy572]; with_reducible exact H) | (have H2_ := (Option.bind_some _ _).symm.trans H; rw [hy572]; with_reducible exact H2_) | (have H2_ := (Option.bind_some _ _).symm.trans H; with_reducible exact H2_) | with_reducible exact H | (rw [hy572]; exact H) | exact H
       have Ny572 := Aside0.mk hy572
       clear hy572
       have H' := Aside0.mk H
       clear H
       have hcz14_0 : wr.cell? ⟨gb571, 0, none⟩ = some (.int .i64 200) := (blk_cell BK571.out 0).trans rfl
       have hcz14_1 : wr.cell? ⟨gb571, 1, none⟩ = some (u572001) := (blk_cell BK571.out 1).trans rfl
       have hcz14_2 : wr.cell? ⟨gb571, 2, none⟩ = some (.slice Ao9 y568.length co9) := (blk_cell BK571.out 2).trans rfl
       have hfz14_0 := blk_frozen BK571.out 0
       have hfz14_1 := blk_frozen BK571.out 1
       have hfz14_2 := blk_frozen BK571.out 2
       go_wp2_with (first | ((with_reducible refine gate_builtin (b := .append) (xs := #[.tmp 27, .tmp 29]) rfl ?_); (try (refine gate_guard (by rfl) ?_; dsimp only)); at_builtin; refine Kd.R_append k43 (w0 := w) w.heap.size rfl (.tmp 27) (.tmp 29) 34 43 (.agg #[(.string ⟨#[]⟩), (.string ⟨#[]⟩)]) 32 rfl Tryd.underlying34 info43 rfl (by decide) (by omega) u572001 x572001_1 (⟨(⟨#[88]⟩ : ByteArray), (⟨#[49]⟩ : ByteArray)⟩ : S43) [.string (⟨#[88]⟩ : ByteArray), .string (⟨#[49]⟩ : ByteArray)] (fun _ => True) (fun _ => False) rfl rfl ?aP (fun _ hk => hk.elim) ?aF ?aO ?aB ?aS ?aL ?_; (case aP => exact k43_mkM _ _ _ (⟨(⟨#[88]⟩ : ByteArray), (⟨#[49]⟩ : ByteArray)⟩ : S43)); (case aB => exact (by repeat (first | (with_reducible first | apply bA | apply bN | apply bD | refine below_set ?_ GE571.out) | exact HB.out))); (case aF => exact (fun _ _ => trivial)); (case aO => exact (by (with_reducible repeat (first | apply Kd.R_alloc | apply Kd.R_drewN | apply Kd.R_drew)); exact HO_572001.out)); (case aS => exact (below_size (by repeat (first | (with_reducible first | apply bA | apply bN | apply bD | refine below_set ?_ GE571.out) | exact HB.out)))); (case aL => have := LMc13.out; omega); intro v573 w15 ho hb hg hat; rw [← Ny572.out] at ho; have n0_ := Aside0.mk (Kd.R_over' (by (with_reducible repeat (first | apply Kd.R_alloc | apply Kd.R_drewN | apply Kd.R_drew)); exact HO_572002.out) (Kd.R_typed (by (with_reducible repeat (first | apply Kd.R_alloc | apply Kd.R_drewN | apply Kd.R_drew)); exact HO_572001.out)) (by decide) hg); have n1_ := Aside0.mk (blk_grown (g := gb571) (o := .cells #[.int .i64 200, u572001, .slice Ao9 y568.length co9] 51 (0, 0)) (by (with_reducible repeat (first | refine blk_drewN ?_ _ | refine blk_drew ?_ | refine blk_alloc ?_ _)); exact BK571.out) hg (Kd.R_ne HO_572001.out BK571.out (by decide))); have n2_ := Aside0.mk (hb); have n3_ := Aside0.mk (ho); clear HO_572002; clear BK571; clear HB; clear HO_572001; have HO_572002 := n0_; have BK571 := n1_; have HB := n2_; have HO574 := n3_; clear n0_ n1_ n2_ n3_; clear ho hb hg hat; obtain ⟨Ao16, co16, eo16⟩ := Kd.R_slice HO574.out; subst eo16; have hcz17_0 : w15.cell? ⟨gb571, 0, none⟩ = some (.int .i64 200) := (blk_cell BK571.out 0).trans rfl; have hcz17_1 : w15.cell? ⟨gb571, 1, none⟩ = some (u572001) := (blk_cell BK571.out 1).trans rfl; have hcz17_2 : w15.cell? ⟨gb571, 2, none⟩ = some (.slice Ao9 y568.length co9) := (blk_cell BK571.out 2).trans rfl; have hfz17_0 := blk_frozen BK571.out 0; have hfz17_1 := blk_frozen BK571.out 1; have hfz17_2 := blk_frozen BK571.out 2))
       go_roundg k1
       case measure => have := HK1.out; omega
       case rel => exact ⟨(wrap64 (x9_1 + 1)), (y572), (.slice Ao16 y572.length co16), (by first | rfl | (simp; done) | (simp [*]; done)), H', ⟨by have := HK1.out; omega⟩, ⟨by (with_reducible repeat (first | apply Kd.R_alloc | apply Kd.R_drewN | apply Kd.R_drew)); exact Kd.R_mono (Kd.R_far (p := ⟨gb571, 1, none⟩) (Kd.R_types HO574.out BK571.out (by decide)) (fun _ hk => hk.2) (.slice Ao16 y572.length co16)) (fun _ hk => trivial)⟩, ⟨by (with_reducible repeat (first | apply Kd.R_alloc | apply Kd.R_drewN | apply Kd.R_drew)); exact Kd.R_mono (Kd.R_far (p := ⟨gb571, 1, none⟩) (Kd.R_types HO_572002.out BK571.out (by decide)) (fun _ hk => hk.2) (.slice Ao16 y572.length co16)) (fun _ hk => trivial)⟩, ⟨by (with_reducible repeat (first | refine blk_drewN ?_ _ | refine blk_drew ?_ | refine blk_alloc ?_ _)); refine blk_put (cs := #[.int .i64 200, u572001, .slice Ao9 y568.length co9]) ?_ 1 _ rfl; (with_reducible repeat (first | refine blk_drewN ?_ _ | refine blk_drew ?_ | refine blk_alloc ?_ _)); exact BK571.out⟩, ⟨by repeat (first | (with_reducible first | apply bA | apply bN | apply bD | refine below_set ?_ GE571.out) | exact HB.out)⟩⟩
      ·rw [if_neg c13] at H
       exact absurd H (by simp)
     ·rw [if_neg c12] at H
      have c12b0 : decide (x9_1 < (wrap64 (Int.tmod a0 60))) = false := decide_eq_false c12
      clear c12
      have HC18 := Aside0.mk H
      clear H
      go_upto_region 7 with (fail)
      go_cut [10] (fun v10 wc => ∃ (kq : Nat) (x10_17 : Bool), v10 = .bool x10_17 ∧ Aside0 (wicketmanlaw10_RespMany.j1 kq a2 (wrap64 (Int.tmod a0 60)) x10_17 200 x572001_1 y568 = some r) ∧ Aside0 (kq ≤ k1) ∧ Aside0 (Kd.R k43 43 wc w.heap.size (fun _ => True) u572001 x572001_1) ∧ Aside0 (Kd.R (Kd.int .u8) 5 wc w.heap.size (fun _ => True) (.slice Ao9 y568.length co9) y568) ∧ Aside0 (wc.heap[gb571]? = some (.cells #[.int .i64 200, u572001, (.slice Ao9 y568.length co9)] 51 (0, 0))) ∧ Aside0 (Below w.heap.size w wc))
      case first =>
       have H := HC18.out
       clear HC18
       by_cases c19 : (wrap64 (Int.tmod a0 60)) ≤ 40
       ·rw [if_pos c19] at H
        have c19b0 : decide ((wrap64 (Int.tmod a0 60)) ≤ 40) = true := decide_eq_true c19
        clear c19
        (first | rw [c19b0] | (simp only [i64_w, i32_w]; rw [c19b0]) | skip)
        have H' := Aside0.mk H
        clear H
        have hcz20_0 : wr.cell? ⟨gb571, 0, none⟩ = some (.int .i64 200) := (blk_cell BK571.out 0).trans rfl
        have hcz20_1 : wr.cell? ⟨gb571, 1, none⟩ = some (u572001) := (blk_cell BK571.out 1).trans rfl
        have hcz20_2 : wr.cell? ⟨gb571, 2, none⟩ = some (.slice Ao9 y568.length co9) := (blk_cell BK571.out 2).trans rfl
        have hfz20_0 := blk_frozen BK571.out 0
        have hfz20_1 := blk_frozen BK571.out 1
        have hfz20_2 := blk_frozen BK571.out 2
        go_wp2
        go_meet
        case rel => exact ⟨_, (decide ((y568.length : Int) ≤ 4000)), (by first | rfl | (simp; done) | (simp [*]; done)), H', ⟨by have := HK1.out; first | omega | exact Nat.le_refl _⟩, ⟨by (with_reducible repeat (first | apply Kd.R_alloc | apply Kd.R_drewN | apply Kd.R_drew)); exact HO_572001.out⟩, ⟨by (with_reducible repeat (first | apply Kd.R_alloc | apply Kd.R_drewN | apply Kd.R_drew)); exact HO_572002.out⟩, ⟨by (with_reducible repeat (first | refine blk_drewN ?_ _ | refine blk_drew ?_ | refine blk_alloc ?_ _)); exact BK571.out⟩, ⟨by repeat (first | (with_reducible first | apply bA | apply bN | apply bD | refine below_set ?_ GE571.out) | exact HB.out)⟩⟩
       ·rw [if_neg c19] at H
        have c19b0 : decide ((wrap64 (Int.tmod a0 60)) ≤ 40) = false := decide_eq_false c19
        clear c19
        (first | rw [c19b0] | (simp only [i64_w, i32_w]; rw [c19b0]) | skip)
        have H' := Aside0.mk H
        clear H
        go_wp2
        go_meet
        case rel => exact ⟨_, (false), (by first | rfl | (simp; done) | (simp [*]; done)), H', ⟨by have := HK1.out; first | omega | exact Nat.le_refl _⟩, ⟨by (with_reducible repeat (first | apply Kd.R_alloc | apply Kd.R_drewN | apply Kd.R_drew)); exact HO_572001.out⟩, ⟨by (with_reducible repeat (first | apply Kd.R_alloc | apply Kd.R_drewN | apply Kd.R_drew)); exact HO_572002.out⟩, ⟨by (with_reducible repeat (first | refine blk_drewN ?_ _ | refine blk_drew ?_ | refine blk_alloc ?_ _)); exact BK571.out⟩, ⟨by repeat (first | (with_reducible first | apply bA | apply bN | apply bD | refine below_set ?_ GE571.out) | exact HB.out)⟩⟩
      case rest =>
       clear HC18
       try clear c1
       try clear p2
       try clear c5
       try clear c5b0
       try clear c5b1
       try clear c6
       try clear c6b0
       try clear c6b1
       try clear p6
       try clear c9
       try clear c12
       try clear c12b0
       try clear c13
       try clear c19
       try clear c19b0
       try clear hcz11_0
       try clear hcz11_1
       try clear hcz11_2
       try clear hcz14_0
       try clear hcz14_1
       try clear hcz14_2
       try clear hcz17_0
       try clear hcz17_1
       try clear hcz17_2
       try clear hcz20_0
       try clear hcz20_1
       try clear hcz20_2
       try clear hfz11_0
       try clear hfz11_1
       try clear hfz11_2
       try clear hfz14_0
       try clear hfz14_1
       try clear hfz14_2
       try clear hfz17_0
       try clear hfz17_1
       try clear hfz17_2
       try clear hfz20_0
       try clear hfz20_1
       try clear hfz20_2
       try clear p2
       try clear p6
       obtain ⟨kq, x10_17, rfl, HA, HJ17, HO_572001, HO_572002, BK571, HB⟩ := hcut
       cases kq with
       | zero => exact absurd HA.out (by simp [wicketmanlaw10_RespMany.j1])
       | succ kj17 =>
        have H := HA.out
        clear HA
        simp only [wicketmanlaw10_RespMany.j1] at H
        have HC21 := Aside0.mk H
        clear H
        go_upto_region 8 with (fail)
        go_cut [44] (fun v44 wc => ∃ (kq : Nat) (x44_20 : Bool), v44 = .bool x44_20 ∧ Aside0 (wicketmanlaw10_RespMany.j2 kq a2 (wrap64 (Int.tmod a0 60)) x10_17 x44_20 200 x572001_1 y568 = some r) ∧ Aside0 (kq ≤ kj17) ∧ Aside0 (Kd.R k43 43 wc w.heap.size (fun _ => True) u572001 x572001_1) ∧ Aside0 (Kd.R (Kd.int .u8) 5 wc w.heap.size (fun _ => True) (.slice Ao9 y568.length co9) y568) ∧ Aside0 (wc.heap[gb571]? = some (.cells #[.int .i64 200, u572001, (.slice Ao9 y568.length co9)] 51 (0, 0))) ∧ Aside0 (Below w.heap.size w wc))
        case first =>
         have H := HC21.out
         clear HC21
         by_cases c22 : a2 = true
         ·subst c22
          rw [if_pos rfl] at H
          have H' := Aside0.mk H
          clear H
          go_wp2
          go_meet
          case rel => exact ⟨_, (decide ((wrap64 (Int.tmod a0 60)) > 0)), (by first | rfl | (simp; done) | (simp [*]; done)), H', ⟨by have := HK1.out; have := HJ17.out; first | omega | exact Nat.le_refl _⟩, ⟨by (with_reducible repeat (first | apply Kd.R_alloc | apply Kd.R_drewN | apply Kd.R_drew)); exact HO_572001.out⟩, ⟨by (with_reducible repeat (first | apply Kd.R_alloc | apply Kd.R_drewN | apply Kd.R_drew)); exact HO_572002.out⟩, ⟨by (with_reducible repeat (first | refine blk_drewN ?_ _ | refine blk_drew ?_ | refine blk_alloc ?_ _)); exact BK571.out⟩, ⟨by repeat (first | (with_reducible first | apply bA | apply bN | apply bD | refine below_set ?_ GE571.out) | exact HB.out)⟩⟩
         ·replace c22 := Bool.eq_false_iff.mpr c22
          subst c22
          rw [if_neg (show ¬ (false = true) by decide)] at H
          have H' := Aside0.mk H
          clear H
          go_wp2
          go_meet
          case rel => exact ⟨_, (false), (by first | rfl | (simp; done) | (simp [*]; done)), H', ⟨by have := HK1.out; have := HJ17.out; first | omega | exact Nat.le_refl _⟩, ⟨by (with_reducible repeat (first | apply Kd.R_alloc | apply Kd.R_drewN | apply Kd.R_drew)); exact HO_572001.out⟩, ⟨by (with_reducible repeat (first | apply Kd.R_alloc | apply Kd.R_drewN | apply Kd.R_drew)); exact HO_572002.out⟩, ⟨by (with_reducible repeat (first | refine blk_drewN ?_ _ | refine blk_drew ?_ | refine blk_alloc ?_ _)); exact BK571.out⟩, ⟨by repeat (first | (with_reducible first | apply bA | apply bN | apply bD | refine below_set ?_ GE571.out) | exact HB.out)⟩⟩
        case rest =>
         clear HC21
         try clear c1
         try clear c2
         try clear p2
         try clear c5
         try clear c5b0
         try clear c5b1
         try clear c6
         try clear c6b0
         try clear c6b1
         try clear p6
         try clear c9
         try clear c12
         try clear c12b0
         try clear c13
         try clear c19
         try clear c19b0
         try clear c22
         try clear hcz11_0
         try clear hcz11_1
         try clear hcz11_2
         try clear hcz14_0
         try clear hcz14_1
         try clear hcz14_2
         try clear hcz17_0
         try clear hcz17_1
         try clear hcz17_2
         try clear hcz20_0
         try clear hcz20_1
         try clear hcz20_2
         try clear hfz11_0
         try clear hfz11_1
         try clear hfz11_2
         try clear hfz14_0
         try clear hfz14_1
         try clear hfz14_2
         try clear hfz17_0
         try clear hfz17_1
         try clear hfz17_2
         try clear hfz20_0
         try clear hfz20_1
         try clear hfz20_2
         try clear p2
         try clear p6
         obtain ⟨kq, x44_20, rfl, HA, HJ20, HO_572001, HO_572002, BK571, HB⟩ := hcut
         cases kq with
         | zero => exact absurd HA.out (by simp [wicketmanlaw10_RespMany.j2])
         | succ kj20 =>
          have H := HA.out
          clear HA
          simp only [wicketmanlaw10_RespMany.j2] at H
          by_cases c23 : x44_20 = true
          ·subst c23
           rw [if_pos rfl] at H
           obtain ⟨ji24, hji24⟩ : ∃ j_ : Int, (wrap64 ((wrap64 (Int.tmod a0 60)) - 1)) = j_ := ⟨_, rfl⟩
           replace H : (if 0 ≤ (ji24) then (if (ji24) < (x572001_1.length : Int) then ((resp_Print.f 200 (x572001_1.set ((ji24) : Int).toNat (⟨(rd_T43 x572001_1 (ji24)).f0, (⟨#[97, 13, 10, 83, 101, 116, 45, 67, 111, 111, 107, 105, 101, 58, 32, 98]⟩ : ByteArray)⟩ : S43)) y568).bind fun bt576 => ((wicketmanlaw10_known.f).bind fun t580 => (if t580 = true then (if x10_17 = true then (if a2 = true then (if ((bt576.2 == 0) == (!(decide ((wrap64 (Int.tmod a0 60)) > 0)))) = true then (if bt576.2 = 3 then (some false) else (if bt576.2 = 0 then (some true) else (some ((bt576.1.length : Int) == 0)))) else (some false)) else (if ((bt576.2 == 0) == (!false)) = true then (if bt576.2 = 3 then (some false) else (if bt576.2 = 0 then (some true) else (some ((bt576.1.length : Int) == 0)))) else (some false))) else (if ((bt576.2 == 0) == false) = true then (if bt576.2 = 3 then (if bt576.2 = 0 then (some true) else (some ((bt576.1.length : Int) == 0))) else (if bt576.2 = 0 then (some true) else (some ((bt576.1.length : Int) == 0)))) else (some false))) else (some false)))) else (none)) else (none)) = some r := by first | (rw [hji24] at H; exact H) | (simp only [hji24] at H ⊢; exact H)
           have hji24w : (IntKind.i64.wrap ((wrap64 (Int.tmod a0 60)) - 1)) = ji24 := (i64_w _).trans hji24
           by_cases c25 : 0 ≤ (ji24)
           ·rw [if_pos c25] at H
            have c25b0 : decide (0 ≤ (ji24)) = true := decide_eq_true c25
            clear c25
            by_cases c26 : (ji24) < (x572001_1.length : Int)
            ·rw [if_pos c26] at H
             have c26b0 : decide ((ji24) < (x572001_1.length : Int)) = true := decide_eq_true c26
             clear c26
             obtain ⟨y575, hy575⟩ : ∃ y_ : List (S43), y_ = (x572001_1.set ((ji24) : Int).toNat (⟨(rd_T43 x572001_1 (ji24)).f0, (⟨#[97, 13, 10, 83, 101, 116, 45, 67, 111, 111, 107, 105, 101, 58, 32, 98]⟩ : ByteArray)⟩ : S43)) := ⟨_, rfl⟩
             replace H : ((resp_Print.f 200 y575 y568).bind fun bt576 => ((wicketmanlaw10_known.f).bind fun t580 => (if t580 = true then (if x10_17 = true then (if a2 = true then (if ((bt576.2 == 0) == (!(decide ((wrap64 (Int.tmod a0 60)) > 0)))) = true then (if bt576.2 = 3 then (some false) else (if bt576.2 = 0 then (some true) else (some ((bt576.1.length : Int) == 0)))) else (some false)) else (if ((bt576.2 == 0) == (!false)) = true then (if bt576.2 = 3 then (some false) else (if bt576.2 = 0 then (some true) else (some ((bt576.1.length : Int) == 0)))) else (some false))) else (if ((bt576.2 == 0) == false) = true then (if bt576.2 = 3 then (if bt576.2 = 0 then (some true) else (some ((bt576.1.length : Int) == 0))) else (if bt576.2 = 0 then (some true) else (some ((bt576.1.length : Int) == 0)))) else (some false))) else (some false)))) = some r := by first | (rw [hy575]; with_reducible exact H) | (have H2_ := (Option.bind_some _ _).symm.trans H; rw [hy575]; with_reducible exact H2_) | (have H2_ := (Option.bind_some _ _).symm.trans H; with_reducible exact H2_) | with_reducible exact H | (rw [hy575]; exact H) | exact H
             have Ny575 := Aside0.mk hy575
             clear hy575
             replace H := Option.bind_eq_some_iff.mp H
             obtain ⟨⟨t576, t579⟩, A280, H⟩ := H
             try dsimp only at H
             have A28 := Aside0.mk A280
             clear A280
             replace H := Option.bind_eq_some_iff.mp H
             obtain ⟨t580, A290, H⟩ := H
             try dsimp only at H
             have A29 := Aside0.mk A290
             clear A290
             by_cases c30 : t580 = true
             ·subst c30
              rw [if_pos rfl] at H
              by_cases c31 : x10_17 = true
              ·subst c31
               rw [if_pos rfl] at H
               by_cases c32 : a2 = true
               ·subst c32
                rw [if_pos rfl] at H
                by_cases c33 : ((t579 == 0) == (!(decide ((wrap64 (Int.tmod a0 60)) > 0)))) = true
                ·rw [if_pos c33] at H
                 have c33b0 : ((t579 == 0) == (!(decide ((wrap64 (Int.tmod a0 60)) > 0)))) = true := c33
                 (try (have c33b1 : decide ((t579 == 0) = (!(decide ((wrap64 (Int.tmod a0 60)) > 0)))) = true := by simpa using c33))
                 (try (have c33b2 : ((t579 == 0) == (!(decide ((wrap64 (Int.tmod a0 60)) > 0)))) = true := by simpa using c33))
                 clear c33
                 by_cases c34 : t579 = 3
                 ·rw [if_pos c34] at H
                  have c34b0 : (t579 == 3) = true := beq_iff_eq.mpr c34
                  have c34b1 : (t579 != 3) = false := bne_eq_false_iff_eq.mpr c34
                  clear c34
                  exact absurd (Option.some.inj H) (by rw [hTR.out]; decide)
                 ·rw [if_neg c34] at H
                  have c34b0 : (t579 == 3) = false := beq_eq_false_iff_ne.mpr c34
                  have c34b1 : (t579 != 3) = true := bne_iff_ne.mpr c34
                  by_cases c35 : t579 = 0
                  ·rw [if_pos c35] at H
                   have c35b0 : (t579 == 0) = true := beq_iff_eq.mpr c35
                   have c35b1 : (t579 != 0) = false := bne_eq_false_iff_eq.mpr c35
                   have c35k := beqnot c33b0; rw [c35b0] at c35k; simp only [Bool.not_true, Bool.not_false] at c35k
                   clear c35
                   obtain rfl := Option.some.inj H
                   have hcz36_0 : wc.cell? ⟨gb571, 0, none⟩ = some (.int .i64 200) := (blk_cell BK571.out 0).trans rfl
                   have hcz36_1 : wc.cell? ⟨gb571, 1, none⟩ = some (u572001) := (blk_cell BK571.out 1).trans rfl
                   have hcz36_2 : wc.cell? ⟨gb571, 2, none⟩ = some (.slice Ao9 y568.length co9) := (blk_cell BK571.out 2).trans rfl
                   have hfz36_0 := blk_frozen BK571.out 0
                   have hfz36_1 := blk_frozen BK571.out 1
                   have hfz36_2 := blk_frozen BK571.out 2
                   have p27 : 0 ≤ ((ji24) : Int) := of_decide_eq_true (by first | (with_reducible assumption) | assumption)
                   have q27 : ((ji24) : Int) < ((x572001_1.length : Int) : Int) := of_decide_eq_true (by first | (with_reducible assumption) | assumption)
                   obtain ⟨go27, co27, eo27, gb27, gl27, cl27, HG27⟩ := Kd.R_form HO_572001.out (by omega)
                   (first | cases eo27 | (injection eo27 with ea_ en_ ec_; (first | subst ea_ | (injection ea_ with ea_; subst ea_)); subst ec_; clear en_))
                   have GB27 := Aside0.mk gb27
                   have GG27 := Aside0.mk HG27
                   clear gb27 gl27 HG27
                   obtain ⟨ce27, hcl27, hM27, hcc27, hfr27⟩ := Kd.R_elem HO_572001.out z43 ((ji24) : Int) p27 q27
                   obtain rfl := k43_openM hM27
                   have hx27_0 : wc.cell? ⟨go27, ((ji24) : Int).toNat * 2, none⟩ = some (.string ((rd_T43 x572001_1 (ji24)).f0)) := hcc27 0 _ rfl
                   have hx27_1 : wc.cell? ⟨go27, ((ji24) : Int).toNat * 2 + 1, none⟩ = some (.string ((rd_T43 x572001_1 (ji24)).f1)) := hcc27 1 _ rfl
                   have hf27_0 : wc.frozen? ⟨go27, ((ji24) : Int).toNat * 2, none⟩ = false := hfr27 0
                   have hf27_1 : wc.frozen? ⟨go27, ((ji24) : Int).toNat * 2 + 1, none⟩ = false := hfr27 1
                   clear hcl27 hcc27 hfr27 hM27
                   replace p27 := eq_true p27
                   replace q27 := eq_true q27
                   have HX37 := Aside0.mk (show Kd.R k43 43 wc w.heap.size (fun _ => True) (.slice (some ⟨go27, 0, none⟩) x572001_1.length co27) x572001_1 from (by (with_reducible repeat (first | apply Kd.R_alloc | apply Kd.R_drewN | apply Kd.R_drew)); exact HO_572001.out))
                   obtain ⟨ce37, hcl37, hM37, hcc37, hfr37⟩ := Kd.R_elem HX37.out z43 ((ji24) : Int) (of_decide_eq_true (by first | (with_reducible assumption) | assumption)) (by have h_ : ((ji24) : Int) < ((x572001_1.length : Int) : Int) := of_decide_eq_true (by first | (with_reducible assumption) | assumption); first | exact h_ | (have e_ := (Kd.R_reads' HO_572001.out).1; omega) | simpa using h_)
                   obtain rfl := k43_openM hM37
                   have HP37 := Kd.R_seg HX37.out ((ji24) : Int) (of_decide_eq_true (by first | (with_reducible assumption) | assumption)) (by have h_ : ((ji24) : Int) < ((x572001_1.length : Int) : Int) := of_decide_eq_true (by first | (with_reducible assumption) | assumption); first | exact h_ | (have e_ := (Kd.R_reads' HO_572001.out).1; omega) | simpa using h_) (seg := [.string (⟨#[97, 13, 10, 83, 101, 116, 45, 67, 111, 111, 107, 105, 101, 58, 32, 98]⟩ : ByteArray)]) (j := 1) hcl37 hcc37 (show 2 ≤ 2 from by decide) (x' := (⟨(rd_T43 x572001_1 (ji24)).f0, (⟨#[97, 13, 10, 83, 101, 116, 45, 67, 111, 111, 107, 105, 101, 58, 32, 98]⟩ : ByteArray)⟩ : S43)) (k43_mkM _ _ _ (⟨(rd_T43 x572001_1 (ji24)).f0, (⟨#[97, 13, 10, 83, 101, 116, 45, 67, 111, 111, 107, 105, 101, 58, 32, 98]⟩ : ByteArray)⟩ : S43) ) (fun _ hk => hk)
                   have hx37_1 := hcc37 1 _ rfl
                   (try simp only [show (k43).sz = 2 from rfl, Nat.mul_one, Nat.add_zero] at hx37_1)
                   have hf37_1 := hfr37 1
                   (try simp only [show (k43).sz = 2 from rfl, Nat.mul_one, Nat.add_zero] at hf37_1)
                   clear hcl37 hcc37 hfr37 hM37
                   go_wp2_with (first | ((with_reducible refine gate_store (t := 9) (p := 50) rfl ?_); refine store_event (t := 9) (p := 50) (v := ?vo_w38) (w1 := (wc.setCell ⟨go27, ((ji24) : Int).toNat * 2 + 1, none⟩ (.string (⟨#[97, 13, 10, 83, 101, 116, 45, 67, 111, 111, 107, 105, 101, 58, 32, 98]⟩ : ByteArray)))) ?hg ?ho ?hn ?hr ?_; (case ho => rfl); (case hg => rfl); (case hn => rfl); (case hr => first | (go_simp; done) | (go_simp; rfl)); intro w38 hw; have hg : wc.grownBy w38 (some go27) := (by rw [hw]; exact HP37.2); have hp_ : Kd.R k43 43 w38 w.heap.size (fun _ => True) (.slice (some ⟨go27, 0, none⟩) x572001_1.length co27) y575 := (by rw [hw, Ny575.out]; exact HP37.1); clear HP37; have n0_ := Aside0.mk (hp_); have n1_ := Aside0.mk (Kd.R_over' (v := (.slice (some ⟨go27, 0, none⟩) x572001_1.length co27)) (by (with_reducible repeat (first | apply Kd.R_alloc | apply Kd.R_drewN | apply Kd.R_drew)); exact HO_572002.out) (Kd.R_typed HO_572001.out) (by decide) hg); have n2_ := Aside0.mk (blk_grown (g := gb571) (o := .cells #[.int .i64 200, .slice (some ⟨go27, 0, none⟩) x572001_1.length co27, .slice Ao9 y568.length co9] 51 (0, 0)) (by (with_reducible repeat (first | refine blk_drewN ?_ _ | refine blk_drew ?_ | refine blk_alloc ?_ _)); exact BK571.out) hg (Kd.R_ne HO_572001.out BK571.out (by decide))); have n3_ := Aside0.mk ((by rw [hw]; exact below_set (HB.out) GB27.out : Below w.heap.size w w38)); clear HO_572001; clear HO_572002; clear BK571; clear HB; have HO_572001 := n0_; have HO_572002 := n1_; have BK571 := n2_; have HB := n3_; clear n0_ n1_ n2_ n3_; clear hg hw hp_; have hcz39_0 : w38.cell? ⟨gb571, 0, none⟩ = some (.int .i64 200) := (blk_cell BK571.out 0).trans rfl; have hcz39_1 : w38.cell? ⟨gb571, 1, none⟩ = some (.slice (some ⟨go27, 0, none⟩) x572001_1.length co27) := (blk_cell BK571.out 1).trans rfl; have hcz39_2 : w38.cell? ⟨gb571, 2, none⟩ = some (.slice Ao9 y568.length co9) := (blk_cell BK571.out 2).trans rfl; have hfz39_0 := blk_frozen BK571.out 0; have hfz39_1 := blk_frozen BK571.out 1; have hfz39_2 := blk_frozen BK571.out 2) | ((with_reducible refine gate_callee (f := 27) rfl ?_); refine goesL_ (some 53) rfl rfl Tryd.func27 (by kernel_rfl) rfl #[.agg #[.int .i64 200, .slice (some ⟨go27, 0, none⟩) y575.length co27, .slice Ao9 y568.length co9]] rfl (by (try simp only [List.map_toArray, List.map_cons, List.map_nil]); first | done | (rw [show y575.length = x572001_1.length from (Kd.R_reads' HO_572001.out).1.symm] <;> rfl) | rfl | (simp only [List.length_drop, List.length_take]; rfl)) ?_; (with_reducible refine (resp_Print.calls 200 _ _ y575 _ _ y568 t576 t579 _ ?side1 ?side2 ?side3 ?side4 (by first | exact hT | (refine Tb.of_below hT ?_; repeat (first | (with_reducible first | apply bA | apply bN | apply bD) | exact HB.out | refine Below.setCell ?_ (Aside0.out (by assumption)) _)) | (refine Tb.of_below hT ?_; assumption)) A28.out).mono ?_); (case side1 => repeat (first | exact (Kd.R_reads' HO_572001.out).2.2 | (with_reducible refine Kd.C_alloc ?_ _) | (with_reducible refine Kd.C_drewN ?_ _) | (with_reducible refine Kd.C_drew ?_))); (case side2 => rw [show y575.length = x572001_1.length from (Kd.R_reads' HO_572001.out).1.symm]; exact (Kd.R_reads' HO_572001.out).2.1); (case side3 => repeat (first | exact (Kd.R_reads' HO_572002.out).2.2 | (with_reducible refine Kd.C_alloc ?_ _) | (with_reducible refine Kd.C_drewN ?_ _) | (with_reducible refine Kd.C_drew ?_))); (case side4 => exact (Kd.R_reads' HO_572002.out).2.1); rintro e w40 ⟨v577, rfl, ho0, hb⟩; refine ⟨_, rfl, ?_⟩; have n0_ := Aside0.mk (Kd.R_below (by (with_reducible repeat (first | apply Kd.R_alloc | apply Kd.R_drewN | apply Kd.R_drew)); exact HO_572001.out) hb); have n1_ := Aside0.mk (Kd.R_elder' (by (with_reducible repeat (first | apply Kd.R_alloc | apply Kd.R_drewN | apply Kd.R_drew)); exact HO_572002.out) (Kd.R_base ho0) hb); have n2_ := Aside0.mk (Kd.R_lower (Kd.R_new' ho0 (Kd.R_lt (by (with_reducible repeat (first | apply Kd.R_alloc | apply Kd.R_drewN | apply Kd.R_drew)); exact HO_572002.out))) (below_size (by repeat (first | (with_reducible first | apply bA | apply bN | apply bD | refine below_set ?_ GE571.out) | exact HB.out)))); have n3_ := Aside0.mk (blk_below (g := gb571) (o := .cells #[.int .i64 200, .slice (some ⟨go27, 0, none⟩) x572001_1.length co27, .slice Ao9 y568.length co9] 51 (0, 0)) (by (with_reducible repeat (first | refine blk_drewN ?_ _ | refine blk_drew ?_ | refine blk_alloc ?_ _)); exact BK571.out) hb); have n4_ := Aside0.mk (below_step (by repeat (first | (with_reducible first | apply bA | apply bN | apply bD | refine below_set ?_ GE571.out) | exact HB.out)) hb); clear HO_572001; clear HO_572002; clear BK571; clear HB; have HO_572001 := n0_; have HO_572002 := n1_; have HO578 := n2_; have BK571 := n3_; have HB := n4_; clear n0_ n1_ n2_ n3_ n4_; (try clear hb); (try clear hb2); (try clear hk); (try clear hi); (try clear ho0)) | ((with_reducible refine gate_callee (f := 28) rfl ?_); refine goesL_ (some 56) rfl rfl Tryd.func28 (by kernel_rfl) rfl #[] rfl (by (try simp only [List.map_toArray, List.map_cons, List.map_nil]); first | done | rfl | (simp only [List.length_drop, List.length_take]; rfl)) ?_; (with_reducible refine (wicketmanlaw10_known.calls  true _ (by first | exact hT | (refine Tb.of_below hT ?_; repeat (first | (with_reducible first | apply bA | apply bN | apply bD) | exact HB.out | refine Below.setCell ?_ (Aside0.out (by assumption)) _)) | (refine Tb.of_below hT ?_; assumption)) (by first | exact hTR | exact Aside0.mk rfl | exact Aside0.mk (by assumption) | exact Aside0.mk (of_eq_true (by assumption)) | exact Aside0.mk (wicketmanlaw10_known.true_ _ A29.out) | exact Aside0.mk (by simp_all)) A29.out).mono ?_); rintro e w41 ⟨rfl, hb⟩; refine ⟨_, rfl, ?_⟩; have n0_ := Aside0.mk (Kd.R_below (by (with_reducible repeat (first | apply Kd.R_alloc | apply Kd.R_drewN | apply Kd.R_drew)); exact HO_572001.out) hb); have n1_ := Aside0.mk (Kd.R_below (by (with_reducible repeat (first | apply Kd.R_alloc | apply Kd.R_drewN | apply Kd.R_drew)); exact HO_572002.out) hb); have n2_ := Aside0.mk (Kd.R_below (by (with_reducible repeat (first | apply Kd.R_alloc | apply Kd.R_drewN | apply Kd.R_drew)); exact HO578.out) hb); have n3_ := Aside0.mk (blk_below (g := gb571) (o := .cells #[.int .i64 200, .slice (some ⟨go27, 0, none⟩) x572001_1.length co27, .slice Ao9 y568.length co9] 51 (0, 0)) (by (with_reducible repeat (first | refine blk_drewN ?_ _ | refine blk_drew ?_ | refine blk_alloc ?_ _)); exact BK571.out) hb); have n4_ := Aside0.mk (below_step (by repeat (first | (with_reducible first | apply bA | apply bN | apply bD | refine below_set ?_ GE571.out) | exact HB.out)) hb); clear HO_572001; clear HO_572002; clear HO578; clear BK571; clear HB; have HO_572001 := n0_; have HO_572002 := n1_; have HO578 := n2_; have BK571 := n3_; have HB := n4_; clear n0_ n1_ n2_ n3_ n4_; (try clear hb); (try clear hb2); (try clear hk); (try clear hi)))
                   go_ret
                   exact ⟨by first | rfl | (simp [errW_none, errW_some] <;> rfl) | (simp only [← hji4, ← hji24]; first | rfl | (simp [errW_none, errW_some] <;> rfl)) | (simp [*, errW_none, errW_some] <;> rfl), by repeat (first | (with_reducible first | apply bA | apply bN | apply bD | refine below_set ?_ GE571.out) | exact HB.out)⟩
                  ·rw [if_neg c35] at H
                   have c35b0 : (t579 == 0) = false := beq_eq_false_iff_ne.mpr c35
                   have c35b1 : (t579 != 0) = true := bne_iff_ne.mpr c35
                   have c35k := beqnot c33b0; rw [c35b0] at c35k; simp only [Bool.not_true, Bool.not_false] at c35k
                   obtain rfl := Option.some.inj H
                   have hcz42_0 : wc.cell? ⟨gb571, 0, none⟩ = some (.int .i64 200) := (blk_cell BK571.out 0).trans rfl
                   have hcz42_1 : wc.cell? ⟨gb571, 1, none⟩ = some (u572001) := (blk_cell BK571.out 1).trans rfl
                   have hcz42_2 : wc.cell? ⟨gb571, 2, none⟩ = some (.slice Ao9 y568.length co9) := (blk_cell BK571.out 2).trans rfl
                   have hfz42_0 := blk_frozen BK571.out 0
                   have hfz42_1 := blk_frozen BK571.out 1
                   have hfz42_2 := blk_frozen BK571.out 2
                   have p27 : 0 ≤ ((ji24) : Int) := of_decide_eq_true (by first | (with_reducible assumption) | assumption)
                   have q27 : ((ji24) : Int) < ((x572001_1.length : Int) : Int) := of_decide_eq_true (by first | (with_reducible assumption) | assumption)
                   obtain ⟨go27, co27, eo27, gb27, gl27, cl27, HG27⟩ := Kd.R_form HO_572001.out (by omega)
                   (first | cases eo27 | (injection eo27 with ea_ en_ ec_; (first | subst ea_ | (injection ea_ with ea_; subst ea_)); subst ec_; clear en_))
                   have GB27 := Aside0.mk gb27
                   have GG27 := Aside0.mk HG27
                   clear gb27 gl27 HG27
                   obtain ⟨ce27, hcl27, hM27, hcc27, hfr27⟩ := Kd.R_elem HO_572001.out z43 ((ji24) : Int) p27 q27
                   obtain rfl := k43_openM hM27
                   have hx27_0 : wc.cell? ⟨go27, ((ji24) : Int).toNat * 2, none⟩ = some (.string ((rd_T43 x572001_1 (ji24)).f0)) := hcc27 0 _ rfl
                   have hx27_1 : wc.cell? ⟨go27, ((ji24) : Int).toNat * 2 + 1, none⟩ = some (.string ((rd_T43 x572001_1 (ji24)).f1)) := hcc27 1 _ rfl
                   have hf27_0 : wc.frozen? ⟨go27, ((ji24) : Int).toNat * 2, none⟩ = false := hfr27 0
                   have hf27_1 : wc.frozen? ⟨go27, ((ji24) : Int).toNat * 2 + 1, none⟩ = false := hfr27 1
                   clear hcl27 hcc27 hfr27 hM27
                   replace p27 := eq_true p27
                   replace q27 := eq_true q27
                   have HX43 := Aside0.mk (show Kd.R k43 43 wc w.heap.size (fun _ => True) (.slice (some ⟨go27, 0, none⟩) x572001_1.length co27) x572001_1 from (by (with_reducible repeat (first | apply Kd.R_alloc | apply Kd.R_drewN | apply Kd.R_drew)); exact HO_572001.out))
                   obtain ⟨ce43, hcl43, hM43, hcc43, hfr43⟩ := Kd.R_elem HX43.out z43 ((ji24) : Int) (of_decide_eq_true (by first | (with_reducible assumption) | assumption)) (by have h_ : ((ji24) : Int) < ((x572001_1.length : Int) : Int) := of_decide_eq_true (by first | (with_reducible assumption) | assumption); first | exact h_ | (have e_ := (Kd.R_reads' HO_572001.out).1; omega) | simpa using h_)
                   obtain rfl := k43_openM hM43
                   have HP43 := Kd.R_seg HX43.out ((ji24) : Int) (of_decide_eq_true (by first | (with_reducible assumption) | assumption)) (by have h_ : ((ji24) : Int) < ((x572001_1.length : Int) : Int) := of_decide_eq_true (by first | (with_reducible assumption) | assumption); first | exact h_ | (have e_ := (Kd.R_reads' HO_572001.out).1; omega) | simpa using h_) (seg := [.string (⟨#[97, 13, 10, 83, 101, 116, 45, 67, 111, 111, 107, 105, 101, 58, 32, 98]⟩ : ByteArray)]) (j := 1) hcl43 hcc43 (show 2 ≤ 2 from by decide) (x' := (⟨(rd_T43 x572001_1 (ji24)).f0, (⟨#[97, 13, 10, 83, 101, 116, 45, 67, 111, 111, 107, 105, 101, 58, 32, 98]⟩ : ByteArray)⟩ : S43)) (k43_mkM _ _ _ (⟨(rd_T43 x572001_1 (ji24)).f0, (⟨#[97, 13, 10, 83, 101, 116, 45, 67, 111, 111, 107, 105, 101, 58, 32, 98]⟩ : ByteArray)⟩ : S43) ) (fun _ hk => hk)
                   have hx43_1 := hcc43 1 _ rfl
                   (try simp only [show (k43).sz = 2 from rfl, Nat.mul_one, Nat.add_zero] at hx43_1)
                   have hf43_1 := hfr43 1
                   (try simp only [show (k43).sz = 2 from rfl, Nat.mul_one, Nat.add_zero] at hf43_1)
                   clear hcl43 hcc43 hfr43 hM43
                   go_wp2_with (first | ((with_reducible refine gate_store (t := 9) (p := 50) rfl ?_); refine store_event (t := 9) (p := 50) (v := ?vo_w44) (w1 := (wc.setCell ⟨go27, ((ji24) : Int).toNat * 2 + 1, none⟩ (.string (⟨#[97, 13, 10, 83, 101, 116, 45, 67, 111, 111, 107, 105, 101, 58, 32, 98]⟩ : ByteArray)))) ?hg ?ho ?hn ?hr ?_; (case ho => rfl); (case hg => rfl); (case hn => rfl); (case hr => first | (go_simp; done) | (go_simp; rfl)); intro w44 hw; have hg : wc.grownBy w44 (some go27) := (by rw [hw]; exact HP43.2); have hp_ : Kd.R k43 43 w44 w.heap.size (fun _ => True) (.slice (some ⟨go27, 0, none⟩) x572001_1.length co27) y575 := (by rw [hw, Ny575.out]; exact HP43.1); clear HP43; have n0_ := Aside0.mk (hp_); have n1_ := Aside0.mk (Kd.R_over' (v := (.slice (some ⟨go27, 0, none⟩) x572001_1.length co27)) (by (with_reducible repeat (first | apply Kd.R_alloc | apply Kd.R_drewN | apply Kd.R_drew)); exact HO_572002.out) (Kd.R_typed HO_572001.out) (by decide) hg); have n2_ := Aside0.mk (blk_grown (g := gb571) (o := .cells #[.int .i64 200, .slice (some ⟨go27, 0, none⟩) x572001_1.length co27, .slice Ao9 y568.length co9] 51 (0, 0)) (by (with_reducible repeat (first | refine blk_drewN ?_ _ | refine blk_drew ?_ | refine blk_alloc ?_ _)); exact BK571.out) hg (Kd.R_ne HO_572001.out BK571.out (by decide))); have n3_ := Aside0.mk ((by rw [hw]; exact below_set (HB.out) GB27.out : Below w.heap.size w w44)); clear HO_572001; clear HO_572002; clear BK571; clear HB; have HO_572001 := n0_; have HO_572002 := n1_; have BK571 := n2_; have HB := n3_; clear n0_ n1_ n2_ n3_; clear hg hw hp_; have hcz45_0 : w44.cell? ⟨gb571, 0, none⟩ = some (.int .i64 200) := (blk_cell BK571.out 0).trans rfl; have hcz45_1 : w44.cell? ⟨gb571, 1, none⟩ = some (.slice (some ⟨go27, 0, none⟩) x572001_1.length co27) := (blk_cell BK571.out 1).trans rfl; have hcz45_2 : w44.cell? ⟨gb571, 2, none⟩ = some (.slice Ao9 y568.length co9) := (blk_cell BK571.out 2).trans rfl; have hfz45_0 := blk_frozen BK571.out 0; have hfz45_1 := blk_frozen BK571.out 1; have hfz45_2 := blk_frozen BK571.out 2) | ((with_reducible refine gate_callee (f := 27) rfl ?_); refine goesL_ (some 53) rfl rfl Tryd.func27 (by kernel_rfl) rfl #[.agg #[.int .i64 200, .slice (some ⟨go27, 0, none⟩) y575.length co27, .slice Ao9 y568.length co9]] rfl (by (try simp only [List.map_toArray, List.map_cons, List.map_nil]); first | done | (rw [show y575.length = x572001_1.length from (Kd.R_reads' HO_572001.out).1.symm] <;> rfl) | rfl | (simp only [List.length_drop, List.length_take]; rfl)) ?_; (with_reducible refine (resp_Print.calls 200 _ _ y575 _ _ y568 t576 t579 _ ?side1 ?side2 ?side3 ?side4 (by first | exact hT | (refine Tb.of_below hT ?_; repeat (first | (with_reducible first | apply bA | apply bN | apply bD) | exact HB.out | refine Below.setCell ?_ (Aside0.out (by assumption)) _)) | (refine Tb.of_below hT ?_; assumption)) A28.out).mono ?_); (case side1 => repeat (first | exact (Kd.R_reads' HO_572001.out).2.2 | (with_reducible refine Kd.C_alloc ?_ _) | (with_reducible refine Kd.C_drewN ?_ _) | (with_reducible refine Kd.C_drew ?_))); (case side2 => rw [show y575.length = x572001_1.length from (Kd.R_reads' HO_572001.out).1.symm]; exact (Kd.R_reads' HO_572001.out).2.1); (case side3 => repeat (first | exact (Kd.R_reads' HO_572002.out).2.2 | (with_reducible refine Kd.C_alloc ?_ _) | (with_reducible refine Kd.C_drewN ?_ _) | (with_reducible refine Kd.C_drew ?_))); (case side4 => exact (Kd.R_reads' HO_572002.out).2.1); rintro e w46 ⟨v577, rfl, ho0, hb⟩; refine ⟨_, rfl, ?_⟩; have n0_ := Aside0.mk (Kd.R_below (by (with_reducible repeat (first | apply Kd.R_alloc | apply Kd.R_drewN | apply Kd.R_drew)); exact HO_572001.out) hb); have n1_ := Aside0.mk (Kd.R_elder' (by (with_reducible repeat (first | apply Kd.R_alloc | apply Kd.R_drewN | apply Kd.R_drew)); exact HO_572002.out) (Kd.R_base ho0) hb); have n2_ := Aside0.mk (Kd.R_lower (Kd.R_new' ho0 (Kd.R_lt (by (with_reducible repeat (first | apply Kd.R_alloc | apply Kd.R_drewN | apply Kd.R_drew)); exact HO_572002.out))) (below_size (by repeat (first | (with_reducible first | apply bA | apply bN | apply bD | refine below_set ?_ GE571.out) | exact HB.out)))); have n3_ := Aside0.mk (blk_below (g := gb571) (o := .cells #[.int .i64 200, .slice (some ⟨go27, 0, none⟩) x572001_1.length co27, .slice Ao9 y568.length co9] 51 (0, 0)) (by (with_reducible repeat (first | refine blk_drewN ?_ _ | refine blk_drew ?_ | refine blk_alloc ?_ _)); exact BK571.out) hb); have n4_ := Aside0.mk (below_step (by repeat (first | (with_reducible first | apply bA | apply bN | apply bD | refine below_set ?_ GE571.out) | exact HB.out)) hb); clear HO_572001; clear HO_572002; clear BK571; clear HB; have HO_572001 := n0_; have HO_572002 := n1_; have HO578 := n2_; have BK571 := n3_; have HB := n4_; clear n0_ n1_ n2_ n3_ n4_; (try clear hb); (try clear hb2); (try clear hk); (try clear hi); (try clear ho0)) | ((with_reducible refine gate_callee (f := 28) rfl ?_); refine goesL_ (some 56) rfl rfl Tryd.func28 (by kernel_rfl) rfl #[] rfl (by (try simp only [List.map_toArray, List.map_cons, List.map_nil]); first | done | rfl | (simp only [List.length_drop, List.length_take]; rfl)) ?_; (with_reducible refine (wicketmanlaw10_known.calls  true _ (by first | exact hT | (refine Tb.of_below hT ?_; repeat (first | (with_reducible first | apply bA | apply bN | apply bD) | exact HB.out | refine Below.setCell ?_ (Aside0.out (by assumption)) _)) | (refine Tb.of_below hT ?_; assumption)) (by first | exact hTR | exact Aside0.mk rfl | exact Aside0.mk (by assumption) | exact Aside0.mk (of_eq_true (by assumption)) | exact Aside0.mk (wicketmanlaw10_known.true_ _ A29.out) | exact Aside0.mk (by simp_all)) A29.out).mono ?_); rintro e w47 ⟨rfl, hb⟩; refine ⟨_, rfl, ?_⟩; have n0_ := Aside0.mk (Kd.R_below (by (with_reducible repeat (first | apply Kd.R_alloc | apply Kd.R_drewN | apply Kd.R_drew)); exact HO_572001.out) hb); have n1_ := Aside0.mk (Kd.R_below (by (with_reducible repeat (first | apply Kd.R_alloc | apply Kd.R_drewN | apply Kd.R_drew)); exact HO_572002.out) hb); have n2_ := Aside0.mk (Kd.R_below (by (with_reducible repeat (first | apply Kd.R_alloc | apply Kd.R_drewN | apply Kd.R_drew)); exact HO578.out) hb); have n3_ := Aside0.mk (blk_below (g := gb571) (o := .cells #[.int .i64 200, .slice (some ⟨go27, 0, none⟩) x572001_1.length co27, .slice Ao9 y568.length co9] 51 (0, 0)) (by (with_reducible repeat (first | refine blk_drewN ?_ _ | refine blk_drew ?_ | refine blk_alloc ?_ _)); exact BK571.out) hb); have n4_ := Aside0.mk (below_step (by repeat (first | (with_reducible first | apply bA | apply bN | apply bD | refine below_set ?_ GE571.out) | exact HB.out)) hb); clear HO_572001; clear HO_572002; clear HO578; clear BK571; clear HB; have HO_572001 := n0_; have HO_572002 := n1_; have HO578 := n2_; have BK571 := n3_; have HB := n4_; clear n0_ n1_ n2_ n3_ n4_; (try clear hb); (try clear hb2); (try clear hk); (try clear hi); obtain ⟨Ao48, co48, eo48⟩ := Kd.R_slice HO578.out; subst eo48))
                   go_ret
                   exact ⟨by first | rfl | (simp [errW_none, errW_some] <;> rfl) | (simp only [← hji4, ← hji24]; first | rfl | (simp [errW_none, errW_some] <;> rfl)) | (simp [*, errW_none, errW_some] <;> rfl), by repeat (first | (with_reducible first | apply bA | apply bN | apply bD | refine below_set ?_ GE571.out) | exact HB.out)⟩
                ·rw [if_neg c33] at H
                 have c33b0 : ((t579 == 0) == (!(decide ((wrap64 (Int.tmod a0 60)) > 0)))) = false := by simpa using c33
                 (try (have c33b1 : decide ((t579 == 0) = (!(decide ((wrap64 (Int.tmod a0 60)) > 0)))) = false := by simpa using c33))
                 (try (have c33b2 : ((t579 == 0) == (!(decide ((wrap64 (Int.tmod a0 60)) > 0)))) = false := by simpa using c33))
                 (try (have c33b3 : ¬ ((t579 == 0) = (!(decide ((wrap64 (Int.tmod a0 60)) > 0)))) := by simpa using c33))
                 clear c33
                 exact absurd (Option.some.inj H) (by rw [hTR.out]; decide)
               ·replace c32 := Bool.eq_false_iff.mpr c32
                subst c32
                rw [if_neg (show ¬ (false = true) by decide)] at H
                by_cases c49 : ((t579 == 0) == (!false)) = true
                ·rw [if_pos c49] at H
                 have c49b0 : ((t579 == 0) == (!false)) = true := c49
                 (try (have c49b1 : decide ((t579 == 0) = (!false)) = true := by simpa using c49))
                 (try (have c49b2 : ((t579 == 0) == (!false)) = true := by simpa using c49))
                 clear c49
                 by_cases c50 : t579 = 3
                 ·rw [if_pos c50] at H
                  have c50b0 : (t579 == 3) = true := beq_iff_eq.mpr c50
                  have c50b1 : (t579 != 3) = false := bne_eq_false_iff_eq.mpr c50
                  clear c50
                  exact absurd (Option.some.inj H) (by rw [hTR.out]; decide)
                 ·rw [if_neg c50] at H
                  have c50b0 : (t579 == 3) = false := beq_eq_false_iff_ne.mpr c50
                  have c50b1 : (t579 != 3) = true := bne_iff_ne.mpr c50
                  by_cases c51 : t579 = 0
                  ·rw [if_pos c51] at H
                   have c51b0 : (t579 == 0) = true := beq_iff_eq.mpr c51
                   have c51b1 : (t579 != 0) = false := bne_eq_false_iff_eq.mpr c51
                   clear c51
                   obtain rfl := Option.some.inj H
                   have hcz52_0 : wc.cell? ⟨gb571, 0, none⟩ = some (.int .i64 200) := (blk_cell BK571.out 0).trans rfl
                   have hcz52_1 : wc.cell? ⟨gb571, 1, none⟩ = some (u572001) := (blk_cell BK571.out 1).trans rfl
                   have hcz52_2 : wc.cell? ⟨gb571, 2, none⟩ = some (.slice Ao9 y568.length co9) := (blk_cell BK571.out 2).trans rfl
                   have hfz52_0 := blk_frozen BK571.out 0
                   have hfz52_1 := blk_frozen BK571.out 1
                   have hfz52_2 := blk_frozen BK571.out 2
                   have p27 : 0 ≤ ((ji24) : Int) := of_decide_eq_true (by first | (with_reducible assumption) | assumption)
                   have q27 : ((ji24) : Int) < ((x572001_1.length : Int) : Int) := of_decide_eq_true (by first | (with_reducible assumption) | assumption)
                   obtain ⟨go27, co27, eo27, gb27, gl27, cl27, HG27⟩ := Kd.R_form HO_572001.out (by omega)
                   (first | cases eo27 | (injection eo27 with ea_ en_ ec_; (first | subst ea_ | (injection ea_ with ea_; subst ea_)); subst ec_; clear en_))
                   have GB27 := Aside0.mk gb27
                   have GG27 := Aside0.mk HG27
                   clear gb27 gl27 HG27
                   obtain ⟨ce27, hcl27, hM27, hcc27, hfr27⟩ := Kd.R_elem HO_572001.out z43 ((ji24) : Int) p27 q27
                   obtain rfl := k43_openM hM27
                   have hx27_0 : wc.cell? ⟨go27, ((ji24) : Int).toNat * 2, none⟩ = some (.string ((rd_T43 x572001_1 (ji24)).f0)) := hcc27 0 _ rfl
                   have hx27_1 : wc.cell? ⟨go27, ((ji24) : Int).toNat * 2 + 1, none⟩ = some (.string ((rd_T43 x572001_1 (ji24)).f1)) := hcc27 1 _ rfl
                   have hf27_0 : wc.frozen? ⟨go27, ((ji24) : Int).toNat * 2, none⟩ = false := hfr27 0
                   have hf27_1 : wc.frozen? ⟨go27, ((ji24) : Int).toNat * 2 + 1, none⟩ = false := hfr27 1
                   clear hcl27 hcc27 hfr27 hM27
                   replace p27 := eq_true p27
                   replace q27 := eq_true q27
                   have HX53 := Aside0.mk (show Kd.R k43 43 wc w.heap.size (fun _ => True) (.slice (some ⟨go27, 0, none⟩) x572001_1.length co27) x572001_1 from (by (with_reducible repeat (first | apply Kd.R_alloc | apply Kd.R_drewN | apply Kd.R_drew)); exact HO_572001.out))
                   obtain ⟨ce53, hcl53, hM53, hcc53, hfr53⟩ := Kd.R_elem HX53.out z43 ((ji24) : Int) (of_decide_eq_true (by first | (with_reducible assumption) | assumption)) (by have h_ : ((ji24) : Int) < ((x572001_1.length : Int) : Int) := of_decide_eq_true (by first | (with_reducible assumption) | assumption); first | exact h_ | (have e_ := (Kd.R_reads' HO_572001.out).1; omega) | simpa using h_)
                   obtain rfl := k43_openM hM53
                   have HP53 := Kd.R_seg HX53.out ((ji24) : Int) (of_decide_eq_true (by first | (with_reducible assumption) | assumption)) (by have h_ : ((ji24) : Int) < ((x572001_1.length : Int) : Int) := of_decide_eq_true (by first | (with_reducible assumption) | assumption); first | exact h_ | (have e_ := (Kd.R_reads' HO_572001.out).1; omega) | simpa using h_) (seg := [.string (⟨#[97, 13, 10, 83, 101, 116, 45, 67, 111, 111, 107, 105, 101, 58, 32, 98]⟩ : ByteArray)]) (j := 1) hcl53 hcc53 (show 2 ≤ 2 from by decide) (x' := (⟨(rd_T43 x572001_1 (ji24)).f0, (⟨#[97, 13, 10, 83, 101, 116, 45, 67, 111, 111, 107, 105, 101, 58, 32, 98]⟩ : ByteArray)⟩ : S43)) (k43_mkM _ _ _ (⟨(rd_T43 x572001_1 (ji24)).f0, (⟨#[97, 13, 10, 83, 101, 116, 45, 67, 111, 111, 107, 105, 101, 58, 32, 98]⟩ : ByteArray)⟩ : S43) ) (fun _ hk => hk)
                   have hx53_1 := hcc53 1 _ rfl
                   (try simp only [show (k43).sz = 2 from rfl, Nat.mul_one, Nat.add_zero] at hx53_1)
                   have hf53_1 := hfr53 1
                   (try simp only [show (k43).sz = 2 from rfl, Nat.mul_one, Nat.add_zero] at hf53_1)
                   clear hcl53 hcc53 hfr53 hM53
                   go_wp2_with (first | ((with_reducible refine gate_store (t := 9) (p := 50) rfl ?_); refine store_event (t := 9) (p := 50) (v := ?vo_w54) (w1 := (wc.setCell ⟨go27, ((ji24) : Int).toNat * 2 + 1, none⟩ (.string (⟨#[97, 13, 10, 83, 101, 116, 45, 67, 111, 111, 107, 105, 101, 58, 32, 98]⟩ : ByteArray)))) ?hg ?ho ?hn ?hr ?_; (case ho => rfl); (case hg => rfl); (case hn => rfl); (case hr => first | (go_simp; done) | (go_simp; rfl)); intro w54 hw; have hg : wc.grownBy w54 (some go27) := (by rw [hw]; exact HP53.2); have hp_ : Kd.R k43 43 w54 w.heap.size (fun _ => True) (.slice (some ⟨go27, 0, none⟩) x572001_1.length co27) y575 := (by rw [hw, Ny575.out]; exact HP53.1); clear HP53; have n0_ := Aside0.mk (hp_); have n1_ := Aside0.mk (Kd.R_over' (v := (.slice (some ⟨go27, 0, none⟩) x572001_1.length co27)) (by (with_reducible repeat (first | apply Kd.R_alloc | apply Kd.R_drewN | apply Kd.R_drew)); exact HO_572002.out) (Kd.R_typed HO_572001.out) (by decide) hg); have n2_ := Aside0.mk (blk_grown (g := gb571) (o := .cells #[.int .i64 200, .slice (some ⟨go27, 0, none⟩) x572001_1.length co27, .slice Ao9 y568.length co9] 51 (0, 0)) (by (with_reducible repeat (first | refine blk_drewN ?_ _ | refine blk_drew ?_ | refine blk_alloc ?_ _)); exact BK571.out) hg (Kd.R_ne HO_572001.out BK571.out (by decide))); have n3_ := Aside0.mk ((by rw [hw]; exact below_set (HB.out) GB27.out : Below w.heap.size w w54)); clear HO_572001; clear HO_572002; clear BK571; clear HB; have HO_572001 := n0_; have HO_572002 := n1_; have BK571 := n2_; have HB := n3_; clear n0_ n1_ n2_ n3_; clear hg hw hp_; have hcz55_0 : w54.cell? ⟨gb571, 0, none⟩ = some (.int .i64 200) := (blk_cell BK571.out 0).trans rfl; have hcz55_1 : w54.cell? ⟨gb571, 1, none⟩ = some (.slice (some ⟨go27, 0, none⟩) x572001_1.length co27) := (blk_cell BK571.out 1).trans rfl; have hcz55_2 : w54.cell? ⟨gb571, 2, none⟩ = some (.slice Ao9 y568.length co9) := (blk_cell BK571.out 2).trans rfl; have hfz55_0 := blk_frozen BK571.out 0; have hfz55_1 := blk_frozen BK571.out 1; have hfz55_2 := blk_frozen BK571.out 2) | ((with_reducible refine gate_callee (f := 27) rfl ?_); refine goesL_ (some 53) rfl rfl Tryd.func27 (by kernel_rfl) rfl #[.agg #[.int .i64 200, .slice (some ⟨go27, 0, none⟩) y575.length co27, .slice Ao9 y568.length co9]] rfl (by (try simp only [List.map_toArray, List.map_cons, List.map_nil]); first | done | (rw [show y575.length = x572001_1.length from (Kd.R_reads' HO_572001.out).1.symm] <;> rfl) | rfl | (simp only [List.length_drop, List.length_take]; rfl)) ?_; (with_reducible refine (resp_Print.calls 200 _ _ y575 _ _ y568 t576 t579 _ ?side1 ?side2 ?side3 ?side4 (by first | exact hT | (refine Tb.of_below hT ?_; repeat (first | (with_reducible first | apply bA | apply bN | apply bD) | exact HB.out | refine Below.setCell ?_ (Aside0.out (by assumption)) _)) | (refine Tb.of_below hT ?_; assumption)) A28.out).mono ?_); (case side1 => repeat (first | exact (Kd.R_reads' HO_572001.out).2.2 | (with_reducible refine Kd.C_alloc ?_ _) | (with_reducible refine Kd.C_drewN ?_ _) | (with_reducible refine Kd.C_drew ?_))); (case side2 => rw [show y575.length = x572001_1.length from (Kd.R_reads' HO_572001.out).1.symm]; exact (Kd.R_reads' HO_572001.out).2.1); (case side3 => repeat (first | exact (Kd.R_reads' HO_572002.out).2.2 | (with_reducible refine Kd.C_alloc ?_ _) | (with_reducible refine Kd.C_drewN ?_ _) | (with_reducible refine Kd.C_drew ?_))); (case side4 => exact (Kd.R_reads' HO_572002.out).2.1); rintro e w56 ⟨v577, rfl, ho0, hb⟩; refine ⟨_, rfl, ?_⟩; have n0_ := Aside0.mk (Kd.R_below (by (with_reducible repeat (first | apply Kd.R_alloc | apply Kd.R_drewN | apply Kd.R_drew)); exact HO_572001.out) hb); have n1_ := Aside0.mk (Kd.R_elder' (by (with_reducible repeat (first | apply Kd.R_alloc | apply Kd.R_drewN | apply Kd.R_drew)); exact HO_572002.out) (Kd.R_base ho0) hb); have n2_ := Aside0.mk (Kd.R_lower (Kd.R_new' ho0 (Kd.R_lt (by (with_reducible repeat (first | apply Kd.R_alloc | apply Kd.R_drewN | apply Kd.R_drew)); exact HO_572002.out))) (below_size (by repeat (first | (with_reducible first | apply bA | apply bN | apply bD | refine below_set ?_ GE571.out) | exact HB.out)))); have n3_ := Aside0.mk (blk_below (g := gb571) (o := .cells #[.int .i64 200, .slice (some ⟨go27, 0, none⟩) x572001_1.length co27, .slice Ao9 y568.length co9] 51 (0, 0)) (by (with_reducible repeat (first | refine blk_drewN ?_ _ | refine blk_drew ?_ | refine blk_alloc ?_ _)); exact BK571.out) hb); have n4_ := Aside0.mk (below_step (by repeat (first | (with_reducible first | apply bA | apply bN | apply bD | refine below_set ?_ GE571.out) | exact HB.out)) hb); clear HO_572001; clear HO_572002; clear BK571; clear HB; have HO_572001 := n0_; have HO_572002 := n1_; have HO578 := n2_; have BK571 := n3_; have HB := n4_; clear n0_ n1_ n2_ n3_ n4_; (try clear hb); (try clear hb2); (try clear hk); (try clear hi); (try clear ho0)) | ((with_reducible refine gate_callee (f := 28) rfl ?_); refine goesL_ (some 56) rfl rfl Tryd.func28 (by kernel_rfl) rfl #[] rfl (by (try simp only [List.map_toArray, List.map_cons, List.map_nil]); first | done | rfl | (simp only [List.length_drop, List.length_take]; rfl)) ?_; (with_reducible refine (wicketmanlaw10_known.calls  true _ (by first | exact hT | (refine Tb.of_below hT ?_; repeat (first | (with_reducible first | apply bA | apply bN | apply bD) | exact HB.out | refine Below.setCell ?_ (Aside0.out (by assumption)) _)) | (refine Tb.of_below hT ?_; assumption)) (by first | exact hTR | exact Aside0.mk rfl | exact Aside0.mk (by assumption) | exact Aside0.mk (of_eq_true (by assumption)) | exact Aside0.mk (wicketmanlaw10_known.true_ _ A29.out) | exact Aside0.mk (by simp_all)) A29.out).mono ?_); rintro e w57 ⟨rfl, hb⟩; refine ⟨_, rfl, ?_⟩; have n0_ := Aside0.mk (Kd.R_below (by (with_reducible repeat (first | apply Kd.R_alloc | apply Kd.R_drewN | apply Kd.R_drew)); exact HO_572001.out) hb); have n1_ := Aside0.mk (Kd.R_below (by (with_reducible repeat (first | apply Kd.R_alloc | apply Kd.R_drewN | apply Kd.R_drew)); exact HO_572002.out) hb); have n2_ := Aside0.mk (Kd.R_below (by (with_reducible repeat (first | apply Kd.R_alloc | apply Kd.R_drewN | apply Kd.R_drew)); exact HO578.out) hb); have n3_ := Aside0.mk (blk_below (g := gb571) (o := .cells #[.int .i64 200, .slice (some ⟨go27, 0, none⟩) x572001_1.length co27, .slice Ao9 y568.length co9] 51 (0, 0)) (by (with_reducible repeat (first | refine blk_drewN ?_ _ | refine blk_drew ?_ | refine blk_alloc ?_ _)); exact BK571.out) hb); have n4_ := Aside0.mk (below_step (by repeat (first | (with_reducible first | apply bA | apply bN | apply bD | refine below_set ?_ GE571.out) | exact HB.out)) hb); clear HO_572001; clear HO_572002; clear HO578; clear BK571; clear HB; have HO_572001 := n0_; have HO_572002 := n1_; have HO578 := n2_; have BK571 := n3_; have HB := n4_; clear n0_ n1_ n2_ n3_ n4_; (try clear hb); (try clear hb2); (try clear hk); (try clear hi)))
                   go_ret
                   exact ⟨by first | rfl | (simp [errW_none, errW_some] <;> rfl) | (simp only [← hji4, ← hji24]; first | rfl | (simp [errW_none, errW_some] <;> rfl)) | (simp [*, errW_none, errW_some] <;> rfl), by repeat (first | (with_reducible first | apply bA | apply bN | apply bD | refine below_set ?_ GE571.out) | exact HB.out)⟩
                  ·rw [if_neg c51] at H
                   have c51b0 : (t579 == 0) = false := beq_eq_false_iff_ne.mpr c51
                   have c51b1 : (t579 != 0) = true := bne_iff_ne.mpr c51
                   exfalso; rw [c51b0] at c49b0; exact absurd c49b0 (by decide)
                ·rw [if_neg c49] at H
                 have c49b0 : ((t579 == 0) == (!false)) = false := by simpa using c49
                 (try (have c49b1 : decide ((t579 == 0) = (!false)) = false := by simpa using c49))
                 (try (have c49b2 : ((t579 == 0) == (!false)) = false := by simpa using c49))
                 (try (have c49b3 : ¬ ((t579 == 0) = (!false)) := by simpa using c49))
                 clear c49
                 exact absurd (Option.some.inj H) (by rw [hTR.out]; decide)
              ·replace c31 := Bool.eq_false_iff.mpr c31
               subst c31
               rw [if_neg (show ¬ (false = true) by decide)] at H
               by_cases c65 : ((t579 == 0) == false) = true
               ·rw [if_pos c65] at H
                have c65b0 : ((t579 == 0) == false) = true := c65
                (try (have c65b1 : decide ((t579 == 0) = false) = true := by simpa using c65))
                (try (have c65b2 : ((t579 == 0) == false) = true := by simpa using c65))
                clear c65
                by_cases c66 : t579 = 3
                ·rw [if_pos c66] at H
                 have c66b0 : (t579 == 3) = true := beq_iff_eq.mpr c66
                 have c66b1 : (t579 != 3) = false := bne_eq_false_iff_eq.mpr c66
                 clear c66
                 by_cases c67 : t579 = 0
                 ·rw [if_pos c67] at H
                  have c67b0 : (t579 == 0) = true := beq_iff_eq.mpr c67
                  have c67b1 : (t579 != 0) = false := bne_eq_false_iff_eq.mpr c67
                  exfalso; rw [c67b0] at c65b0; exact absurd c65b0 (by decide)
                 ·rw [if_neg c67] at H
                  have c67b0 : (t579 == 0) = false := beq_eq_false_iff_ne.mpr c67
                  have c67b1 : (t579 != 0) = true := bne_iff_ne.mpr c67
                  obtain rfl := Option.some.inj H
                  have hcz74_0 : wc.cell? ⟨gb571, 0, none⟩ = some (.int .i64 200) := (blk_cell BK571.out 0).trans rfl
                  have hcz74_1 : wc.cell? ⟨gb571, 1, none⟩ = some (u572001) := (blk_cell BK571.out 1).trans rfl
                  have hcz74_2 : wc.cell? ⟨gb571, 2, none⟩ = some (.slice Ao9 y568.length co9) := (blk_cell BK571.out 2).trans rfl
                  have hfz74_0 := blk_frozen BK571.out 0
                  have hfz74_1 := blk_frozen BK571.out 1
                  have hfz74_2 := blk_frozen BK571.out 2
                  have p27 : 0 ≤ ((ji24) : Int) := of_decide_eq_true (by first | (with_reducible assumption) | assumption)
                  have q27 : ((ji24) : Int) < ((x572001_1.length : Int) : Int) := of_decide_eq_true (by first | (with_reducible assumption) | assumption)
                  obtain ⟨go27, co27, eo27, gb27, gl27, cl27, HG27⟩ := Kd.R_form HO_572001.out (by omega)
                  (first | cases eo27 | (injection eo27 with ea_ en_ ec_; (first | subst ea_ | (injection ea_ with ea_; subst ea_)); subst ec_; clear en_))
                  have GB27 := Aside0.mk gb27
                  have GG27 := Aside0.mk HG27
                  clear gb27 gl27 HG27
                  obtain ⟨ce27, hcl27, hM27, hcc27, hfr27⟩ := Kd.R_elem HO_572001.out z43 ((ji24) : Int) p27 q27
                  obtain rfl := k43_openM hM27
                  have hx27_0 : wc.cell? ⟨go27, ((ji24) : Int).toNat * 2, none⟩ = some (.string ((rd_T43 x572001_1 (ji24)).f0)) := hcc27 0 _ rfl
                  have hx27_1 : wc.cell? ⟨go27, ((ji24) : Int).toNat * 2 + 1, none⟩ = some (.string ((rd_T43 x572001_1 (ji24)).f1)) := hcc27 1 _ rfl
                  have hf27_0 : wc.frozen? ⟨go27, ((ji24) : Int).toNat * 2, none⟩ = false := hfr27 0
                  have hf27_1 : wc.frozen? ⟨go27, ((ji24) : Int).toNat * 2 + 1, none⟩ = false := hfr27 1
                  clear hcl27 hcc27 hfr27 hM27
                  replace p27 := eq_true p27
                  replace q27 := eq_true q27
                  have HX75 := Aside0.mk (show Kd.R k43 43 wc w.heap.size (fun _ => True) (.slice (some ⟨go27, 0, none⟩) x572001_1.length co27) x572001_1 from (by (with_reducible repeat (first | apply Kd.R_alloc | apply Kd.R_drewN | apply Kd.R_drew)); exact HO_572001.out))
                  obtain ⟨ce75, hcl75, hM75, hcc75, hfr75⟩ := Kd.R_elem HX75.out z43 ((ji24) : Int) (of_decide_eq_true (by first | (with_reducible assumption) | assumption)) (by have h_ : ((ji24) : Int) < ((x572001_1.length : Int) : Int) := of_decide_eq_true (by first | (with_reducible assumption) | assumption); first | exact h_ | (have e_ := (Kd.R_reads' HO_572001.out).1; omega) | simpa using h_)
                  obtain rfl := k43_openM hM75
                  have HP75 := Kd.R_seg HX75.out ((ji24) : Int) (of_decide_eq_true (by first | (with_reducible assumption) | assumption)) (by have h_ : ((ji24) : Int) < ((x572001_1.length : Int) : Int) := of_decide_eq_true (by first | (with_reducible assumption) | assumption); first | exact h_ | (have e_ := (Kd.R_reads' HO_572001.out).1; omega) | simpa using h_) (seg := [.string (⟨#[97, 13, 10, 83, 101, 116, 45, 67, 111, 111, 107, 105, 101, 58, 32, 98]⟩ : ByteArray)]) (j := 1) hcl75 hcc75 (show 2 ≤ 2 from by decide) (x' := (⟨(rd_T43 x572001_1 (ji24)).f0, (⟨#[97, 13, 10, 83, 101, 116, 45, 67, 111, 111, 107, 105, 101, 58, 32, 98]⟩ : ByteArray)⟩ : S43)) (k43_mkM _ _ _ (⟨(rd_T43 x572001_1 (ji24)).f0, (⟨#[97, 13, 10, 83, 101, 116, 45, 67, 111, 111, 107, 105, 101, 58, 32, 98]⟩ : ByteArray)⟩ : S43) ) (fun _ hk => hk)
                  have hx75_1 := hcc75 1 _ rfl
                  (try simp only [show (k43).sz = 2 from rfl, Nat.mul_one, Nat.add_zero] at hx75_1)
                  have hf75_1 := hfr75 1
                  (try simp only [show (k43).sz = 2 from rfl, Nat.mul_one, Nat.add_zero] at hf75_1)
                  clear hcl75 hcc75 hfr75 hM75
                  go_wp2_with (first | ((with_reducible refine gate_store (t := 9) (p := 50) rfl ?_); refine store_event (t := 9) (p := 50) (v := ?vo_w76) (w1 := (wc.setCell ⟨go27, ((ji24) : Int).toNat * 2 + 1, none⟩ (.string (⟨#[97, 13, 10, 83, 101, 116, 45, 67, 111, 111, 107, 105, 101, 58, 32, 98]⟩ : ByteArray)))) ?hg ?ho ?hn ?hr ?_; (case ho => rfl); (case hg => rfl); (case hn => rfl); (case hr => first | (go_simp; done) | (go_simp; rfl)); intro w76 hw; have hg : wc.grownBy w76 (some go27) := (by rw [hw]; exact HP75.2); have hp_ : Kd.R k43 43 w76 w.heap.size (fun _ => True) (.slice (some ⟨go27, 0, none⟩) x572001_1.length co27) y575 := (by rw [hw, Ny575.out]; exact HP75.1); clear HP75; have n0_ := Aside0.mk (hp_); have n1_ := Aside0.mk (Kd.R_over' (v := (.slice (some ⟨go27, 0, none⟩) x572001_1.length co27)) (by (with_reducible repeat (first | apply Kd.R_alloc | apply Kd.R_drewN | apply Kd.R_drew)); exact HO_572002.out) (Kd.R_typed HO_572001.out) (by decide) hg); have n2_ := Aside0.mk (blk_grown (g := gb571) (o := .cells #[.int .i64 200, .slice (some ⟨go27, 0, none⟩) x572001_1.length co27, .slice Ao9 y568.length co9] 51 (0, 0)) (by (with_reducible repeat (first | refine blk_drewN ?_ _ | refine blk_drew ?_ | refine blk_alloc ?_ _)); exact BK571.out) hg (Kd.R_ne HO_572001.out BK571.out (by decide))); have n3_ := Aside0.mk ((by rw [hw]; exact below_set (HB.out) GB27.out : Below w.heap.size w w76)); clear HO_572001; clear HO_572002; clear BK571; clear HB; have HO_572001 := n0_; have HO_572002 := n1_; have BK571 := n2_; have HB := n3_; clear n0_ n1_ n2_ n3_; clear hg hw hp_; have hcz77_0 : w76.cell? ⟨gb571, 0, none⟩ = some (.int .i64 200) := (blk_cell BK571.out 0).trans rfl; have hcz77_1 : w76.cell? ⟨gb571, 1, none⟩ = some (.slice (some ⟨go27, 0, none⟩) x572001_1.length co27) := (blk_cell BK571.out 1).trans rfl; have hcz77_2 : w76.cell? ⟨gb571, 2, none⟩ = some (.slice Ao9 y568.length co9) := (blk_cell BK571.out 2).trans rfl; have hfz77_0 := blk_frozen BK571.out 0; have hfz77_1 := blk_frozen BK571.out 1; have hfz77_2 := blk_frozen BK571.out 2) | ((with_reducible refine gate_callee (f := 27) rfl ?_); refine goesL_ (some 53) rfl rfl Tryd.func27 (by kernel_rfl) rfl #[.agg #[.int .i64 200, .slice (some ⟨go27, 0, none⟩) y575.length co27, .slice Ao9 y568.length co9]] rfl (by (try simp only [List.map_toArray, List.map_cons, List.map_nil]); first | done | (rw [show y575.length = x572001_1.length from (Kd.R_reads' HO_572001.out).1.symm] <;> rfl) | rfl | (simp only [List.length_drop, List.length_take]; rfl)) ?_; (with_reducible refine (resp_Print.calls 200 _ _ y575 _ _ y568 t576 t579 _ ?side1 ?side2 ?side3 ?side4 (by first | exact hT | (refine Tb.of_below hT ?_; repeat (first | (with_reducible first | apply bA | apply bN | apply bD) | exact HB.out | refine Below.setCell ?_ (Aside0.out (by assumption)) _)) | (refine Tb.of_below hT ?_; assumption)) A28.out).mono ?_); (case side1 => repeat (first | exact (Kd.R_reads' HO_572001.out).2.2 | (with_reducible refine Kd.C_alloc ?_ _) | (with_reducible refine Kd.C_drewN ?_ _) | (with_reducible refine Kd.C_drew ?_))); (case side2 => rw [show y575.length = x572001_1.length from (Kd.R_reads' HO_572001.out).1.symm]; exact (Kd.R_reads' HO_572001.out).2.1); (case side3 => repeat (first | exact (Kd.R_reads' HO_572002.out).2.2 | (with_reducible refine Kd.C_alloc ?_ _) | (with_reducible refine Kd.C_drewN ?_ _) | (with_reducible refine Kd.C_drew ?_))); (case side4 => exact (Kd.R_reads' HO_572002.out).2.1); rintro e w78 ⟨v577, rfl, ho0, hb⟩; refine ⟨_, rfl, ?_⟩; have n0_ := Aside0.mk (Kd.R_below (by (with_reducible repeat (first | apply Kd.R_alloc | apply Kd.R_drewN | apply Kd.R_drew)); exact HO_572001.out) hb); have n1_ := Aside0.mk (Kd.R_elder' (by (with_reducible repeat (first | apply Kd.R_alloc | apply Kd.R_drewN | apply Kd.R_drew)); exact HO_572002.out) (Kd.R_base ho0) hb); have n2_ := Aside0.mk (Kd.R_lower (Kd.R_new' ho0 (Kd.R_lt (by (with_reducible repeat (first | apply Kd.R_alloc | apply Kd.R_drewN | apply Kd.R_drew)); exact HO_572002.out))) (below_size (by repeat (first | (with_reducible first | apply bA | apply bN | apply bD | refine below_set ?_ GE571.out) | exact HB.out)))); have n3_ := Aside0.mk (blk_below (g := gb571) (o := .cells #[.int .i64 200, .slice (some ⟨go27, 0, none⟩) x572001_1.length co27, .slice Ao9 y568.length co9] 51 (0, 0)) (by (with_reducible repeat (first | refine blk_drewN ?_ _ | refine blk_drew ?_ | refine blk_alloc ?_ _)); exact BK571.out) hb); have n4_ := Aside0.mk (below_step (by repeat (first | (with_reducible first | apply bA | apply bN | apply bD | refine below_set ?_ GE571.out) | exact HB.out)) hb); clear HO_572001; clear HO_572002; clear BK571; clear HB; have HO_572001 := n0_; have HO_572002 := n1_; have HO578 := n2_; have BK571 := n3_; have HB := n4_; clear n0_ n1_ n2_ n3_ n4_; (try clear hb); (try clear hb2); (try clear hk); (try clear hi); (try clear ho0)) | ((with_reducible refine gate_callee (f := 28) rfl ?_); refine goesL_ (some 56) rfl rfl Tryd.func28 (by kernel_rfl) rfl #[] rfl (by (try simp only [List.map_toArray, List.map_cons, List.map_nil]); first | done | rfl | (simp only [List.length_drop, List.length_take]; rfl)) ?_; (with_reducible refine (wicketmanlaw10_known.calls  true _ (by first | exact hT | (refine Tb.of_below hT ?_; repeat (first | (with_reducible first | apply bA | apply bN | apply bD) | exact HB.out | refine Below.setCell ?_ (Aside0.out (by assumption)) _)) | (refine Tb.of_below hT ?_; assumption)) (by first | exact hTR | exact Aside0.mk rfl | exact Aside0.mk (by assumption) | exact Aside0.mk (of_eq_true (by assumption)) | exact Aside0.mk (wicketmanlaw10_known.true_ _ A29.out) | exact Aside0.mk (by simp_all)) A29.out).mono ?_); rintro e w79 ⟨rfl, hb⟩; refine ⟨_, rfl, ?_⟩; have n0_ := Aside0.mk (Kd.R_below (by (with_reducible repeat (first | apply Kd.R_alloc | apply Kd.R_drewN | apply Kd.R_drew)); exact HO_572001.out) hb); have n1_ := Aside0.mk (Kd.R_below (by (with_reducible repeat (first | apply Kd.R_alloc | apply Kd.R_drewN | apply Kd.R_drew)); exact HO_572002.out) hb); have n2_ := Aside0.mk (Kd.R_below (by (with_reducible repeat (first | apply Kd.R_alloc | apply Kd.R_drewN | apply Kd.R_drew)); exact HO578.out) hb); have n3_ := Aside0.mk (blk_below (g := gb571) (o := .cells #[.int .i64 200, .slice (some ⟨go27, 0, none⟩) x572001_1.length co27, .slice Ao9 y568.length co9] 51 (0, 0)) (by (with_reducible repeat (first | refine blk_drewN ?_ _ | refine blk_drew ?_ | refine blk_alloc ?_ _)); exact BK571.out) hb); have n4_ := Aside0.mk (below_step (by repeat (first | (with_reducible first | apply bA | apply bN | apply bD | refine below_set ?_ GE571.out) | exact HB.out)) hb); clear HO_572001; clear HO_572002; clear HO578; clear BK571; clear HB; have HO_572001 := n0_; have HO_572002 := n1_; have HO578 := n2_; have BK571 := n3_; have HB := n4_; clear n0_ n1_ n2_ n3_ n4_; (try clear hb); (try clear hb2); (try clear hk); (try clear hi); obtain ⟨Ao80, co80, eo80⟩ := Kd.R_slice HO578.out; subst eo80))
                  go_ret
                  exact ⟨by first | rfl | (simp [errW_none, errW_some] <;> rfl) | (simp only [← hji4, ← hji24]; first | rfl | (simp [errW_none, errW_some] <;> rfl)) | (simp [*, errW_none, errW_some] <;> rfl), by repeat (first | (with_reducible first | apply bA | apply bN | apply bD | refine below_set ?_ GE571.out) | exact HB.out)⟩
                ·rw [if_neg c66] at H
                 have c66b0 : (t579 == 3) = false := beq_eq_false_iff_ne.mpr c66
                 have c66b1 : (t579 != 3) = true := bne_iff_ne.mpr c66
                 by_cases c81 : t579 = 0
                 ·rw [if_pos c81] at H
                  have c81b0 : (t579 == 0) = true := beq_iff_eq.mpr c81
                  have c81b1 : (t579 != 0) = false := bne_eq_false_iff_eq.mpr c81
                  exfalso; rw [c81b0] at c65b0; exact absurd c65b0 (by decide)
                 ·rw [if_neg c81] at H
                  have c81b0 : (t579 == 0) = false := beq_eq_false_iff_ne.mpr c81
                  have c81b1 : (t579 != 0) = true := bne_iff_ne.mpr c81
                  obtain rfl := Option.some.inj H
                  have hcz88_0 : wc.cell? ⟨gb571, 0, none⟩ = some (.int .i64 200) := (blk_cell BK571.out 0).trans rfl
                  have hcz88_1 : wc.cell? ⟨gb571, 1, none⟩ = some (u572001) := (blk_cell BK571.out 1).trans rfl
                  have hcz88_2 : wc.cell? ⟨gb571, 2, none⟩ = some (.slice Ao9 y568.length co9) := (blk_cell BK571.out 2).trans rfl
                  have hfz88_0 := blk_frozen BK571.out 0
                  have hfz88_1 := blk_frozen BK571.out 1
                  have hfz88_2 := blk_frozen BK571.out 2
                  have p27 : 0 ≤ ((ji24) : Int) := of_decide_eq_true (by first | (with_reducible assumption) | assumption)
                  have q27 : ((ji24) : Int) < ((x572001_1.length : Int) : Int) := of_decide_eq_true (by first | (with_reducible assumption) | assumption)
                  obtain ⟨go27, co27, eo27, gb27, gl27, cl27, HG27⟩ := Kd.R_form HO_572001.out (by omega)
                  (first | cases eo27 | (injection eo27 with ea_ en_ ec_; (first | subst ea_ | (injection ea_ with ea_; subst ea_)); subst ec_; clear en_))
                  have GB27 := Aside0.mk gb27
                  have GG27 := Aside0.mk HG27
                  clear gb27 gl27 HG27
                  obtain ⟨ce27, hcl27, hM27, hcc27, hfr27⟩ := Kd.R_elem HO_572001.out z43 ((ji24) : Int) p27 q27
                  obtain rfl := k43_openM hM27
                  have hx27_0 : wc.cell? ⟨go27, ((ji24) : Int).toNat * 2, none⟩ = some (.string ((rd_T43 x572001_1 (ji24)).f0)) := hcc27 0 _ rfl
                  have hx27_1 : wc.cell? ⟨go27, ((ji24) : Int).toNat * 2 + 1, none⟩ = some (.string ((rd_T43 x572001_1 (ji24)).f1)) := hcc27 1 _ rfl
                  have hf27_0 : wc.frozen? ⟨go27, ((ji24) : Int).toNat * 2, none⟩ = false := hfr27 0
                  have hf27_1 : wc.frozen? ⟨go27, ((ji24) : Int).toNat * 2 + 1, none⟩ = false := hfr27 1
                  clear hcl27 hcc27 hfr27 hM27
                  replace p27 := eq_true p27
                  replace q27 := eq_true q27
                  have HX89 := Aside0.mk (show Kd.R k43 43 wc w.heap.size (fun _ => True) (.slice (some ⟨go27, 0, none⟩) x572001_1.length co27) x572001_1 from (by (with_reducible repeat (first | apply Kd.R_alloc | apply Kd.R_drewN | apply Kd.R_drew)); exact HO_572001.out))
                  obtain ⟨ce89, hcl89, hM89, hcc89, hfr89⟩ := Kd.R_elem HX89.out z43 ((ji24) : Int) (of_decide_eq_true (by first | (with_reducible assumption) | assumption)) (by have h_ : ((ji24) : Int) < ((x572001_1.length : Int) : Int) := of_decide_eq_true (by first | (with_reducible assumption) | assumption); first | exact h_ | (have e_ := (Kd.R_reads' HO_572001.out).1; omega) | simpa using h_)
                  obtain rfl := k43_openM hM89
                  have HP89 := Kd.R_seg HX89.out ((ji24) : Int) (of_decide_eq_true (by first | (with_reducible assumption) | assumption)) (by have h_ : ((ji24) : Int) < ((x572001_1.length : Int) : Int) := of_decide_eq_true (by first | (with_reducible assumption) | assumption); first | exact h_ | (have e_ := (Kd.R_reads' HO_572001.out).1; omega) | simpa using h_) (seg := [.string (⟨#[97, 13, 10, 83, 101, 116, 45, 67, 111, 111, 107, 105, 101, 58, 32, 98]⟩ : ByteArray)]) (j := 1) hcl89 hcc89 (show 2 ≤ 2 from by decide) (x' := (⟨(rd_T43 x572001_1 (ji24)).f0, (⟨#[97, 13, 10, 83, 101, 116, 45, 67, 111, 111, 107, 105, 101, 58, 32, 98]⟩ : ByteArray)⟩ : S43)) (k43_mkM _ _ _ (⟨(rd_T43 x572001_1 (ji24)).f0, (⟨#[97, 13, 10, 83, 101, 116, 45, 67, 111, 111, 107, 105, 101, 58, 32, 98]⟩ : ByteArray)⟩ : S43) ) (fun _ hk => hk)
                  have hx89_1 := hcc89 1 _ rfl
                  (try simp only [show (k43).sz = 2 from rfl, Nat.mul_one, Nat.add_zero] at hx89_1)
                  have hf89_1 := hfr89 1
                  (try simp only [show (k43).sz = 2 from rfl, Nat.mul_one, Nat.add_zero] at hf89_1)
                  clear hcl89 hcc89 hfr89 hM89
                  go_wp2_with (first | ((with_reducible refine gate_store (t := 9) (p := 50) rfl ?_); refine store_event (t := 9) (p := 50) (v := ?vo_w90) (w1 := (wc.setCell ⟨go27, ((ji24) : Int).toNat * 2 + 1, none⟩ (.string (⟨#[97, 13, 10, 83, 101, 116, 45, 67, 111, 111, 107, 105, 101, 58, 32, 98]⟩ : ByteArray)))) ?hg ?ho ?hn ?hr ?_; (case ho => rfl); (case hg => rfl); (case hn => rfl); (case hr => first | (go_simp; done) | (go_simp; rfl)); intro w90 hw; have hg : wc.grownBy w90 (some go27) := (by rw [hw]; exact HP89.2); have hp_ : Kd.R k43 43 w90 w.heap.size (fun _ => True) (.slice (some ⟨go27, 0, none⟩) x572001_1.length co27) y575 := (by rw [hw, Ny575.out]; exact HP89.1); clear HP89; have n0_ := Aside0.mk (hp_); have n1_ := Aside0.mk (Kd.R_over' (v := (.slice (some ⟨go27, 0, none⟩) x572001_1.length co27)) (by (with_reducible repeat (first | apply Kd.R_alloc | apply Kd.R_drewN | apply Kd.R_drew)); exact HO_572002.out) (Kd.R_typed HO_572001.out) (by decide) hg); have n2_ := Aside0.mk (blk_grown (g := gb571) (o := .cells #[.int .i64 200, .slice (some ⟨go27, 0, none⟩) x572001_1.length co27, .slice Ao9 y568.length co9] 51 (0, 0)) (by (with_reducible repeat (first | refine blk_drewN ?_ _ | refine blk_drew ?_ | refine blk_alloc ?_ _)); exact BK571.out) hg (Kd.R_ne HO_572001.out BK571.out (by decide))); have n3_ := Aside0.mk ((by rw [hw]; exact below_set (HB.out) GB27.out : Below w.heap.size w w90)); clear HO_572001; clear HO_572002; clear BK571; clear HB; have HO_572001 := n0_; have HO_572002 := n1_; have BK571 := n2_; have HB := n3_; clear n0_ n1_ n2_ n3_; clear hg hw hp_; have hcz91_0 : w90.cell? ⟨gb571, 0, none⟩ = some (.int .i64 200) := (blk_cell BK571.out 0).trans rfl; have hcz91_1 : w90.cell? ⟨gb571, 1, none⟩ = some (.slice (some ⟨go27, 0, none⟩) x572001_1.length co27) := (blk_cell BK571.out 1).trans rfl; have hcz91_2 : w90.cell? ⟨gb571, 2, none⟩ = some (.slice Ao9 y568.length co9) := (blk_cell BK571.out 2).trans rfl; have hfz91_0 := blk_frozen BK571.out 0; have hfz91_1 := blk_frozen BK571.out 1; have hfz91_2 := blk_frozen BK571.out 2) | ((with_reducible refine gate_callee (f := 27) rfl ?_); refine goesL_ (some 53) rfl rfl Tryd.func27 (by kernel_rfl) rfl #[.agg #[.int .i64 200, .slice (some ⟨go27, 0, none⟩) y575.length co27, .slice Ao9 y568.length co9]] rfl (by (try simp only [List.map_toArray, List.map_cons, List.map_nil]); first | done | (rw [show y575.length = x572001_1.length from (Kd.R_reads' HO_572001.out).1.symm] <;> rfl) | rfl | (simp only [List.length_drop, List.length_take]; rfl)) ?_; (with_reducible refine (resp_Print.calls 200 _ _ y575 _ _ y568 t576 t579 _ ?side1 ?side2 ?side3 ?side4 (by first | exact hT | (refine Tb.of_below hT ?_; repeat (first | (with_reducible first | apply bA | apply bN | apply bD) | exact HB.out | refine Below.setCell ?_ (Aside0.out (by assumption)) _)) | (refine Tb.of_below hT ?_; assumption)) A28.out).mono ?_); (case side1 => repeat (first | exact (Kd.R_reads' HO_572001.out).2.2 | (with_reducible refine Kd.C_alloc ?_ _) | (with_reducible refine Kd.C_drewN ?_ _) | (with_reducible refine Kd.C_drew ?_))); (case side2 => rw [show y575.length = x572001_1.length from (Kd.R_reads' HO_572001.out).1.symm]; exact (Kd.R_reads' HO_572001.out).2.1); (case side3 => repeat (first | exact (Kd.R_reads' HO_572002.out).2.2 | (with_reducible refine Kd.C_alloc ?_ _) | (with_reducible refine Kd.C_drewN ?_ _) | (with_reducible refine Kd.C_drew ?_))); (case side4 => exact (Kd.R_reads' HO_572002.out).2.1); rintro e w92 ⟨v577, rfl, ho0, hb⟩; refine ⟨_, rfl, ?_⟩; have n0_ := Aside0.mk (Kd.R_below (by (with_reducible repeat (first | apply Kd.R_alloc | apply Kd.R_drewN | apply Kd.R_drew)); exact HO_572001.out) hb); have n1_ := Aside0.mk (Kd.R_elder' (by (with_reducible repeat (first | apply Kd.R_alloc | apply Kd.R_drewN | apply Kd.R_drew)); exact HO_572002.out) (Kd.R_base ho0) hb); have n2_ := Aside0.mk (Kd.R_lower (Kd.R_new' ho0 (Kd.R_lt (by (with_reducible repeat (first | apply Kd.R_alloc | apply Kd.R_drewN | apply Kd.R_drew)); exact HO_572002.out))) (below_size (by repeat (first | (with_reducible first | apply bA | apply bN | apply bD | refine below_set ?_ GE571.out) | exact HB.out)))); have n3_ := Aside0.mk (blk_below (g := gb571) (o := .cells #[.int .i64 200, .slice (some ⟨go27, 0, none⟩) x572001_1.length co27, .slice Ao9 y568.length co9] 51 (0, 0)) (by (with_reducible repeat (first | refine blk_drewN ?_ _ | refine blk_drew ?_ | refine blk_alloc ?_ _)); exact BK571.out) hb); have n4_ := Aside0.mk (below_step (by repeat (first | (with_reducible first | apply bA | apply bN | apply bD | refine below_set ?_ GE571.out) | exact HB.out)) hb); clear HO_572001; clear HO_572002; clear BK571; clear HB; have HO_572001 := n0_; have HO_572002 := n1_; have HO578 := n2_; have BK571 := n3_; have HB := n4_; clear n0_ n1_ n2_ n3_ n4_; (try clear hb); (try clear hb2); (try clear hk); (try clear hi); (try clear ho0)) | ((with_reducible refine gate_callee (f := 28) rfl ?_); refine goesL_ (some 56) rfl rfl Tryd.func28 (by kernel_rfl) rfl #[] rfl (by (try simp only [List.map_toArray, List.map_cons, List.map_nil]); first | done | rfl | (simp only [List.length_drop, List.length_take]; rfl)) ?_; (with_reducible refine (wicketmanlaw10_known.calls  true _ (by first | exact hT | (refine Tb.of_below hT ?_; repeat (first | (with_reducible first | apply bA | apply bN | apply bD) | exact HB.out | refine Below.setCell ?_ (Aside0.out (by assumption)) _)) | (refine Tb.of_below hT ?_; assumption)) (by first | exact hTR | exact Aside0.mk rfl | exact Aside0.mk (by assumption) | exact Aside0.mk (of_eq_true (by assumption)) | exact Aside0.mk (wicketmanlaw10_known.true_ _ A29.out) | exact Aside0.mk (by simp_all)) A29.out).mono ?_); rintro e w93 ⟨rfl, hb⟩; refine ⟨_, rfl, ?_⟩; have n0_ := Aside0.mk (Kd.R_below (by (with_reducible repeat (first | apply Kd.R_alloc | apply Kd.R_drewN | apply Kd.R_drew)); exact HO_572001.out) hb); have n1_ := Aside0.mk (Kd.R_below (by (with_reducible repeat (first | apply Kd.R_alloc | apply Kd.R_drewN | apply Kd.R_drew)); exact HO_572002.out) hb); have n2_ := Aside0.mk (Kd.R_below (by (with_reducible repeat (first | apply Kd.R_alloc | apply Kd.R_drewN | apply Kd.R_drew)); exact HO578.out) hb); have n3_ := Aside0.mk (blk_below (g := gb571) (o := .cells #[.int .i64 200, .slice (some ⟨go27, 0, none⟩) x572001_1.length co27, .slice Ao9 y568.length co9] 51 (0, 0)) (by (with_reducible repeat (first | refine blk_drewN ?_ _ | refine blk_drew ?_ | refine blk_alloc ?_ _)); exact BK571.out) hb); have n4_ := Aside0.mk (below_step (by repeat (first | (with_reducible first | apply bA | apply bN | apply bD | refine below_set ?_ GE571.out) | exact HB.out)) hb); clear HO_572001; clear HO_572002; clear HO578; clear BK571; clear HB; have HO_572001 := n0_; have HO_572002 := n1_; have HO578 := n2_; have BK571 := n3_; have HB := n4_; clear n0_ n1_ n2_ n3_ n4_; (try clear hb); (try clear hb2); (try clear hk); (try clear hi); obtain ⟨Ao94, co94, eo94⟩ := Kd.R_slice HO578.out; subst eo94))
                  go_ret
                  exact ⟨by first | rfl | (simp [errW_none, errW_some] <;> rfl) | (simp only [← hji4, ← hji24]; first | rfl | (simp [errW_none, errW_some] <;> rfl)) | (simp [*, errW_none, errW_some] <;> rfl), by repeat (first | (with_reducible first | apply bA | apply bN | apply bD | refine below_set ?_ GE571.out) | exact HB.out)⟩
               ·rw [if_neg c65] at H
                have c65b0 : ((t579 == 0) == false) = false := by simpa using c65
                (try (have c65b1 : decide ((t579 == 0) = false) = false := by simpa using c65))
                (try (have c65b2 : ((t579 == 0) == false) = false := by simpa using c65))
                (try (have c65b3 : ¬ ((t579 == 0) = false) := by simpa using c65))
                clear c65
                exact absurd (Option.some.inj H) (by rw [hTR.out]; decide)
             ·replace c30 := Bool.eq_false_iff.mpr c30
              subst c30
              rw [if_neg (show ¬ (false = true) by decide)] at H
              exact absurd (Option.some.inj H) (by rw [hTR.out]; decide)
            ·rw [if_neg c26] at H
             exact absurd H (by simp)
           ·rw [if_neg c25] at H
            exact absurd H (by simp)
          ·replace c23 := Bool.eq_false_iff.mpr c23
           subst c23
           rw [if_neg (show ¬ (false = true) by decide)] at H
           replace H := Option.bind_eq_some_iff.mp H
           obtain ⟨⟨t581, t584⟩, A950, H⟩ := H
           try dsimp only at H
           have A95 := Aside0.mk A950
           clear A950
           replace H := Option.bind_eq_some_iff.mp H
           obtain ⟨t585, A960, H⟩ := H
           try dsimp only at H
           have A96 := Aside0.mk A960
           clear A960
           by_cases c97 : t585 = true
           ·subst c97
            rw [if_pos rfl] at H
            by_cases c98 : x10_17 = true
            ·subst c98
             rw [if_pos rfl] at H
             by_cases c99 : a2 = true
             ·subst c99
              rw [if_pos rfl] at H
              by_cases c100 : ((t584 == 0) == (!(decide ((wrap64 (Int.tmod a0 60)) > 0)))) = true
              ·rw [if_pos c100] at H
               have c100b0 : ((t584 == 0) == (!(decide ((wrap64 (Int.tmod a0 60)) > 0)))) = true := c100
               (try (have c100b1 : decide ((t584 == 0) = (!(decide ((wrap64 (Int.tmod a0 60)) > 0)))) = true := by simpa using c100))
               (try (have c100b2 : ((t584 == 0) == (!(decide ((wrap64 (Int.tmod a0 60)) > 0)))) = true := by simpa using c100))
               clear c100
               by_cases c101 : t584 = 3
               ·rw [if_pos c101] at H
                have c101b0 : (t584 == 3) = true := beq_iff_eq.mpr c101
                have c101b1 : (t584 != 3) = false := bne_eq_false_iff_eq.mpr c101
                clear c101
                exact absurd (Option.some.inj H) (by rw [hTR.out]; decide)
               ·rw [if_neg c101] at H
                have c101b0 : (t584 == 3) = false := beq_eq_false_iff_ne.mpr c101
                have c101b1 : (t584 != 3) = true := bne_iff_ne.mpr c101
                by_cases c102 : t584 = 0
                ·rw [if_pos c102] at H
                 have c102b0 : (t584 == 0) = true := beq_iff_eq.mpr c102
                 have c102b1 : (t584 != 0) = false := bne_eq_false_iff_eq.mpr c102
                 have c102k := beqnot c100b0; rw [c102b0] at c102k; simp only [Bool.not_true, Bool.not_false] at c102k
                 clear c102
                 obtain rfl := Option.some.inj H
                 have hcz103_0 : wc.cell? ⟨gb571, 0, none⟩ = some (.int .i64 200) := (blk_cell BK571.out 0).trans rfl
                 have hcz103_1 : wc.cell? ⟨gb571, 1, none⟩ = some (u572001) := (blk_cell BK571.out 1).trans rfl
                 have hcz103_2 : wc.cell? ⟨gb571, 2, none⟩ = some (.slice Ao9 y568.length co9) := (blk_cell BK571.out 2).trans rfl
                 have hfz103_0 := blk_frozen BK571.out 0
                 have hfz103_1 := blk_frozen BK571.out 1
                 have hfz103_2 := blk_frozen BK571.out 2
                 obtain ⟨Ao104, co104, eo104⟩ := Kd.R_slice HO_572001.out
                 subst eo104
                 go_wp2_with (first | ((with_reducible refine gate_callee (f := 27) rfl ?_); refine goesL_ (some 53) rfl rfl Tryd.func27 (by kernel_rfl) rfl #[.agg #[.int .i64 200, .slice Ao104 x572001_1.length co104, .slice Ao9 y568.length co9]] rfl (by (try simp only [List.map_toArray, List.map_cons, List.map_nil]); first | done | rfl | (simp only [List.length_drop, List.length_take]; rfl)) ?_; (with_reducible refine (resp_Print.calls 200 _ _ x572001_1 _ _ y568 t581 t584 _ ?side1 ?side2 ?side3 ?side4 (by first | exact hT | (refine Tb.of_below hT ?_; repeat (first | (with_reducible first | apply bA | apply bN | apply bD) | exact HB.out | refine Below.setCell ?_ (Aside0.out (by assumption)) _)) | (refine Tb.of_below hT ?_; assumption)) A95.out).mono ?_); (case side1 => repeat (first | exact (Kd.R_reads' HO_572001.out).2.2 | (with_reducible refine Kd.C_alloc ?_ _) | (with_reducible refine Kd.C_drewN ?_ _) | (with_reducible refine Kd.C_drew ?_))); (case side2 => exact (Kd.R_reads' HO_572001.out).2.1); (case side3 => repeat (first | exact (Kd.R_reads' HO_572002.out).2.2 | (with_reducible refine Kd.C_alloc ?_ _) | (with_reducible refine Kd.C_drewN ?_ _) | (with_reducible refine Kd.C_drew ?_))); (case side4 => exact (Kd.R_reads' HO_572002.out).2.1); rintro e w105 ⟨v582, rfl, ho0, hb⟩; refine ⟨_, rfl, ?_⟩; have n0_ := Aside0.mk (Kd.R_below (by (with_reducible repeat (first | apply Kd.R_alloc | apply Kd.R_drewN | apply Kd.R_drew)); exact HO_572001.out) hb); have n1_ := Aside0.mk (Kd.R_elder' (by (with_reducible repeat (first | apply Kd.R_alloc | apply Kd.R_drewN | apply Kd.R_drew)); exact HO_572002.out) (Kd.R_base ho0) hb); have n2_ := Aside0.mk (Kd.R_lower (Kd.R_new' ho0 (Kd.R_lt (by (with_reducible repeat (first | apply Kd.R_alloc | apply Kd.R_drewN | apply Kd.R_drew)); exact HO_572002.out))) (below_size (by repeat (first | (with_reducible first | apply bA | apply bN | apply bD | refine below_set ?_ GE571.out) | exact HB.out)))); have n3_ := Aside0.mk (blk_below (g := gb571) (o := .cells #[.int .i64 200, .slice Ao104 x572001_1.length co104, .slice Ao9 y568.length co9] 51 (0, 0)) (by (with_reducible repeat (first | refine blk_drewN ?_ _ | refine blk_drew ?_ | refine blk_alloc ?_ _)); exact BK571.out) hb); have n4_ := Aside0.mk (below_step (by repeat (first | (with_reducible first | apply bA | apply bN | apply bD | refine below_set ?_ GE571.out) | exact HB.out)) hb); clear HO_572001; clear HO_572002; clear BK571; clear HB; have HO_572001 := n0_; have HO_572002 := n1_; have HO583 := n2_; have BK571 := n3_; have HB := n4_; clear n0_ n1_ n2_ n3_ n4_; (try clear hb); (try clear hb2); (try clear hk); (try clear hi); (try clear ho0)) | ((with_reducible refine gate_callee (f := 28) rfl ?_); refine goesL_ (some 56) rfl rfl Tryd.func28 (by kernel_rfl) rfl #[] rfl (by (try simp only [List.map_toArray, List.map_cons, List.map_nil]); first | done | rfl | (simp only [List.length_drop, List.length_take]; rfl)) ?_; (with_reducible refine (wicketmanlaw10_known.calls  true _ (by first | exact hT | (refine Tb.of_below hT ?_; repeat (first | (with_reducible first | apply bA | apply bN | apply bD) | exact HB.out | refine Below.setCell ?_ (Aside0.out (by assumption)) _)) | (refine Tb.of_below hT ?_; assumption)) (by first | exact hTR | exact Aside0.mk rfl | exact Aside0.mk (by assumption) | exact Aside0.mk (of_eq_true (by assumption)) | exact Aside0.mk (wicketmanlaw10_known.true_ _ A96.out) | exact Aside0.mk (by simp_all)) A96.out).mono ?_); rintro e w106 ⟨rfl, hb⟩; refine ⟨_, rfl, ?_⟩; have n0_ := Aside0.mk (Kd.R_below (by (with_reducible repeat (first | apply Kd.R_alloc | apply Kd.R_drewN | apply Kd.R_drew)); exact HO_572001.out) hb); have n1_ := Aside0.mk (Kd.R_below (by (with_reducible repeat (first | apply Kd.R_alloc | apply Kd.R_drewN | apply Kd.R_drew)); exact HO_572002.out) hb); have n2_ := Aside0.mk (Kd.R_below (by (with_reducible repeat (first | apply Kd.R_alloc | apply Kd.R_drewN | apply Kd.R_drew)); exact HO583.out) hb); have n3_ := Aside0.mk (blk_below (g := gb571) (o := .cells #[.int .i64 200, .slice Ao104 x572001_1.length co104, .slice Ao9 y568.length co9] 51 (0, 0)) (by (with_reducible repeat (first | refine blk_drewN ?_ _ | refine blk_drew ?_ | refine blk_alloc ?_ _)); exact BK571.out) hb); have n4_ := Aside0.mk (below_step (by repeat (first | (with_reducible first | apply bA | apply bN | apply bD | refine below_set ?_ GE571.out) | exact HB.out)) hb); clear HO_572001; clear HO_572002; clear HO583; clear BK571; clear HB; have HO_572001 := n0_; have HO_572002 := n1_; have HO583 := n2_; have BK571 := n3_; have HB := n4_; clear n0_ n1_ n2_ n3_ n4_; (try clear hb); (try clear hb2); (try clear hk); (try clear hi)))
                 go_ret
                 exact ⟨by first | rfl | (simp [errW_none, errW_some] <;> rfl) | (simp only [← hji4]; first | rfl | (simp [errW_none, errW_some] <;> rfl)) | (simp [*, errW_none, errW_some] <;> rfl), by repeat (first | (with_reducible first | apply bA | apply bN | apply bD | refine below_set ?_ GE571.out) | exact HB.out)⟩
                ·rw [if_neg c102] at H
                 have c102b0 : (t584 == 0) = false := beq_eq_false_iff_ne.mpr c102
                 have c102b1 : (t584 != 0) = true := bne_iff_ne.mpr c102
                 have c102k := beqnot c100b0; rw [c102b0] at c102k; simp only [Bool.not_true, Bool.not_false] at c102k
                 obtain rfl := Option.some.inj H
                 have hcz107_0 : wc.cell? ⟨gb571, 0, none⟩ = some (.int .i64 200) := (blk_cell BK571.out 0).trans rfl
                 have hcz107_1 : wc.cell? ⟨gb571, 1, none⟩ = some (u572001) := (blk_cell BK571.out 1).trans rfl
                 have hcz107_2 : wc.cell? ⟨gb571, 2, none⟩ = some (.slice Ao9 y568.length co9) := (blk_cell BK571.out 2).trans rfl
                 have hfz107_0 := blk_frozen BK571.out 0
                 have hfz107_1 := blk_frozen BK571.out 1
                 have hfz107_2 := blk_frozen BK571.out 2
                 obtain ⟨Ao108, co108, eo108⟩ := Kd.R_slice HO_572001.out
                 subst eo108
                 go_wp2_with (first | ((with_reducible refine gate_callee (f := 27) rfl ?_); refine goesL_ (some 53) rfl rfl Tryd.func27 (by kernel_rfl) rfl #[.agg #[.int .i64 200, .slice Ao108 x572001_1.length co108, .slice Ao9 y568.length co9]] rfl (by (try simp only [List.map_toArray, List.map_cons, List.map_nil]); first | done | rfl | (simp only [List.length_drop, List.length_take]; rfl)) ?_; (with_reducible refine (resp_Print.calls 200 _ _ x572001_1 _ _ y568 t581 t584 _ ?side1 ?side2 ?side3 ?side4 (by first | exact hT | (refine Tb.of_below hT ?_; repeat (first | (with_reducible first | apply bA | apply bN | apply bD) | exact HB.out | refine Below.setCell ?_ (Aside0.out (by assumption)) _)) | (refine Tb.of_below hT ?_; assumption)) A95.out).mono ?_); (case side1 => repeat (first | exact (Kd.R_reads' HO_572001.out).2.2 | (with_reducible refine Kd.C_alloc ?_ _) | (with_reducible refine Kd.C_drewN ?_ _) | (with_reducible refine Kd.C_drew ?_))); (case side2 => exact (Kd.R_reads' HO_572001.out).2.1); (case side3 => repeat (first | exact (Kd.R_reads' HO_572002.out).2.2 | (with_reducible refine Kd.C_alloc ?_ _) | (with_reducible refine Kd.C_drewN ?_ _) | (with_reducible refine Kd.C_drew ?_))); (case side4 => exact (Kd.R_reads' HO_572002.out).2.1); rintro e w109 ⟨v582, rfl, ho0, hb⟩; refine ⟨_, rfl, ?_⟩; have n0_ := Aside0.mk (Kd.R_below (by (with_reducible repeat (first | apply Kd.R_alloc | apply Kd.R_drewN | apply Kd.R_drew)); exact HO_572001.out) hb); have n1_ := Aside0.mk (Kd.R_elder' (by (with_reducible repeat (first | apply Kd.R_alloc | apply Kd.R_drewN | apply Kd.R_drew)); exact HO_572002.out) (Kd.R_base ho0) hb); have n2_ := Aside0.mk (Kd.R_lower (Kd.R_new' ho0 (Kd.R_lt (by (with_reducible repeat (first | apply Kd.R_alloc | apply Kd.R_drewN | apply Kd.R_drew)); exact HO_572002.out))) (below_size (by repeat (first | (with_reducible first | apply bA | apply bN | apply bD | refine below_set ?_ GE571.out) | exact HB.out)))); have n3_ := Aside0.mk (blk_below (g := gb571) (o := .cells #[.int .i64 200, .slice Ao108 x572001_1.length co108, .slice Ao9 y568.length co9] 51 (0, 0)) (by (with_reducible repeat (first | refine blk_drewN ?_ _ | refine blk_drew ?_ | refine blk_alloc ?_ _)); exact BK571.out) hb); have n4_ := Aside0.mk (below_step (by repeat (first | (with_reducible first | apply bA | apply bN | apply bD | refine below_set ?_ GE571.out) | exact HB.out)) hb); clear HO_572001; clear HO_572002; clear BK571; clear HB; have HO_572001 := n0_; have HO_572002 := n1_; have HO583 := n2_; have BK571 := n3_; have HB := n4_; clear n0_ n1_ n2_ n3_ n4_; (try clear hb); (try clear hb2); (try clear hk); (try clear hi); (try clear ho0)) | ((with_reducible refine gate_callee (f := 28) rfl ?_); refine goesL_ (some 56) rfl rfl Tryd.func28 (by kernel_rfl) rfl #[] rfl (by (try simp only [List.map_toArray, List.map_cons, List.map_nil]); first | done | rfl | (simp only [List.length_drop, List.length_take]; rfl)) ?_; (with_reducible refine (wicketmanlaw10_known.calls  true _ (by first | exact hT | (refine Tb.of_below hT ?_; repeat (first | (with_reducible first | apply bA | apply bN | apply bD) | exact HB.out | refine Below.setCell ?_ (Aside0.out (by assumption)) _)) | (refine Tb.of_below hT ?_; assumption)) (by first | exact hTR | exact Aside0.mk rfl | exact Aside0.mk (by assumption) | exact Aside0.mk (of_eq_true (by assumption)) | exact Aside0.mk (wicketmanlaw10_known.true_ _ A96.out) | exact Aside0.mk (by simp_all)) A96.out).mono ?_); rintro e w110 ⟨rfl, hb⟩; refine ⟨_, rfl, ?_⟩; have n0_ := Aside0.mk (Kd.R_below (by (with_reducible repeat (first | apply Kd.R_alloc | apply Kd.R_drewN | apply Kd.R_drew)); exact HO_572001.out) hb); have n1_ := Aside0.mk (Kd.R_below (by (with_reducible repeat (first | apply Kd.R_alloc | apply Kd.R_drewN | apply Kd.R_drew)); exact HO_572002.out) hb); have n2_ := Aside0.mk (Kd.R_below (by (with_reducible repeat (first | apply Kd.R_alloc | apply Kd.R_drewN | apply Kd.R_drew)); exact HO583.out) hb); have n3_ := Aside0.mk (blk_below (g := gb571) (o := .cells #[.int .i64 200, .slice Ao108 x572001_1.length co108, .slice Ao9 y568.length co9] 51 (0, 0)) (by (with_reducible repeat (first | refine blk_drewN ?_ _ | refine blk_drew ?_ | refine blk_alloc ?_ _)); exact BK571.out) hb); have n4_ := Aside0.mk (below_step (by repeat (first | (with_reducible first | apply bA | apply bN | apply bD | refine below_set ?_ GE571.out) | exact HB.out)) hb); clear HO_572001; clear HO_572002; clear HO583; clear BK571; clear HB; have HO_572001 := n0_; have HO_572002 := n1_; have HO583 := n2_; have BK571 := n3_; have HB := n4_; clear n0_ n1_ n2_ n3_ n4_; (try clear hb); (try clear hb2); (try clear hk); (try clear hi); obtain ⟨Ao111, co111, eo111⟩ := Kd.R_slice HO583.out; subst eo111))
                 go_ret
                 exact ⟨by first | rfl | (simp [errW_none, errW_some] <;> rfl) | (simp only [← hji4]; first | rfl | (simp [errW_none, errW_some] <;> rfl)) | (simp [*, errW_none, errW_some] <;> rfl), by repeat (first | (with_reducible first | apply bA | apply bN | apply bD | refine below_set ?_ GE571.out) | exact HB.out)⟩
              ·rw [if_neg c100] at H
               have c100b0 : ((t584 == 0) == (!(decide ((wrap64 (Int.tmod a0 60)) > 0)))) = false := by simpa using c100
               (try (have c100b1 : decide ((t584 == 0) = (!(decide ((wrap64 (Int.tmod a0 60)) > 0)))) = false := by simpa using c100))
               (try (have c100b2 : ((t584 == 0) == (!(decide ((wrap64 (Int.tmod a0 60)) > 0)))) = false := by simpa using c100))
               (try (have c100b3 : ¬ ((t584 == 0) = (!(decide ((wrap64 (Int.tmod a0 60)) > 0)))) := by simpa using c100))
               clear c100
               exact absurd (Option.some.inj H) (by rw [hTR.out]; decide)
             ·replace c99 := Bool.eq_false_iff.mpr c99
              subst c99
              rw [if_neg (show ¬ (false = true) by decide)] at H
              by_cases c112 : ((t584 == 0) == (!false)) = true
              ·rw [if_pos c112] at H
               have c112b0 : ((t584 == 0) == (!false)) = true := c112
               (try (have c112b1 : decide ((t584 == 0) = (!false)) = true := by simpa using c112))
               (try (have c112b2 : ((t584 == 0) == (!false)) = true := by simpa using c112))
               clear c112
               by_cases c113 : t584 = 3
               ·rw [if_pos c113] at H
                have c113b0 : (t584 == 3) = true := beq_iff_eq.mpr c113
                have c113b1 : (t584 != 3) = false := bne_eq_false_iff_eq.mpr c113
                clear c113
                exact absurd (Option.some.inj H) (by rw [hTR.out]; decide)
               ·rw [if_neg c113] at H
                have c113b0 : (t584 == 3) = false := beq_eq_false_iff_ne.mpr c113
                have c113b1 : (t584 != 3) = true := bne_iff_ne.mpr c113
                by_cases c114 : t584 = 0
                ·rw [if_pos c114] at H
                 have c114b0 : (t584 == 0) = true := beq_iff_eq.mpr c114
                 have c114b1 : (t584 != 0) = false := bne_eq_false_iff_eq.mpr c114
                 clear c114
                 obtain rfl := Option.some.inj H
                 have hcz115_0 : wc.cell? ⟨gb571, 0, none⟩ = some (.int .i64 200) := (blk_cell BK571.out 0).trans rfl
                 have hcz115_1 : wc.cell? ⟨gb571, 1, none⟩ = some (u572001) := (blk_cell BK571.out 1).trans rfl
                 have hcz115_2 : wc.cell? ⟨gb571, 2, none⟩ = some (.slice Ao9 y568.length co9) := (blk_cell BK571.out 2).trans rfl
                 have hfz115_0 := blk_frozen BK571.out 0
                 have hfz115_1 := blk_frozen BK571.out 1
                 have hfz115_2 := blk_frozen BK571.out 2
                 obtain ⟨Ao116, co116, eo116⟩ := Kd.R_slice HO_572001.out
                 subst eo116
                 go_wp2_with (first | ((with_reducible refine gate_callee (f := 27) rfl ?_); refine goesL_ (some 53) rfl rfl Tryd.func27 (by kernel_rfl) rfl #[.agg #[.int .i64 200, .slice Ao116 x572001_1.length co116, .slice Ao9 y568.length co9]] rfl (by (try simp only [List.map_toArray, List.map_cons, List.map_nil]); first | done | rfl | (simp only [List.length_drop, List.length_take]; rfl)) ?_; (with_reducible refine (resp_Print.calls 200 _ _ x572001_1 _ _ y568 t581 t584 _ ?side1 ?side2 ?side3 ?side4 (by first | exact hT | (refine Tb.of_below hT ?_; repeat (first | (with_reducible first | apply bA | apply bN | apply bD) | exact HB.out | refine Below.setCell ?_ (Aside0.out (by assumption)) _)) | (refine Tb.of_below hT ?_; assumption)) A95.out).mono ?_); (case side1 => repeat (first | exact (Kd.R_reads' HO_572001.out).2.2 | (with_reducible refine Kd.C_alloc ?_ _) | (with_reducible refine Kd.C_drewN ?_ _) | (with_reducible refine Kd.C_drew ?_))); (case side2 => exact (Kd.R_reads' HO_572001.out).2.1); (case side3 => repeat (first | exact (Kd.R_reads' HO_572002.out).2.2 | (with_reducible refine Kd.C_alloc ?_ _) | (with_reducible refine Kd.C_drewN ?_ _) | (with_reducible refine Kd.C_drew ?_))); (case side4 => exact (Kd.R_reads' HO_572002.out).2.1); rintro e w117 ⟨v582, rfl, ho0, hb⟩; refine ⟨_, rfl, ?_⟩; have n0_ := Aside0.mk (Kd.R_below (by (with_reducible repeat (first | apply Kd.R_alloc | apply Kd.R_drewN | apply Kd.R_drew)); exact HO_572001.out) hb); have n1_ := Aside0.mk (Kd.R_elder' (by (with_reducible repeat (first | apply Kd.R_alloc | apply Kd.R_drewN | apply Kd.R_drew)); exact HO_572002.out) (Kd.R_base ho0) hb); have n2_ := Aside0.mk (Kd.R_lower (Kd.R_new' ho0 (Kd.R_lt (by (with_reducible repeat (first | apply Kd.R_alloc | apply Kd.R_drewN | apply Kd.R_drew)); exact HO_572002.out))) (below_size (by repeat (first | (with_reducible first | apply bA | apply bN | apply bD | refine below_set ?_ GE571.out) | exact HB.out)))); have n3_ := Aside0.mk (blk_below (g := gb571) (o := .cells #[.int .i64 200, .slice Ao116 x572001_1.length co116, .slice Ao9 y568.length co9] 51 (0, 0)) (by (with_reducible repeat (first | refine blk_drewN ?_ _ | refine blk_drew ?_ | refine blk_alloc ?_ _)); exact BK571.out) hb); have n4_ := Aside0.mk (below_step (by repeat (first | (with_reducible first | apply bA | apply bN | apply bD | refine below_set ?_ GE571.out) | exact HB.out)) hb); clear HO_572001; clear HO_572002; clear BK571; clear HB; have HO_572001 := n0_; have HO_572002 := n1_; have HO583 := n2_; have BK571 := n3_; have HB := n4_; clear n0_ n1_ n2_ n3_ n4_; (try clear hb); (try clear hb2); (try clear hk); (try clear hi); (try clear ho0)) | ((with_reducible refine gate_callee (f := 28) rfl ?_); refine goesL_ (some 56) rfl rfl Tryd.func28 (by kernel_rfl) rfl #[] rfl (by (try simp only [List.map_toArray, List.map_cons, List.map_nil]); first | done | rfl | (simp only [List.length_drop, List.length_take]; rfl)) ?_; (with_reducible refine (wicketmanlaw10_known.calls  true _ (by first | exact hT | (refine Tb.of_below hT ?_; repeat (first | (with_reducible first | apply bA | apply bN | apply bD) | exact HB.out | refine Below.setCell ?_ (Aside0.out (by assumption)) _)) | (refine Tb.of_below hT ?_; assumption)) (by first | exact hTR | exact Aside0.mk rfl | exact Aside0.mk (by assumption) | exact Aside0.mk (of_eq_true (by assumption)) | exact Aside0.mk (wicketmanlaw10_known.true_ _ A96.out) | exact Aside0.mk (by simp_all)) A96.out).mono ?_); rintro e w118 ⟨rfl, hb⟩; refine ⟨_, rfl, ?_⟩; have n0_ := Aside0.mk (Kd.R_below (by (with_reducible repeat (first | apply Kd.R_alloc | apply Kd.R_drewN | apply Kd.R_drew)); exact HO_572001.out) hb); have n1_ := Aside0.mk (Kd.R_below (by (with_reducible repeat (first | apply Kd.R_alloc | apply Kd.R_drewN | apply Kd.R_drew)); exact HO_572002.out) hb); have n2_ := Aside0.mk (Kd.R_below (by (with_reducible repeat (first | apply Kd.R_alloc | apply Kd.R_drewN | apply Kd.R_drew)); exact HO583.out) hb); have n3_ := Aside0.mk (blk_below (g := gb571) (o := .cells #[.int .i64 200, .slice Ao116 x572001_1.length co116, .slice Ao9 y568.length co9] 51 (0, 0)) (by (with_reducible repeat (first | refine blk_drewN ?_ _ | refine blk_drew ?_ | refine blk_alloc ?_ _)); exact BK571.out) hb); have n4_ := Aside0.mk (below_step (by repeat (first | (with_reducible first | apply bA | apply bN | apply bD | refine below_set ?_ GE571.out) | exact HB.out)) hb); clear HO_572001; clear HO_572002; clear HO583; clear BK571; clear HB; have HO_572001 := n0_; have HO_572002 := n1_; have HO583 := n2_; have BK571 := n3_; have HB := n4_; clear n0_ n1_ n2_ n3_ n4_; (try clear hb); (try clear hb2); (try clear hk); (try clear hi)))
                 go_ret
                 exact ⟨by first | rfl | (simp [errW_none, errW_some] <;> rfl) | (simp only [← hji4]; first | rfl | (simp [errW_none, errW_some] <;> rfl)) | (simp [*, errW_none, errW_some] <;> rfl), by repeat (first | (with_reducible first | apply bA | apply bN | apply bD | refine below_set ?_ GE571.out) | exact HB.out)⟩
                ·rw [if_neg c114] at H
                 have c114b0 : (t584 == 0) = false := beq_eq_false_iff_ne.mpr c114
                 have c114b1 : (t584 != 0) = true := bne_iff_ne.mpr c114
                 exfalso; rw [c114b0] at c112b0; exact absurd c112b0 (by decide)
              ·rw [if_neg c112] at H
               have c112b0 : ((t584 == 0) == (!false)) = false := by simpa using c112
               (try (have c112b1 : decide ((t584 == 0) = (!false)) = false := by simpa using c112))
               (try (have c112b2 : ((t584 == 0) == (!false)) = false := by simpa using c112))
               (try (have c112b3 : ¬ ((t584 == 0) = (!false)) := by simpa using c112))
               clear c112
               exact absurd (Option.some.inj H) (by rw [hTR.out]; decide)
            ·replace c98 := Bool.eq_false_iff.mpr c98
             subst c98
             rw [if_neg (show ¬ (false = true) by decide)] at H
             by_cases c124 : ((t584 == 0) == false) = true
             ·rw [if_pos c124] at H
              have c124b0 : ((t584 == 0) == false) = true := c124
              (try (have c124b1 : decide ((t584 == 0) = false) = true := by simpa using c124))
              (try (have c124b2 : ((t584 == 0) == false) = true := by simpa using c124))
              clear c124
              by_cases c125 : t584 = 3
              ·rw [if_pos c125] at H
               have c125b0 : (t584 == 3) = true := beq_iff_eq.mpr c125
               have c125b1 : (t584 != 3) = false := bne_eq_false_iff_eq.mpr c125
               clear c125
               by_cases c126 : t584 = 0
               ·rw [if_pos c126] at H
                have c126b0 : (t584 == 0) = true := beq_iff_eq.mpr c126
                have c126b1 : (t584 != 0) = false := bne_eq_false_iff_eq.mpr c126
                exfalso; rw [c126b0] at c124b0; exact absurd c124b0 (by decide)
               ·rw [if_neg c126] at H
                have c126b0 : (t584 == 0) = false := beq_eq_false_iff_ne.mpr c126
                have c126b1 : (t584 != 0) = true := bne_iff_ne.mpr c126
                obtain rfl := Option.some.inj H
                have hcz131_0 : wc.cell? ⟨gb571, 0, none⟩ = some (.int .i64 200) := (blk_cell BK571.out 0).trans rfl
                have hcz131_1 : wc.cell? ⟨gb571, 1, none⟩ = some (u572001) := (blk_cell BK571.out 1).trans rfl
                have hcz131_2 : wc.cell? ⟨gb571, 2, none⟩ = some (.slice Ao9 y568.length co9) := (blk_cell BK571.out 2).trans rfl
                have hfz131_0 := blk_frozen BK571.out 0
                have hfz131_1 := blk_frozen BK571.out 1
                have hfz131_2 := blk_frozen BK571.out 2
                obtain ⟨Ao132, co132, eo132⟩ := Kd.R_slice HO_572001.out
                subst eo132
                go_wp2_with (first | ((with_reducible refine gate_callee (f := 27) rfl ?_); refine goesL_ (some 53) rfl rfl Tryd.func27 (by kernel_rfl) rfl #[.agg #[.int .i64 200, .slice Ao132 x572001_1.length co132, .slice Ao9 y568.length co9]] rfl (by (try simp only [List.map_toArray, List.map_cons, List.map_nil]); first | done | rfl | (simp only [List.length_drop, List.length_take]; rfl)) ?_; (with_reducible refine (resp_Print.calls 200 _ _ x572001_1 _ _ y568 t581 t584 _ ?side1 ?side2 ?side3 ?side4 (by first | exact hT | (refine Tb.of_below hT ?_; repeat (first | (with_reducible first | apply bA | apply bN | apply bD) | exact HB.out | refine Below.setCell ?_ (Aside0.out (by assumption)) _)) | (refine Tb.of_below hT ?_; assumption)) A95.out).mono ?_); (case side1 => repeat (first | exact (Kd.R_reads' HO_572001.out).2.2 | (with_reducible refine Kd.C_alloc ?_ _) | (with_reducible refine Kd.C_drewN ?_ _) | (with_reducible refine Kd.C_drew ?_))); (case side2 => exact (Kd.R_reads' HO_572001.out).2.1); (case side3 => repeat (first | exact (Kd.R_reads' HO_572002.out).2.2 | (with_reducible refine Kd.C_alloc ?_ _) | (with_reducible refine Kd.C_drewN ?_ _) | (with_reducible refine Kd.C_drew ?_))); (case side4 => exact (Kd.R_reads' HO_572002.out).2.1); rintro e w133 ⟨v582, rfl, ho0, hb⟩; refine ⟨_, rfl, ?_⟩; have n0_ := Aside0.mk (Kd.R_below (by (with_reducible repeat (first | apply Kd.R_alloc | apply Kd.R_drewN | apply Kd.R_drew)); exact HO_572001.out) hb); have n1_ := Aside0.mk (Kd.R_elder' (by (with_reducible repeat (first | apply Kd.R_alloc | apply Kd.R_drewN | apply Kd.R_drew)); exact HO_572002.out) (Kd.R_base ho0) hb); have n2_ := Aside0.mk (Kd.R_lower (Kd.R_new' ho0 (Kd.R_lt (by (with_reducible repeat (first | apply Kd.R_alloc | apply Kd.R_drewN | apply Kd.R_drew)); exact HO_572002.out))) (below_size (by repeat (first | (with_reducible first | apply bA | apply bN | apply bD | refine below_set ?_ GE571.out) | exact HB.out)))); have n3_ := Aside0.mk (blk_below (g := gb571) (o := .cells #[.int .i64 200, .slice Ao132 x572001_1.length co132, .slice Ao9 y568.length co9] 51 (0, 0)) (by (with_reducible repeat (first | refine blk_drewN ?_ _ | refine blk_drew ?_ | refine blk_alloc ?_ _)); exact BK571.out) hb); have n4_ := Aside0.mk (below_step (by repeat (first | (with_reducible first | apply bA | apply bN | apply bD | refine below_set ?_ GE571.out) | exact HB.out)) hb); clear HO_572001; clear HO_572002; clear BK571; clear HB; have HO_572001 := n0_; have HO_572002 := n1_; have HO583 := n2_; have BK571 := n3_; have HB := n4_; clear n0_ n1_ n2_ n3_ n4_; (try clear hb); (try clear hb2); (try clear hk); (try clear hi); (try clear ho0)) | ((with_reducible refine gate_callee (f := 28) rfl ?_); refine goesL_ (some 56) rfl rfl Tryd.func28 (by kernel_rfl) rfl #[] rfl (by (try simp only [List.map_toArray, List.map_cons, List.map_nil]); first | done | rfl | (simp only [List.length_drop, List.length_take]; rfl)) ?_; (with_reducible refine (wicketmanlaw10_known.calls  true _ (by first | exact hT | (refine Tb.of_below hT ?_; repeat (first | (with_reducible first | apply bA | apply bN | apply bD) | exact HB.out | refine Below.setCell ?_ (Aside0.out (by assumption)) _)) | (refine Tb.of_below hT ?_; assumption)) (by first | exact hTR | exact Aside0.mk rfl | exact Aside0.mk (by assumption) | exact Aside0.mk (of_eq_true (by assumption)) | exact Aside0.mk (wicketmanlaw10_known.true_ _ A96.out) | exact Aside0.mk (by simp_all)) A96.out).mono ?_); rintro e w134 ⟨rfl, hb⟩; refine ⟨_, rfl, ?_⟩; have n0_ := Aside0.mk (Kd.R_below (by (with_reducible repeat (first | apply Kd.R_alloc | apply Kd.R_drewN | apply Kd.R_drew)); exact HO_572001.out) hb); have n1_ := Aside0.mk (Kd.R_below (by (with_reducible repeat (first | apply Kd.R_alloc | apply Kd.R_drewN | apply Kd.R_drew)); exact HO_572002.out) hb); have n2_ := Aside0.mk (Kd.R_below (by (with_reducible repeat (first | apply Kd.R_alloc | apply Kd.R_drewN | apply Kd.R_drew)); exact HO583.out) hb); have n3_ := Aside0.mk (blk_below (g := gb571) (o := .cells #[.int .i64 200, .slice Ao132 x572001_1.length co132, .slice Ao9 y568.length co9] 51 (0, 0)) (by (with_reducible repeat (first | refine blk_drewN ?_ _ | refine blk_drew ?_ | refine blk_alloc ?_ _)); exact BK571.out) hb); have n4_ := Aside0.mk (below_step (by repeat (first | (with_reducible first | apply bA | apply bN | apply bD | refine below_set ?_ GE571.out) | exact HB.out)) hb); clear HO_572001; clear HO_572002; clear HO583; clear BK571; clear HB; have HO_572001 := n0_; have HO_572002 := n1_; have HO583 := n2_; have BK571 := n3_; have HB := n4_; clear n0_ n1_ n2_ n3_ n4_; (try clear hb); (try clear hb2); (try clear hk); (try clear hi); obtain ⟨Ao135, co135, eo135⟩ := Kd.R_slice HO583.out; subst eo135))
                go_ret
                exact ⟨by first | rfl | (simp [errW_none, errW_some] <;> rfl) | (simp only [← hji4]; first | rfl | (simp [errW_none, errW_some] <;> rfl)) | (simp [*, errW_none, errW_some] <;> rfl), by repeat (first | (with_reducible first | apply bA | apply bN | apply bD | refine below_set ?_ GE571.out) | exact HB.out)⟩
              ·rw [if_neg c125] at H
               have c125b0 : (t584 == 3) = false := beq_eq_false_iff_ne.mpr c125
               have c125b1 : (t584 != 3) = true := bne_iff_ne.mpr c125
               by_cases c136 : t584 = 0
               ·rw [if_pos c136] at H
                have c136b0 : (t584 == 0) = true := beq_iff_eq.mpr c136
                have c136b1 : (t584 != 0) = false := bne_eq_false_iff_eq.mpr c136
                exfalso; rw [c136b0] at c124b0; exact absurd c124b0 (by decide)
               ·rw [if_neg c136] at H
                have c136b0 : (t584 == 0) = false := beq_eq_false_iff_ne.mpr c136
                have c136b1 : (t584 != 0) = true := bne_iff_ne.mpr c136
                obtain rfl := Option.some.inj H
                have hcz141_0 : wc.cell? ⟨gb571, 0, none⟩ = some (.int .i64 200) := (blk_cell BK571.out 0).trans rfl
                have hcz141_1 : wc.cell? ⟨gb571, 1, none⟩ = some (u572001) := (blk_cell BK571.out 1).trans rfl
                have hcz141_2 : wc.cell? ⟨gb571, 2, none⟩ = some (.slice Ao9 y568.length co9) := (blk_cell BK571.out 2).trans rfl
                have hfz141_0 := blk_frozen BK571.out 0
                have hfz141_1 := blk_frozen BK571.out 1
                have hfz141_2 := blk_frozen BK571.out 2
                obtain ⟨Ao142, co142, eo142⟩ := Kd.R_slice HO_572001.out
                subst eo142
                go_wp2_with (first | ((with_reducible refine gate_callee (f := 27) rfl ?_); refine goesL_ (some 53) rfl rfl Tryd.func27 (by kernel_rfl) rfl #[.agg #[.int .i64 200, .slice Ao142 x572001_1.length co142, .slice Ao9 y568.length co9]] rfl (by (try simp only [List.map_toArray, List.map_cons, List.map_nil]); first | done | rfl | (simp only [List.length_drop, List.length_take]; rfl)) ?_; (with_reducible refine (resp_Print.calls 200 _ _ x572001_1 _ _ y568 t581 t584 _ ?side1 ?side2 ?side3 ?side4 (by first | exact hT | (refine Tb.of_below hT ?_; repeat (first | (with_reducible first | apply bA | apply bN | apply bD) | exact HB.out | refine Below.setCell ?_ (Aside0.out (by assumption)) _)) | (refine Tb.of_below hT ?_; assumption)) A95.out).mono ?_); (case side1 => repeat (first | exact (Kd.R_reads' HO_572001.out).2.2 | (with_reducible refine Kd.C_alloc ?_ _) | (with_reducible refine Kd.C_drewN ?_ _) | (with_reducible refine Kd.C_drew ?_))); (case side2 => exact (Kd.R_reads' HO_572001.out).2.1); (case side3 => repeat (first | exact (Kd.R_reads' HO_572002.out).2.2 | (with_reducible refine Kd.C_alloc ?_ _) | (with_reducible refine Kd.C_drewN ?_ _) | (with_reducible refine Kd.C_drew ?_))); (case side4 => exact (Kd.R_reads' HO_572002.out).2.1); rintro e w143 ⟨v582, rfl, ho0, hb⟩; refine ⟨_, rfl, ?_⟩; have n0_ := Aside0.mk (Kd.R_below (by (with_reducible repeat (first | apply Kd.R_alloc | apply Kd.R_drewN | apply Kd.R_drew)); exact HO_572001.out) hb); have n1_ := Aside0.mk (Kd.R_elder' (by (with_reducible repeat (first | apply Kd.R_alloc | apply Kd.R_drewN | apply Kd.R_drew)); exact HO_572002.out) (Kd.R_base ho0) hb); have n2_ := Aside0.mk (Kd.R_lower (Kd.R_new' ho0 (Kd.R_lt (by (with_reducible repeat (first | apply Kd.R_alloc | apply Kd.R_drewN | apply Kd.R_drew)); exact HO_572002.out))) (below_size (by repeat (first | (with_reducible first | apply bA | apply bN | apply bD | refine below_set ?_ GE571.out) | exact HB.out)))); have n3_ := Aside0.mk (blk_below (g := gb571) (o := .cells #[.int .i64 200, .slice Ao142 x572001_1.length co142, .slice Ao9 y568.length co9] 51 (0, 0)) (by (with_reducible repeat (first | refine blk_drewN ?_ _ | refine blk_drew ?_ | refine blk_alloc ?_ _)); exact BK571.out) hb); have n4_ := Aside0.mk (below_step (by repeat (first | (with_reducible first | apply bA | apply bN | apply bD | refine below_set ?_ GE571.out) | exact HB.out)) hb); clear HO_572001; clear HO_572002; clear BK571; clear HB; have HO_572001 := n0_; have HO_572002 := n1_; have HO583 := n2_; have BK571 := n3_; have HB := n4_; clear n0_ n1_ n2_ n3_ n4_; (try clear hb); (try clear hb2); (try clear hk); (try clear hi); (try clear ho0)) | ((with_reducible refine gate_callee (f := 28) rfl ?_); refine goesL_ (some 56) rfl rfl Tryd.func28 (by kernel_rfl) rfl #[] rfl (by (try simp only [List.map_toArray, List.map_cons, List.map_nil]); first | done | rfl | (simp only [List.length_drop, List.length_take]; rfl)) ?_; (with_reducible refine (wicketmanlaw10_known.calls  true _ (by first | exact hT | (refine Tb.of_below hT ?_; repeat (first | (with_reducible first | apply bA | apply bN | apply bD) | exact HB.out | refine Below.setCell ?_ (Aside0.out (by assumption)) _)) | (refine Tb.of_below hT ?_; assumption)) (by first | exact hTR | exact Aside0.mk rfl | exact Aside0.mk (by assumption) | exact Aside0.mk (of_eq_true (by assumption)) | exact Aside0.mk (wicketmanlaw10_known.true_ _ A96.out) | exact Aside0.mk (by simp_all)) A96.out).mono ?_); rintro e w144 ⟨rfl, hb⟩; refine ⟨_, rfl, ?_⟩; have n0_ := Aside0.mk (Kd.R_below (by (with_reducible repeat (first | apply Kd.R_alloc | apply Kd.R_drewN | apply Kd.R_drew)); exact HO_572001.out) hb); have n1_ := Aside0.mk (Kd.R_below (by (with_reducible repeat (first | apply Kd.R_alloc | apply Kd.R_drewN | apply Kd.R_drew)); exact HO_572002.out) hb); have n2_ := Aside0.mk (Kd.R_below (by (with_reducible repeat (first | apply Kd.R_alloc | apply Kd.R_drewN | apply Kd.R_drew)); exact HO583.out) hb); have n3_ := Aside0.mk (blk_below (g := gb571) (o := .cells #[.int .i64 200, .slice Ao142 x572001_1.length co142, .slice Ao9 y568.length co9] 51 (0, 0)) (by (with_reducible repeat (first | refine blk_drewN ?_ _ | refine blk_drew ?_ | refine blk_alloc ?_ _)); exact BK571.out) hb); have n4_ := Aside0.mk (below_step (by repeat (first | (with_reducible first | apply bA | apply bN | apply bD | refine below_set ?_ GE571.out) | exact HB.out)) hb); clear HO_572001; clear HO_572002; clear HO583; clear BK571; clear HB; have HO_572001 := n0_; have HO_572002 := n1_; have HO583 := n2_; have BK571 := n3_; have HB := n4_; clear n0_ n1_ n2_ n3_ n4_; (try clear hb); (try clear hb2); (try clear hk); (try clear hi); obtain ⟨Ao145, co145, eo145⟩ := Kd.R_slice HO583.out; subst eo145))
                go_ret
                exact ⟨by first | rfl | (simp [errW_none, errW_some] <;> rfl) | (simp only [← hji4]; first | rfl | (simp [errW_none, errW_some] <;> rfl)) | (simp [*, errW_none, errW_some] <;> rfl), by repeat (first | (with_reducible first | apply bA | apply bN | apply bD | refine below_set ?_ GE571.out) | exact HB.out)⟩
             ·rw [if_neg c124] at H
              have c124b0 : ((t584 == 0) == false) = false := by simpa using c124
              (try (have c124b1 : decide ((t584 == 0) = false) = false := by simpa using c124))
              (try (have c124b2 : ((t584 == 0) == false) = false := by simpa using c124))
              (try (have c124b3 : ¬ ((t584 == 0) = false) := by simpa using c124))
              clear c124
              exact absurd (Option.some.inj H) (by rw [hTR.out]; decide)
           ·replace c97 := Bool.eq_false_iff.mpr c97
            subst c97
            rw [if_neg (show ¬ (false = true) by decide)] at H
            exact absurd (Option.some.inj H) (by rw [hTR.out]; decide)
  ·rw [if_neg c6] at H
   exact absurd H (by simp)
 ·rw [if_neg c5] at H
  exact absurd H (by simp)

end Go.Proofs.YtpfbemcoblganaaDoor.Pall

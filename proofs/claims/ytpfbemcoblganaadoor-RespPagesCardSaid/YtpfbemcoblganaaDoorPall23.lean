-- Written by a program of this session: the kit's print with given contracts. Not trusted: Lean checks it.
import Derived.Test.YtpfbemcoblganaaDoorPall0
import Derived.Test.YtpfbemcoblganaaDoorPall4
import Derived.Test.YtpfbemcoblganaaDoorPall20
import Derived.Test.YtpfbemcoblganaaDoorPall22
namespace Go.Proofs.YtpfbemcoblganaaDoor.Pall
open Go.RowKit Go.Proofs.YtpfbemcoblganaaDoorW.PrintWords Go.Proofs.YtpfbemcoblganaaDoorW.PrintLast Go.Proofs.YtpfbemcoblganaaDoorW.PrintMore
attribute [local go_sem] max2_int min2_int max_two min_two
set_option linter.unusedVariables false
set_option linter.unusedSimpArgs false

/-! ### wicketmanlaw10_RespPages: function 10 -/
mutual
def wicketmanlaw10_RespPages.j0 : Nat → Int → ByteArray → List (S43) → Int → Bool → Option (Bool)
 | 0, _, _, _, _, _ => none
 | k + 1, x0, x1, x2, x3, x26 => if x26 = true then ((wicketmanlaw10_known.f).bind fun t613 => (some t613)) else (if ([] : List (S43)).length + x2.length < 4398046511104 then ((some (([] : List (S43)) ++ x2 : List (S43))).bind fun y614 => ((wicketmanref10_Statuses.f).bind fun t617 => (if (t617.length : Int) = 0 then (none) else (if 0 ≤ (Int.tmod (wrap64 (x3)) (t617.length : Int)) then (if (Int.tmod (wrap64 (x3)) (t617.length : Int)) < (t617.length : Int) then ((resp_Page.f x0 x1 x2).bind fun bt621 => ((wicketmanref10_Page.f x0 x1 y614).bind fun bt629 => ((wicketmanref10_Same.f k bt621.1 bt621.2.1 bt621.2.2 bt629.1 bt629.2.1 bt629.2.2).bind fun t636 => (if t636 = true then ((resp_Page.f (rd t617 (Int.tmod (wrap64 (x3)) (t617.length : Int))) x1 ([] : List (S43))).bind fun bt637 => ((wicketmanref10_Page.f (rd t617 (Int.tmod (wrap64 (x3)) (t617.length : Int))) x1 ([] : List (S43))).bind fun bt644 => ((wicketmanref10_Same.f k bt637.1 bt637.2.1 bt637.2.2 bt644.1 bt644.2.1 bt644.2.2).bind fun t651 => (wicketmanlaw10_RespPages.j1 k x2 y614 t651 bt621.1 bt621.2.1 bt621.2.2)))) else (wicketmanlaw10_RespPages.j1 k x2 y614 false bt621.1 bt621.2.1 bt621.2.2))))) else (none)) else (none))))) else (none))
def wicketmanlaw10_RespPages.j1 : Nat → List (S43) → List (S43) → Bool → Int → List (S43) → List Int → Option (Bool)
 | 0, _, _, _, _, _, _ => none
 | k + 1, x2, x9, x13, x629000, x629001, x629002 => wicketmanlaw10_RespPages.l0 k x2 x9 x13 0 x629000 x629001 x629002
def wicketmanlaw10_RespPages.l0 : Nat → List (S43) → List (S43) → Bool → Int → Int → List (S43) → List Int → Option (Bool)
 | 0, _, _, _, _, _, _, _ => none
 | k + 1, x2, x9, x13, x14, x629000, x629001, x629002 => if x14 < (x629001.length : Int) then (if 0 ≤ x14 then (wicketmanlaw10_RespPages.l0 k x2 x9 x13 (wrap64 (x14 + 1)) x629000 (x629001.set (x14 : Int).toNat (⟨(rd_T43 x629001 x14).f0, (⟨#[63]⟩ : ByteArray)⟩ : S43)) x629002) else (none)) else (if x13 = true then ((wicketmanref07_Same.f k x2 x9).bind fun t653 => (some t653)) else (some false))
end
def wicketmanlaw10_RespPages.f (k : Nat) (a0 : Int) (a1 : ByteArray) (l2 : List (S43)) (a3 : Int) : Option (Bool) := if (a1.size : Int) > 300 then (wicketmanlaw10_RespPages.j0 k a0 a1 l2 a3 true) else (if (l2.length : Int) > 20 then (wicketmanlaw10_RespPages.j0 k a0 a1 l2 a3 true) else ((wicketmanlaw10_known.f).bind fun t612 => (wicketmanlaw10_RespPages.j0 k a0 a1 l2 a3 (!t612))))
theorem wicketmanlaw10_RespPages.mono_l : ∀ k, (∀ y0 y1 y2 y3 y4, LeO (wicketmanlaw10_RespPages.j0 k y0 y1 y2 y3 y4) (wicketmanlaw10_RespPages.j0 (k + 1) y0 y1 y2 y3 y4)) ∧ (∀ y0 y1 y2 y3 y4 y5, LeO (wicketmanlaw10_RespPages.j1 k y0 y1 y2 y3 y4 y5) (wicketmanlaw10_RespPages.j1 (k + 1) y0 y1 y2 y3 y4 y5)) ∧ (∀ y0 y1 y2 y3 y4 y5 y6, LeO (wicketmanlaw10_RespPages.l0 k y0 y1 y2 y3 y4 y5 y6) (wicketmanlaw10_RespPages.l0 (k + 1) y0 y1 y2 y3 y4 y5 y6))
 | 0 => ⟨fun _ _ _ _ _ r h => by simp [wicketmanlaw10_RespPages.j0] at h, fun _ _ _ _ _ _ r h => by simp [wicketmanlaw10_RespPages.j1] at h, fun _ _ _ _ _ _ _ r h => by simp [wicketmanlaw10_RespPages.l0] at h⟩
 | k + 1 => by
  obtain ⟨ih0, ih1, ih2⟩ := wicketmanlaw10_RespPages.mono_l k
  refine ⟨?_, ?_, ?_⟩
  ·intro y0 y1 y2 y3 y4
   unfold wicketmanlaw10_RespPages.j0
   repeat' first
   | (with_reducible exact ih0 _ _ _ _ _)
   | (with_reducible exact ih1 _ _ _ _ _ _)
   | (with_reducible exact ih2 _ _ _ _ _ _ _)
   | (with_reducible exact wicketmanref07_Same.mono _ _ _)
   | (with_reducible exact wicketmanref10_Same.mono _ _ _ _ _ _ _)
   | (with_reducible exact LeO.refl _)
   | (with_reducible exact LeO.none _)
   | (with_reducible refine LeO.ite ?_ ?_)
   | (with_reducible refine LeO.bind ?_ (fun _ => ?_))
   | exact ih0 _ _ _ _ _
   | exact ih1 _ _ _ _ _ _
   | exact ih2 _ _ _ _ _ _ _
   | exact wicketmanref07_Same.mono _ _ _
   | exact wicketmanref10_Same.mono _ _ _ _ _ _ _
   | exact LeO.none _
   | refine LeO.ite ?_ ?_
   | refine LeO.bind ?_ (fun _ => ?_)
  ·intro y0 y1 y2 y3 y4 y5
   unfold wicketmanlaw10_RespPages.j1
   repeat' first
   | (with_reducible exact ih0 _ _ _ _ _)
   | (with_reducible exact ih1 _ _ _ _ _ _)
   | (with_reducible exact ih2 _ _ _ _ _ _ _)
   | (with_reducible exact wicketmanref07_Same.mono _ _ _)
   | (with_reducible exact wicketmanref10_Same.mono _ _ _ _ _ _ _)
   | (with_reducible exact LeO.refl _)
   | (with_reducible exact LeO.none _)
   | (with_reducible refine LeO.ite ?_ ?_)
   | (with_reducible refine LeO.bind ?_ (fun _ => ?_))
   | exact ih0 _ _ _ _ _
   | exact ih1 _ _ _ _ _ _
   | exact ih2 _ _ _ _ _ _ _
   | exact wicketmanref07_Same.mono _ _ _
   | exact wicketmanref10_Same.mono _ _ _ _ _ _ _
   | exact LeO.none _
   | refine LeO.ite ?_ ?_
   | refine LeO.bind ?_ (fun _ => ?_)
  ·intro y0 y1 y2 y3 y4 y5 y6
   unfold wicketmanlaw10_RespPages.l0
   repeat' first
   | (with_reducible exact ih0 _ _ _ _ _)
   | (with_reducible exact ih1 _ _ _ _ _ _)
   | (with_reducible exact ih2 _ _ _ _ _ _ _)
   | (with_reducible exact wicketmanref07_Same.mono _ _ _)
   | (with_reducible exact wicketmanref10_Same.mono _ _ _ _ _ _ _)
   | (with_reducible exact LeO.refl _)
   | (with_reducible exact LeO.none _)
   | (with_reducible refine LeO.ite ?_ ?_)
   | (with_reducible refine LeO.bind ?_ (fun _ => ?_))
   | exact ih0 _ _ _ _ _
   | exact ih1 _ _ _ _ _ _
   | exact ih2 _ _ _ _ _ _ _
   | exact wicketmanref07_Same.mono _ _ _
   | exact wicketmanref10_Same.mono _ _ _ _ _ _ _
   | exact LeO.none _
   | refine LeO.ite ?_ ?_
   | refine LeO.bind ?_ (fun _ => ?_)
theorem wicketmanlaw10_RespPages.mono : ∀ a0 a1 a2 a3 k, LeO (wicketmanlaw10_RespPages.f k a0 a1 a2 a3) (wicketmanlaw10_RespPages.f (k + 1) a0 a1 a2 a3) := by
 intro a0 a1 a2 a3 k
 obtain ⟨ih0, ih1, ih2⟩ := wicketmanlaw10_RespPages.mono_l k
 unfold wicketmanlaw10_RespPages.f
 repeat' first
   | (with_reducible exact ih0 _ _ _ _ _)
   | (with_reducible exact ih1 _ _ _ _ _ _)
   | (with_reducible exact ih2 _ _ _ _ _ _ _)
   | (with_reducible exact wicketmanref07_Same.mono _ _ _)
   | (with_reducible exact wicketmanref10_Same.mono _ _ _ _ _ _ _)
   | (with_reducible exact LeO.refl _)
   | (with_reducible exact LeO.none _)
   | (with_reducible refine LeO.ite ?_ ?_)
   | (with_reducible refine LeO.bind ?_ (fun _ => ?_))
   | exact ih0 _ _ _ _ _
   | exact ih1 _ _ _ _ _ _
   | exact ih2 _ _ _ _ _ _ _
   | exact wicketmanref07_Same.mono _ _ _
   | exact wicketmanref10_Same.mono _ _ _ _ _ _ _
   | exact LeO.none _
   | refine LeO.ite ?_ ?_
   | refine LeO.bind ?_ (fun _ => ?_)
def wicketmanlaw10_RespPages.T8 : Bool × List (List Nat × List Nat) := (true, [([], []), ([], []), ([], []), ([], []), ([1, 2, 3], [1, 2, 3]), ([0, 4, 4], [0, 4]), ([5, 5], [5]), ([6], [6]), ([6], [6]), ([7, 8, 6, 6], [6, 7, 8]), ([6], [6]), ([6], [6]), ([10, 11, 9, 6], [6, 10, 11]), ([9, 12, 12, 6], [6, 9, 12]), ([6, 13], [6, 13]), ([14, 13, 0, 1, 2, 3, 4, 5, 6, 7, 8, 9, 10, 11, 12, 13, 14], [14])])
def wicketmanlaw10_RespPages.B8 : List Nat := [0, 0, 0, 0, 14, 31, 63, 127, 127, 511, 127, 127, 4095, 8191, 16383, 32767]
theorem wicketmanlaw10_RespPages.tab8 : rtab .any (opsOf Tryd.f10 8) = wicketmanlaw10_RespPages.T8 := by kernel_rfl
theorem wicketmanlaw10_RespPages.bits8 : waitsOk wicketmanlaw10_RespPages.T8.2 wicketmanlaw10_RespPages.B8 = true := by kernel_rfl
set_option maxHeartbeats 8000000 in
set_option maxRecDepth 100000 in
theorem wicketmanlaw10_RespPages.calls (k : Nat) (a0 : Int) (a1 : ByteArray) (A2 : Option Addr) (c2 : Nat) (l2 : List (S43)) (a3 : Int) (r : Bool) (w : World) (hr2 : Kd.C k43 w A2 l2.length l2) (hc2 : l2.length ≤ c2) (hT : Tb w) (hTR : Aside0 (r = true)) (h : wicketmanlaw10_RespPages.f k a0 a1 l2 a3 = some r) :
  Calls Tryd.prog 10 #[.int .i64 a0, .string a1, .slice A2 l2.length c2, .int .u8 a3] w fun e w' => e = .returned (.bool r) ∧ Below w.heap.size w w' := by
 have hu51 := Tryd.underlying51
 have HR2 := Aside0.mk hr2
 have HC2 := Aside0.mk hc2
 clear hr2 hc2
 have HB := Aside0.mk (Below.refl w.heap.size w)
 have H : (if (a1.size : Int) > 300 then (wicketmanlaw10_RespPages.j0 k a0 a1 l2 a3 true) else (if (l2.length : Int) > 20 then (wicketmanlaw10_RespPages.j0 k a0 a1 l2 a3 true) else ((wicketmanlaw10_known.f).bind fun t612 => (wicketmanlaw10_RespPages.j0 k a0 a1 l2 a3 (!t612))))) = some r := h
 clear h
 have HC5 := Aside0.mk H
 clear H
 go_enter Tryd.func10, Tryd.ntmps10
 go_upto_region 1 with (fail)
 go_cut [26] (fun v26 wc => ∃ (kq : Nat) (x26_4 : Bool), v26 = .bool x26_4 ∧ Aside0 (wicketmanlaw10_RespPages.j0 kq a0 a1 l2 a3 x26_4 = some r) ∧ Aside0 (kq ≤ k) ∧ Aside0 (Below w.heap.size w wc))
 case first =>
  have H := HC5.out
  clear HC5
  by_cases c6 : (a1.size : Int) > 300
  ·rw [if_pos c6] at H
   have c6b0 : decide (300 < (a1.size : Int)) = true := decide_eq_true c6
   have c6b1 : decide (300 < a1.size) = true := decide_eq_true (by omega)
   clear c6
   (first | rw [c6b0] | (simp only [i64_w, i32_w]; rw [c6b0]) | skip)
   have H' := Aside0.mk H
   clear H
   go_wp2
   go_meet
   case rel => exact ⟨_, (true), (by first | rfl | (simp; done) | (simp [*]; done)), H', ⟨by first | omega | exact Nat.le_refl _⟩, ⟨by repeat (first | (with_reducible first | apply bA | apply bN | apply bD) | exact HB.out)⟩⟩
  ·rw [if_neg c6] at H
   have c6b0 : decide (300 < (a1.size : Int)) = false := decide_eq_false c6
   have c6b1 : decide (300 < a1.size) = false := decide_eq_false (by omega)
   clear c6
   (first | rw [c6b0] | (simp only [i64_w, i32_w]; rw [c6b0]) | skip)
   by_cases c7 : (l2.length : Int) > 20
   ·rw [if_pos c7] at H
    have c7b0 : decide (20 < (l2.length : Int)) = true := decide_eq_true c7
    have c7b1 : decide (20 < l2.length) = true := decide_eq_true (by omega)
    clear c7
    have H' := Aside0.mk H
    clear H
    go_wp2
    go_meet
    case rel => exact ⟨_, (true), (by first | rfl | (simp; done) | (simp [*]; done)), H', ⟨by first | omega | exact Nat.le_refl _⟩, ⟨by repeat (first | (with_reducible first | apply bA | apply bN | apply bD) | exact HB.out)⟩⟩
   ·rw [if_neg c7] at H
    have c7b0 : decide (20 < (l2.length : Int)) = false := decide_eq_false c7
    have c7b1 : decide (20 < l2.length) = false := decide_eq_false (by omega)
    clear c7
    replace H := Option.bind_eq_some_iff.mp H
    obtain ⟨t612, A80, H⟩ := H
    try dsimp only at H
    have A8 := Aside0.mk A80
    clear A80
    have H' := Aside0.mk H
    clear H
    go_wp2_with (first | (go_at_call 28; (with_reducible refine (wicketmanlaw10_known.calls  t612 _ (by first | exact hT | (refine Tb.of_below hT ?_; repeat (first | (with_reducible first | apply bA | apply bN | apply bD) | exact HB.out | refine Below.setCell ?_ (Aside0.out (by assumption)) _)) | (refine Tb.of_below hT ?_; assumption)) (by first | exact hTR | exact Aside0.mk rfl | exact Aside0.mk (by assumption) | exact Aside0.mk (of_eq_true (by assumption)) | exact Aside0.mk (wicketmanlaw10_known.true_ _ A8.out) | exact Aside0.mk (by simp_all)) A8.out).mono ?_); rintro e w9 ⟨rfl, hb⟩; have n0_ := Aside0.mk (below_step (by repeat (first | (with_reducible first | apply bA | apply bN | apply bD) | exact HB.out)) hb); clear HB; have HB := n0_; clear n0_; (try clear hb); (try clear hb2); (try clear hk); (try clear hi)))
    go_meet
    case rel => exact ⟨_, (!t612), (by first | rfl | (simp; done) | (simp [*]; done)), H', ⟨by first | omega | exact Nat.le_refl _⟩, ⟨by repeat (first | (with_reducible first | apply bA | apply bN | apply bD) | exact HB.out)⟩⟩
 case rest =>
  clear HC5
  try clear c1
  try clear c2
  try clear p2
  try clear c6
  try clear c6b0
  try clear c6b1
  try clear c7
  try clear c7b0
  try clear c7b1
  obtain ⟨kq, x26_4, rfl, HA, HJ4, HB⟩ := hcut
  cases kq with
  | zero => exact absurd HA.out (by simp [wicketmanlaw10_RespPages.j0])
  | succ kj4 =>
   have H := HA.out
   clear HA
   simp only [wicketmanlaw10_RespPages.j0] at H
   by_cases c10 : x26_4 = true
   ·subst c10
    rw [if_pos rfl] at H
    replace H := Option.bind_eq_some_iff.mp H
    obtain ⟨t613, A110, H⟩ := H
    try dsimp only at H
    have A11 := Aside0.mk A110
    clear A110
    obtain rfl := Option.some.inj H
    go_wp2_with (first | ((with_reducible refine gate_callee (f := 28) rfl ?_); refine goesL_ (some 27) rfl rfl Tryd.func28 (by kernel_rfl) rfl #[] rfl (by (try simp only [List.map_toArray, List.map_cons, List.map_nil]); first | done | rfl | (simp only [List.length_drop, List.length_take]; rfl)) ?_; (with_reducible refine (wicketmanlaw10_known.calls  t613 _ (by first | exact hT | (refine Tb.of_below hT ?_; repeat (first | (with_reducible first | apply bA | apply bN | apply bD) | exact HB.out | refine Below.setCell ?_ (Aside0.out (by assumption)) _)) | (refine Tb.of_below hT ?_; assumption)) (by first | exact hTR | exact Aside0.mk rfl | exact Aside0.mk (by assumption) | exact Aside0.mk (of_eq_true (by assumption)) | exact Aside0.mk (wicketmanlaw10_known.true_ _ A11.out) | exact Aside0.mk (by simp_all)) A11.out).mono ?_); rintro e w12 ⟨rfl, hb⟩; refine ⟨_, rfl, ?_⟩; have n0_ := Aside0.mk (below_step (by repeat (first | (with_reducible first | apply bA | apply bN | apply bD) | exact HB.out)) hb); clear HB; have HB := n0_; clear n0_; (try clear hb); (try clear hb2); (try clear hk); (try clear hi)))
    go_ret
    exact ⟨by first | rfl | (simp [errW_none, errW_some] <;> rfl) | (simp [*, errW_none, errW_some] <;> rfl), by repeat (first | (with_reducible first | apply bA | apply bN | apply bD) | exact HB.out)⟩
   ·replace c10 := Bool.eq_false_iff.mpr c10
    subst c10
    rw [if_neg (show ¬ (false = true) by decide)] at H
    by_cases c13 : ([] : List (S43)).length + l2.length < 4398046511104
    ·rw [if_pos c13] at H
     have LMc13 := Aside0.mk c13
     clear c13
     obtain ⟨y614, hy614⟩ : ∃ y_ : List (S43), y_ = (([] : List (S43)) ++ l2) := ⟨_, rfl⟩
     replace H : ((wicketmanref10_Statuses.f).bind fun t617 => (if (t617.length : Int) = 0 then (none) else (if 0 ≤ (Int.tmod (wrap64 (a3)) (t617.length : Int)) then (if (Int.tmod (wrap64 (a3)) (t617.length : Int)) < (t617.length : Int) then ((resp_Page.f a0 a1 l2).bind fun bt621 => ((wicketmanref10_Page.f a0 a1 y614).bind fun bt629 => ((wicketmanref10_Same.f kj4 bt621.1 bt621.2.1 bt621.2.2 bt629.1 bt629.2.1 bt629.2.2).bind fun t636 => (if t636 = true then ((resp_Page.f (rd t617 (Int.tmod (wrap64 (a3)) (t617.length : Int))) a1 ([] : List (S43))).bind fun bt637 => ((wicketmanref10_Page.f (rd t617 (Int.tmod (wrap64 (a3)) (t617.length : Int))) a1 ([] : List (S43))).bind fun bt644 => ((wicketmanref10_Same.f kj4 bt637.1 bt637.2.1 bt637.2.2 bt644.1 bt644.2.1 bt644.2.2).bind fun t651 => (wicketmanlaw10_RespPages.j1 kj4 l2 y614 t651 bt621.1 bt621.2.1 bt621.2.2)))) else (wicketmanlaw10_RespPages.j1 kj4 l2 y614 false bt621.1 bt621.2.1 bt621.2.2))))) else (none)) else (none)))) = some r := by first | (rw [hy614]; with_reducible exact H) | (have H2_ := (Option.bind_some _ _).symm.trans H; rw [hy614]; with_reducible exact H2_) | (have H2_ := (Option.bind_some _ _).symm.trans H; with_reducible exact H2_) | with_reducible exact H | (rw [hy614]; exact H) | exact H
     have Ny614 := Aside0.mk hy614
     clear hy614
     replace H := Option.bind_eq_some_iff.mp H
     obtain ⟨t617, A140, H⟩ := H
     try dsimp only at H
     have A14 := Aside0.mk A140
     clear A140
     by_cases c15 : (t617.length : Int) = 0
     ·rw [if_pos c15] at H
      exact absurd H (by simp)
     ·rw [if_neg c15] at H
      have c15b0 : ((t617.length : Int) == 0) = false := beq_eq_false_iff_ne.mpr c15
      have c15b1 : ((t617.length : Int) != 0) = true := bne_iff_ne.mpr c15
      have c15b2 : ¬ (t617 = []) := fun h_ => c15 (by rw [h_]; rfl)
      obtain ⟨ji16, hji16⟩ : ∃ j_ : Int, (Int.tmod (wrap64 (a3)) (t617.length : Int)) = j_ := ⟨_, rfl⟩
      replace H : (if 0 ≤ (ji16) then (if (ji16) < (t617.length : Int) then ((resp_Page.f a0 a1 l2).bind fun bt621 => ((wicketmanref10_Page.f a0 a1 y614).bind fun bt629 => ((wicketmanref10_Same.f kj4 bt621.1 bt621.2.1 bt621.2.2 bt629.1 bt629.2.1 bt629.2.2).bind fun t636 => (if t636 = true then ((resp_Page.f (rd t617 (ji16)) a1 ([] : List (S43))).bind fun bt637 => ((wicketmanref10_Page.f (rd t617 (ji16)) a1 ([] : List (S43))).bind fun bt644 => ((wicketmanref10_Same.f kj4 bt637.1 bt637.2.1 bt637.2.2 bt644.1 bt644.2.1 bt644.2.2).bind fun t651 => (wicketmanlaw10_RespPages.j1 kj4 l2 y614 t651 bt621.1 bt621.2.1 bt621.2.2)))) else (wicketmanlaw10_RespPages.j1 kj4 l2 y614 false bt621.1 bt621.2.1 bt621.2.2))))) else (none)) else (none)) = some r := by first | (rw [hji16] at H; exact H) | (simp only [hji16] at H ⊢; exact H)
      (try rw [hji16] at A14)
      by_cases c17 : 0 ≤ (ji16)
      ·rw [if_pos c17] at H
       have c17b0 : decide (0 ≤ (ji16)) = true := decide_eq_true c17
       clear c17
       by_cases c18 : (ji16) < (t617.length : Int)
       ·rw [if_pos c18] at H
        have c18b0 : decide ((ji16) < (t617.length : Int)) = true := decide_eq_true c18
        clear c18
        replace H := Option.bind_eq_some_iff.mp H
        obtain ⟨⟨t621, t622, t625⟩, A190, H⟩ := H
        try dsimp only at H
        have A19 := Aside0.mk A190
        clear A190
        have HC20 := Aside0.mk H
        clear H
        go_upto_region 8 with (first | ((with_reducible refine gate_builtin (b := .append) (xs := #[.tmp 28, .tmp 29]) rfl ?_); (try (refine gate_guard (by rfl) ?_; dsimp only)); at_builtin; refine Kd.R_append_rows k43 (w0 := w) w.heap.size rfl (.tmp 28) (.tmp 29) 34 43 (.agg #[(.string ⟨#[]⟩), (.string ⟨#[]⟩)]) 32 rfl Tryd.underlying34 info43 rfl (by decide) (by omega) (.slice none 0 0) ([] : List (S43)) l2 _ _ _ (fun _ => True) (fun _ => False) rfl rfl ?aO ?aR (fun _ _ h => h) (fun _ h => h.elim) ?aF ?aB ?aS ?aL ?_; (case aR => repeat (first | exact (Kd.C_below HR2.out HB.out) | (with_reducible refine Kd.C_alloc ?_ _) | (with_reducible refine Kd.C_drewN ?_ _) | (with_reducible refine Kd.C_drew ?_))); (case aB => exact (by repeat (first | (with_reducible first | apply bA | apply bN | apply bD) | exact HB.out))); (case aF => exact (fun _ _ => trivial)); (case aO => exact ((Kd.R_nil _ _ _ _ (fun _ => True)))); (case aS => exact (below_size (by repeat (first | (with_reducible first | apply bA | apply bN | apply bD) | exact HB.out)))); (case aL => have := LMc13.out; omega); intro v615 w21 ho hb hg hat; rw [← Ny614.out] at ho; have n0_ := Aside0.mk (hb); have n1_ := Aside0.mk (ho); clear HB; have HB := n0_; have HO616 := n1_; clear n0_ n1_; clear ho hb hg hat) | ((with_reducible refine gate_callee (f := 29) rfl ?_); refine goesL_ (some 31) rfl rfl Tryd.func29 (by kernel_rfl) rfl #[] rfl (by (try simp only [List.map_toArray, List.map_cons, List.map_nil]); first | done | rfl | (simp only [List.length_drop, List.length_take]; rfl)) ?_; (with_reducible refine (wicketmanref10_Statuses.calls  t617 _ A14.out).mono ?_); rintro e w22 ⟨v618, rfl, ho0, hb⟩; refine ⟨_, rfl, ?_⟩; have n0_ := Aside0.mk (Kd.R_below (by (with_reducible repeat (first | apply Kd.R_alloc | apply Kd.R_drewN | apply Kd.R_drew)); exact HO616.out) hb); have n1_ := Aside0.mk (Kd.R_lower ho0 (below_size (by repeat (first | (with_reducible first | apply bA | apply bN | apply bD) | exact HB.out)))); have n2_ := Aside0.mk (below_step (by repeat (first | (with_reducible first | apply bA | apply bN | apply bD) | exact HB.out)) hb); clear HO616; clear HB; have HO616 := n0_; have HO619 := n1_; have HB := n2_; clear n0_ n1_ n2_; (try clear hb); (try clear hb2); (try clear hk); (try clear hi); (try clear ho0); obtain ⟨Ao23, co23, eo23⟩ := Kd.R_slice HO619.out; subst eo23; have p620 : 0 ≤ ((ji16) : Int) := of_decide_eq_true (by first | (with_reducible assumption) | assumption); have q620 : (ji16) < (t617.length : Int) := of_decide_eq_true (by first | (with_reducible assumption) | assumption); obtain ⟨ad620, e620, hx620_0⟩ := Kd.at_int (Kd.R_reads' HO619.out).2.2 (ji16) p620 q620; cases e620; replace p620 := eq_true p620; replace q620 := eq_true q620) | ((with_reducible refine gate_callee (f := 30) rfl ?_); refine goesL_ (some 43) rfl rfl Tryd.func30 (by kernel_rfl) rfl #[.int .i64 a0, .string a1, .slice A2 l2.length c2] rfl (by (try simp only [List.map_toArray, List.map_cons, List.map_nil]); first | done | rfl | (simp only [List.length_drop, List.length_take]; rfl)) ?_; (with_reducible refine (resp_Page.calls a0 a1 _ _ l2 t621 t622 t625 _ ?side1 ?side2 A19.out).mono ?_); (case side1 => repeat (first | exact (Kd.C_below HR2.out HB.out) | (with_reducible refine Kd.C_alloc ?_ _) | (with_reducible refine Kd.C_drewN ?_ _) | (with_reducible refine Kd.C_drew ?_))); (case side2 => exact HC2.out); rintro e w24 ⟨v623, v626, rfl, ho0, ho1, hb⟩; refine ⟨_, rfl, ?_⟩; have n0_ := Aside0.mk (Kd.R_elder' (by (with_reducible repeat (first | apply Kd.R_alloc | apply Kd.R_drewN | apply Kd.R_drew)); exact HO616.out) (Kd.R_base ho0) hb); have n1_ := Aside0.mk (Kd.R_below (by (with_reducible repeat (first | apply Kd.R_alloc | apply Kd.R_drewN | apply Kd.R_drew)); exact HO619.out) hb); have n2_ := Aside0.mk (Kd.R_lower (Kd.R_new' (Kd.R_mono (ok' := fun k_ => True) ho0 (fun _ hk_ => trivial)) (Kd.R_lt (by (with_reducible repeat (first | apply Kd.R_alloc | apply Kd.R_drewN | apply Kd.R_drew)); exact HO616.out))) (below_size (by repeat (first | (with_reducible first | apply bA | apply bN | apply bD) | exact HB.out)))); have n3_ := Aside0.mk (Kd.V_lower (Kd.V_mono (ok' := fun k_ => some k_ ≠ (v623 : Value).ownBlock ∧ some k_ ≠ (v615 : Value).ownBlock ∧ some k_ ≠ (.slice (some ad620) t617.length co23 : Value).ownBlock) ho1 (fun k_ hk_ => ⟨hk_.2, (Kd.fresh' (Kd.R_lt (by (with_reducible repeat (first | apply Kd.R_alloc | apply Kd.R_drewN | apply Kd.R_drew)); exact HO616.out)) k_ hk_.1), (Kd.fresh' (Kd.R_lt (by (with_reducible repeat (first | apply Kd.R_alloc | apply Kd.R_drewN | apply Kd.R_drew)); exact HO619.out)) k_ hk_.1)⟩)) (below_size (by repeat (first | (with_reducible first | apply bA | apply bN | apply bD) | exact HB.out)))); have n4_ := Aside0.mk (below_step (by repeat (first | (with_reducible first | apply bA | apply bN | apply bD) | exact HB.out)) hb); clear HO616; clear HO619; clear HB; have HO616 := n0_; have HO619 := n1_; have HO624 := n2_; have HO627 := n3_; have HB := n4_; clear n0_ n1_ n2_ n3_ n4_; (try clear hb); (try clear hb2); (try clear hk); (try clear hi); (try clear ho0); (try clear ho1)) | ((with_reducible refine gate_dst (N := 12) rfl ?_); (try (refine gate_guard (by rfl) ?_; dsimp only)); refine box_event ?hg (N := 12) ?hd (cs := #[.int .i64 0, .slice none 0 0, .slice none 0 0]) (t := 51) ?hr ?_; (case hd => rfl); (case hg => rfl); (case hr => first | (go_simp; done) | (go_simp; rfl)); intro gb628 hg w25 hbox hb; have n0_ := Aside0.mk (Kd.R_below (by (with_reducible repeat (first | apply Kd.R_alloc | apply Kd.R_drewN | apply Kd.R_drew)); exact HO616.out) hb); have n1_ := Aside0.mk (Kd.R_below (by (with_reducible repeat (first | apply Kd.R_alloc | apply Kd.R_drewN | apply Kd.R_drew)); exact HO619.out) hb); have n2_ := Aside0.mk (Kd.R_below (by (with_reducible repeat (first | apply Kd.R_alloc | apply Kd.R_drewN | apply Kd.R_drew)); exact HO624.out) hb); have n3_ := Aside0.mk (Kd.V_below (Kd.V_elderB (by (with_reducible repeat (first | apply Kd.V_alloc | apply Kd.V_drewN | apply Kd.V_drew)); exact HO627.out) gb628 (Nat.le_of_eq hg.symm)) hb); have n4_ := Aside0.mk (below_step (by repeat (first | (with_reducible first | apply bA | apply bN | apply bD) | exact HB.out)) hb); have n5_ := Aside0.mk (hbox); have n6_ := Aside0.mk ((by rw [hg]; exact (below_size (by repeat (first | (with_reducible first | apply bA | apply bN | apply bD) | exact HB.out))) : w.heap.size ≤ gb628)); have n7_ := Aside0.mk ((by rw [hg]; exact (below_size (by repeat (first | (with_reducible first | apply bA | apply bN | apply bD) | exact HB.out))) : w.heap.size ≤ gb628)); clear HO616; clear HO619; clear HO624; clear HO627; clear HB; have HO616 := n0_; have HO619 := n1_; have HO624 := n2_; have HO627 := n3_; have HB := n4_; have BK628 := n5_; have GW628 := n6_; have GE628 := n7_; clear n0_ n1_ n2_ n3_ n4_ n5_ n6_ n7_; clear hb hbox hg; have hcz26_0 : w25.cell? ⟨gb628, 0, none⟩ = some (.int .i64 0) := (blk_cell BK628.out 0).trans rfl; have hcz26_1 : w25.cell? ⟨gb628, 1, none⟩ = some (.slice none 0 0) := (blk_cell BK628.out 1).trans rfl; have hcz26_2 : w25.cell? ⟨gb628, 2, none⟩ = some (.slice none 0 0) := (blk_cell BK628.out 2).trans rfl; have hfz26_0 := blk_frozen BK628.out 0; have hfz26_1 := blk_frozen BK628.out 1; have hfz26_2 := blk_frozen BK628.out 2; obtain ⟨Ao27, co27, eo27⟩ := Kd.R_slice HO624.out; subst eo27; obtain ⟨Ao28, co28, eo28⟩ := Kd.V_slice HO627.out; subst eo28))
        (try simp only [Act.put, List.setIfInBounds_toArray, List.set_cons_zero, List.set_cons_succ])
        go_cut [13] (fun v13 wc => ∃ (kq : Nat) (x13_19 : Bool), v13 = .bool x13_19 ∧ Aside0 (wicketmanlaw10_RespPages.j1 kq l2 y614 x13_19 t621 t622 t625 = some r) ∧ Aside0 (kq ≤ kj4) ∧ Aside0 (Kd.R k43 43 wc w.heap.size (fun k_ => some k_ ≠ ((.slice Ao27 t622.length co27) : Value).ownBlock) v615 y614) ∧ Aside0 (Kd.R k43 43 wc w.heap.size (fun k_ => some k_ ≠ (v615 : Value).ownBlock) (.slice Ao27 t622.length co27) t622) ∧ Aside0 (Kd.V (Kd.int .u8) 5 wc w.heap.size (fun k_ => some k_ ≠ (v615 : Value).ownBlock ∧ some k_ ≠ ((.slice Ao27 t622.length co27) : Value).ownBlock ∧ k_ ≠ gb628) (.slice Ao28 t625.length co28) t625) ∧ Aside0 (wc.heap[gb628]? = some (.cells #[.int .i64 t621, (.slice Ao27 t622.length co27), (.slice Ao28 t625.length co28)] 51 (0, 0))) ∧ Aside0 (Below w.heap.size w wc))
        case first =>
         have H := HC20.out
         clear HC20
         replace H := Option.bind_eq_some_iff.mp H
         obtain ⟨⟨t629, t630, t633⟩, A290, H⟩ := H
         try dsimp only at H
         have A29 := Aside0.mk A290
         clear A290
         replace H := Option.bind_eq_some_iff.mp H
         obtain ⟨t636, A300, H⟩ := H
         try dsimp only at H
         have A30 := Aside0.mk A300
         clear A300
         by_cases c31 : t636 = true
         ·subst c31
          rw [if_pos rfl] at H
          replace H := Option.bind_eq_some_iff.mp H
          obtain ⟨⟨t637, t638, t641⟩, A320, H⟩ := H
          try dsimp only at H
          have A32 := Aside0.mk A320
          clear A320
          replace H := Option.bind_eq_some_iff.mp H
          obtain ⟨⟨t644, t645, t648⟩, A330, H⟩ := H
          try dsimp only at H
          have A33 := Aside0.mk A330
          clear A330
          replace H := Option.bind_eq_some_iff.mp H
          obtain ⟨t651, A340, H⟩ := H
          try dsimp only at H
          have A34 := Aside0.mk A340
          clear A340
          have H' := Aside0.mk H
          clear H
          try go_wp2
          have n0_ : Aside0 (Kd.R k43 43 (((w25.setCell ⟨gb628, 0, none⟩ (.int .i64 t621)).setCell ⟨gb628, 1, none⟩ (.slice Ao27 t622.length co27)).setCell ⟨gb628, 2, none⟩ (.slice Ao28 t625.length co28)) w.heap.size (fun k_ => some k_ ≠ (.slice Ao27 t622.length co27 : Value).ownBlock) v615 y614) := ⟨by (with_reducible repeat (first | apply Kd.R_alloc | apply Kd.R_drewN | apply Kd.R_drew)); exact Kd.R_mono (Kd.R_far (p := ⟨gb628, 2, none⟩) (Kd.R_far (p := ⟨gb628, 1, none⟩) (Kd.R_far (p := ⟨gb628, 0, none⟩) (Kd.R_types HO616.out BK628.out (by decide)) (fun _ hk => hk.2) (.int .i64 t621)) (fun _ hk => hk.2) (.slice Ao27 t622.length co27)) (fun _ hk => hk.2) (.slice Ao28 t625.length co28)) (fun _ hk => hk.1.2)⟩
          have n1_ : Aside0 (Kd.R (Kd.int .i64) 3 (((w25.setCell ⟨gb628, 0, none⟩ (.int .i64 t621)).setCell ⟨gb628, 1, none⟩ (.slice Ao27 t622.length co27)).setCell ⟨gb628, 2, none⟩ (.slice Ao28 t625.length co28)) w.heap.size (fun _ => True) (.slice (some ad620) t617.length co23) t617) := ⟨by (with_reducible repeat (first | apply Kd.R_alloc | apply Kd.R_drewN | apply Kd.R_drew)); exact Kd.R_mono (Kd.R_far (p := ⟨gb628, 2, none⟩) (Kd.R_far (p := ⟨gb628, 1, none⟩) (Kd.R_far (p := ⟨gb628, 0, none⟩) (Kd.R_types HO619.out BK628.out (by decide)) (fun _ hk => hk.2) (.int .i64 t621)) (fun _ hk => hk.2) (.slice Ao27 t622.length co27)) (fun _ hk => hk.2) (.slice Ao28 t625.length co28)) (fun _ hk => trivial)⟩
          have n2_ : Aside0 (Kd.R k43 43 (((w25.setCell ⟨gb628, 0, none⟩ (.int .i64 t621)).setCell ⟨gb628, 1, none⟩ (.slice Ao27 t622.length co27)).setCell ⟨gb628, 2, none⟩ (.slice Ao28 t625.length co28)) w.heap.size (fun k_ => some k_ ≠ (v615 : Value).ownBlock) (.slice Ao27 t622.length co27) t622) := ⟨by (with_reducible repeat (first | apply Kd.R_alloc | apply Kd.R_drewN | apply Kd.R_drew)); exact Kd.R_mono (Kd.R_far (p := ⟨gb628, 2, none⟩) (Kd.R_far (p := ⟨gb628, 1, none⟩) (Kd.R_far (p := ⟨gb628, 0, none⟩) (Kd.R_types HO624.out BK628.out (by decide)) (fun _ hk => hk.2) (.int .i64 t621)) (fun _ hk => hk.2) (.slice Ao27 t622.length co27)) (fun _ hk => hk.2) (.slice Ao28 t625.length co28)) (fun _ hk => hk.1.2)⟩
          have n3_ : Aside0 (Kd.V (Kd.int .u8) 5 (((w25.setCell ⟨gb628, 0, none⟩ (.int .i64 t621)).setCell ⟨gb628, 1, none⟩ (.slice Ao27 t622.length co27)).setCell ⟨gb628, 2, none⟩ (.slice Ao28 t625.length co28)) w.heap.size (fun k_ => some k_ ≠ (v615 : Value).ownBlock ∧ some k_ ≠ (.slice (some ad620) t617.length co23 : Value).ownBlock ∧ some k_ ≠ (.slice Ao27 t622.length co27 : Value).ownBlock ∧ k_ ≠ gb628) (.slice Ao28 t625.length co28) t625) := ⟨by (with_reducible repeat (first | apply Kd.V_alloc | apply Kd.V_drewN | apply Kd.V_drew)); exact Kd.V_mono (Kd.V_far (p := ⟨gb628, 2, none⟩) (Kd.V_far (p := ⟨gb628, 1, none⟩) (Kd.V_far (p := ⟨gb628, 0, none⟩) (Kd.V_mono HO627.out (fun k_ hk => (⟨hk, hk.2⟩ : _ ∧ k_ ≠ gb628))) (fun _ hk => hk.2) (.int .i64 t621)) (fun _ hk => hk.2) (.slice Ao27 t622.length co27)) (fun _ hk => hk.2) (.slice Ao28 t625.length co28)) (fun _ hk => ⟨hk.1.1.2.1, ⟨hk.1.1.2.2, ⟨hk.1.1.1, hk.1.2⟩⟩⟩)⟩
          have n4_ : Aside0 ((((w25.setCell ⟨gb628, 0, none⟩ (.int .i64 t621)).setCell ⟨gb628, 1, none⟩ (.slice Ao27 t622.length co27)).setCell ⟨gb628, 2, none⟩ (.slice Ao28 t625.length co28)).heap[gb628]? = some (.cells #[.int .i64 t621, .slice Ao27 t622.length co27, .slice Ao28 t625.length co28] 51 (0, 0))) := ⟨by (with_reducible repeat (first | refine blk_drewN ?_ _ | refine blk_drew ?_ | refine blk_alloc ?_ _)); refine blk_put (cs := #[.int .i64 t621, .slice Ao27 t622.length co27, .slice none 0 0]) ?_ 2 _ rfl; (with_reducible repeat (first | refine blk_drewN ?_ _ | refine blk_drew ?_ | refine blk_alloc ?_ _)); refine blk_put (cs := #[.int .i64 t621, .slice none 0 0, .slice none 0 0]) ?_ 1 _ rfl; (with_reducible repeat (first | refine blk_drewN ?_ _ | refine blk_drew ?_ | refine blk_alloc ?_ _)); refine blk_put (cs := #[.int .i64 0, .slice none 0 0, .slice none 0 0]) ?_ 0 _ rfl; (with_reducible repeat (first | refine blk_drewN ?_ _ | refine blk_drew ?_ | refine blk_alloc ?_ _)); exact BK628.out⟩
          have n5_ : Aside0 (Below w.heap.size w (((w25.setCell ⟨gb628, 0, none⟩ (.int .i64 t621)).setCell ⟨gb628, 1, none⟩ (.slice Ao27 t622.length co27)).setCell ⟨gb628, 2, none⟩ (.slice Ao28 t625.length co28))) := ⟨by repeat (first | (with_reducible first | apply bA | apply bN | apply bD | refine below_set ?_ GE628.out) | exact HB.out)⟩
          (try clear HO616)
          (try clear HO619)
          (try clear HO624)
          (try clear HO627)
          (try clear BK628)
          (try clear HB)
          generalize (((w25.setCell ⟨gb628, 0, none⟩ (.int .i64 t621)).setCell ⟨gb628, 1, none⟩ (.slice Ao27 t622.length co27)).setCell ⟨gb628, 2, none⟩ (.slice Ao28 t625.length co28)) = w35 at n0_ n1_ n2_ n3_ n4_ n5_ ⊢
          have HO616 := n0_
          have HO619 := n1_
          have HO624 := n2_
          have HO627 := n3_
          have BK628 := n4_
          have HB := n5_
          clear n0_ n1_ n2_ n3_ n4_ n5_
          have n0_ := Aside0.mk (Kd.R_drew HO616.out)
          have n1_ := Aside0.mk (Kd.R_drew HO619.out)
          have n2_ := Aside0.mk (Kd.R_drew HO624.out)
          have n3_ := Aside0.mk (Kd.V_drew HO627.out)
          have n4_ := Aside0.mk (blk_drew BK628.out)
          have n5_ := Aside0.mk (below_drew1 HB.out)
          clear HO616
          clear HO619
          clear HO624
          clear HO627
          clear BK628
          clear HB
          have HO616 := n0_
          have HO619 := n1_
          have HO624 := n2_
          have HO627 := n3_
          have BK628 := n4_
          have HB := n5_
          clear n0_ n1_ n2_ n3_ n4_ n5_
          obtain ⟨Ao37, co37, eo37⟩ := Kd.R_slice HO616.out
          (first | subst eo37 | (injection eo37 with f1_ f2_ f3_; have f4_ := f1_.symm; have f5_ := f3_.symm; clear f1_ f2_ f3_; subst f4_; subst f5_))
          refine start_ (n := 16) (S := fun w' => w'.cell? ⟨gb628, 0, none⟩ = some (.int .i64 t621) ∧ w'.cell? ⟨gb628, 1, none⟩ = some (.slice Ao27 t622.length co27) ∧ w'.cell? ⟨gb628, 2, none⟩ = some (.slice Ao28 t625.length co28)) (ds := []) #[false, false, false, false, false, false, false, false, false, false, false, false, false, false, false, false] (by kernel_rfl) rfl rfl ⟨(blk_cell BK628.out 0).trans rfl, (blk_cell BK628.out 1).trans rfl, (blk_cell BK628.out 2).trans rfl⟩ (fun hHeld => ?_); refine with_tabW wicketmanlaw10_RespPages.tab8 wicketmanlaw10_RespPages.bits8 (fun HT_ HW_ => ?_)
          generalize w35.drew = w36 at HO616 HO619 HO624 HO627 BK628 HB hHeld ⊢
          refine pure_ (i := 1) (N := some 45) (v := ?_) (a' := ?_) #[false, true, false, false, false, false, false, false, false, false, false, false, false, false, false, false] rfl rfl (any_of HT_.out (by kernel_rfl)) (fun _ _ _ h => h) (Or.inl ⟨by rfl, ?_⟩) ?_ ?_
          rotate_left
          ·intro w'
           go_simp
           with_reducible rfl
          rotate_left
          ·simp only [Act.put, List.setIfInBounds_toArray, List.set_cons_zero, List.set_cons_succ, i64_w, i32_w]
           rfl
          refine pure_ (i := 2) (N := some 46) (v := ?_) (a' := ?_) #[false, true, true, false, false, false, false, false, false, false, false, false, false, false, false, false] rfl rfl (any_of HT_.out (by kernel_rfl)) (fun _ _ _ h => h) (Or.inl ⟨by rfl, ?_⟩) ?_ ?_
          rotate_left
          ·intro w'
           go_simp
           with_reducible rfl
          rotate_left
          ·simp only [Act.put, List.setIfInBounds_toArray, List.set_cons_zero, List.set_cons_succ, i64_w, i32_w]
           rfl
          refine pure_ (i := 3) (N := some 47) (v := ?_) (a' := ?_) #[false, true, true, true, false, false, false, false, false, false, false, false, false, false, false, false] rfl rfl (any_of HT_.out (by kernel_rfl)) (fun _ _ _ h => h) (Or.inl ⟨by rfl, ?_⟩) ?_ ?_
          rotate_left
          ·intro w'
           go_simp
           with_reducible rfl
          rotate_left
          ·simp only [Act.put, List.setIfInBounds_toArray, List.set_cons_zero, List.set_cons_succ, i64_w, i32_w]
           rfl
          refine take_ (i := 0) (N := some 44) (v := ?_) (a' := ?_) #[true, true, true, true, false, false, false, false, false, false, false, false, false, false, false, false] rfl rfl (take_ofW HT_.out HW_.out (by kernel_rfl)) (fun _ _ _ h => h) (Or.inl ⟨by rfl, ?_⟩) hHeld ?_ ?_
          rotate_left
          ·rintro w' ⟨s0, s1, s2⟩
           go_simp
           with_reducible rfl
          rotate_left
          ·simp only [Act.put, List.setIfInBounds_toArray, List.set_cons_zero, List.set_cons_succ, i64_w, i32_w]
           rfl
          refine one_ (i := 4) (N := some 48) #[true, true, true, true, true, false, false, false, false, false, false, false, false, false, false, false] rfl rfl (one_of HT_.out (by kernel_rfl)) (by decide) (fun K hK => ?_)
          refine goes_ Tryd.func32 (by kernel_rfl) rfl #[.int .i64 a0, .string a1, .slice Ao37 y614.length co37] (by rfl) rfl rfl (by (try simp only [List.map_toArray, List.map_cons, List.map_nil]); first | done | rfl | (simp only [List.length_drop, List.length_take]; rfl)) ?_
          with_reducible refine (wicketmanref10_Page.calls a0 a1 _ _ y614 t629 t630 t633 _ ?side1 ?side2 A29.out).mono ?_
          (case side1 => repeat (first | exact (Kd.R_reads' HO616.out).2.2 | (with_reducible refine Kd.C_alloc ?_ _) | (with_reducible refine Kd.C_drewN ?_ _) | (with_reducible refine Kd.C_drew ?_)))
          (case side2 => exact (Kd.R_reads' HO616.out).2.1)
          rintro e w38 ⟨v631, v634, rfl, ho0, ho1, hb⟩
          refine ⟨_, rfl, ?_⟩
          have n0_ := Aside0.mk (Kd.R_elder' (by (with_reducible repeat (first | apply Kd.R_alloc | apply Kd.R_drewN | apply Kd.R_drew)); exact HO616.out) (Kd.R_base ho0) hb)
          have n1_ := Aside0.mk (Kd.R_below (by (with_reducible repeat (first | apply Kd.R_alloc | apply Kd.R_drewN | apply Kd.R_drew)); exact HO619.out) hb)
          have n2_ := Aside0.mk (Kd.R_elder' (by (with_reducible repeat (first | apply Kd.R_alloc | apply Kd.R_drewN | apply Kd.R_drew)); exact HO624.out) (Kd.R_base ho0) hb)
          have n3_ := Aside0.mk (Kd.V_elder' (by (with_reducible repeat (first | apply Kd.V_alloc | apply Kd.V_drewN | apply Kd.V_drew)); exact HO627.out) (Kd.R_base ho0) hb)
          have n4_ := Aside0.mk (Kd.R_lower (Kd.R_new' (Kd.R_new' (Kd.R_mono (ok' := fun k_ => True) ho0 (fun _ hk_ => trivial)) (Kd.R_lt (by (with_reducible repeat (first | apply Kd.R_alloc | apply Kd.R_drewN | apply Kd.R_drew)); exact HO616.out))) (Kd.R_lt (by (with_reducible repeat (first | apply Kd.R_alloc | apply Kd.R_drewN | apply Kd.R_drew)); exact HO624.out))) (below_size (by repeat (first | (with_reducible first | apply bA | apply bN | apply bD | refine below_set ?_ GE628.out) | exact HB.out))))
          have n5_ := Aside0.mk (Kd.V_lower (Kd.V_mono (ok' := fun k_ => some k_ ≠ (v631 : Value).ownBlock ∧ some k_ ≠ (.slice Ao37 y614.length co37 : Value).ownBlock ∧ some k_ ≠ (.slice (some ad620) t617.length co23 : Value).ownBlock ∧ some k_ ≠ (.slice Ao27 t622.length co27 : Value).ownBlock ∧ k_ ≠ gb628) ho1 (fun k_ hk_ => ⟨hk_.2, (Kd.fresh' (Kd.R_lt (by (with_reducible repeat (first | apply Kd.R_alloc | apply Kd.R_drewN | apply Kd.R_drew)); exact HO616.out)) k_ hk_.1), (Kd.fresh' (Kd.R_lt (by (with_reducible repeat (first | apply Kd.R_alloc | apply Kd.R_drewN | apply Kd.R_drew)); exact HO619.out)) k_ hk_.1), (Kd.fresh' (Kd.R_lt (by (with_reducible repeat (first | apply Kd.R_alloc | apply Kd.R_drewN | apply Kd.R_drew)); exact HO624.out)) k_ hk_.1), (Kd.freshB (g := gb628) (o := .cells #[.int .i64 t621, .slice Ao27 t622.length co27, .slice Ao28 t625.length co28] 51 (0, 0)) (by (with_reducible repeat (first | refine blk_drewN ?_ _ | refine blk_drew ?_ | refine blk_alloc ?_ _)); exact BK628.out) k_ hk_.1)⟩)) (below_size (by repeat (first | (with_reducible first | apply bA | apply bN | apply bD | refine below_set ?_ GE628.out) | exact HB.out))))
          have n6_ := Aside0.mk (blk_below (g := gb628) (o := .cells #[.int .i64 t621, .slice Ao27 t622.length co27, .slice Ao28 t625.length co28] 51 (0, 0)) (by (with_reducible repeat (first | refine blk_drewN ?_ _ | refine blk_drew ?_ | refine blk_alloc ?_ _)); exact BK628.out) hb)
          have n7_ := Aside0.mk (below_step (by repeat (first | (with_reducible first | apply bA | apply bN | apply bD | refine below_set ?_ GE628.out) | exact HB.out)) hb)
          clear HO616
          clear HO619
          clear HO624
          clear HO627
          clear BK628
          clear HB
          have HO616 := n0_
          have HO619 := n1_
          have HO624 := n2_
          have HO627 := n3_
          have HO632 := n4_
          have HO635 := n5_
          have BK628 := n6_
          have HB := n7_
          clear n0_ n1_ n2_ n3_ n4_ n5_ n6_ n7_
          (try clear hb)
          (try clear hb2)
          (try clear hk)
          (try clear hi)
          (try clear ho0)
          (try clear ho1)
          obtain ⟨Ao39, co39, eo39⟩ := Kd.R_slice HO632.out
          (first | subst eo39 | (injection eo39 with f1_ f2_ f3_; have f4_ := f1_.symm; have f5_ := f3_.symm; clear f1_ f2_ f3_; subst f4_; subst f5_))
          obtain ⟨Ao40, co40, eo40⟩ := Kd.V_slice HO635.out
          (first | subst eo40 | (injection eo40 with f1_ f2_ f3_; have f4_ := f1_.symm; have f5_ := f3_.symm; clear f1_ f2_ f3_; subst f4_; subst f5_))
          refine hK.out _ _ ⟨(blk_cell BK628.out 0).trans rfl, (blk_cell BK628.out 1).trans rfl, (blk_cell BK628.out 2).trans rfl⟩ (fun hHeld => ?_)
          clear hK K
          refine norm_ (a' := ?_) ?_ ?_
          rotate_left
          ·show Act.put _ (some 48) _ = _
           simp only [Act.put, List.setIfInBounds_toArray, List.set_cons_zero, List.set_cons_succ, i64_w, i32_w]
           rfl
          refine one_ (i := 5) (N := some 49) #[true, true, true, true, true, true, false, false, false, false, false, false, false, false, false, false] rfl rfl (one_of HT_.out (by kernel_rfl)) (by decide) (fun K hK => ?_)
          refine goes_ Tryd.func31 (by kernel_rfl) rfl #[.agg #[.int .i64 t621, .slice Ao27 t622.length co27, .slice Ao28 t625.length co28], .agg #[.int .i64 t629, .slice Ao39 t630.length co39, .slice Ao40 t633.length co40]] (by rfl) rfl rfl (by (try simp only [List.map_toArray, List.map_cons, List.map_nil]); first | done | rfl | (simp only [List.length_drop, List.length_take]; rfl)) ?_
          with_reducible refine (wicketmanref10_Same.calls kj4 t621 _ _ t622 _ _ t625 t629 _ _ t630 _ _ t633 true _ ?side1 ?side2 ?side3 ?side4 ?side5 ?side6 ?side7 ?side8 A30.out).mono ?_
          (case side1 => repeat (first | exact (Kd.R_reads' HO624.out).2.2 | (with_reducible refine Kd.C_alloc ?_ _) | (with_reducible refine Kd.C_drewN ?_ _) | (with_reducible refine Kd.C_drew ?_)))
          (case side2 => exact (Kd.R_reads' HO624.out).2.1)
          (case side3 => repeat (first | exact (Kd.V_reads' HO627.out).2.2 | (with_reducible refine Kd.C_alloc ?_ _) | (with_reducible refine Kd.C_drewN ?_ _) | (with_reducible refine Kd.C_drew ?_)))
          (case side4 => exact (Kd.V_reads' HO627.out).2.1)
          (case side5 => repeat (first | exact (Kd.R_reads' HO632.out).2.2 | (with_reducible refine Kd.C_alloc ?_ _) | (with_reducible refine Kd.C_drewN ?_ _) | (with_reducible refine Kd.C_drew ?_)))
          (case side6 => exact (Kd.R_reads' HO632.out).2.1)
          (case side7 => repeat (first | exact (Kd.V_reads' HO635.out).2.2 | (with_reducible refine Kd.C_alloc ?_ _) | (with_reducible refine Kd.C_drewN ?_ _) | (with_reducible refine Kd.C_drew ?_)))
          (case side8 => exact (Kd.V_reads' HO635.out).2.1)
          rintro e w41 ⟨rfl, hb⟩
          refine ⟨_, rfl, ?_⟩
          have n0_ := Aside0.mk (Kd.R_below (by (with_reducible repeat (first | apply Kd.R_alloc | apply Kd.R_drewN | apply Kd.R_drew)); exact HO616.out) hb)
          have n1_ := Aside0.mk (Kd.R_below (by (with_reducible repeat (first | apply Kd.R_alloc | apply Kd.R_drewN | apply Kd.R_drew)); exact HO619.out) hb)
          have n2_ := Aside0.mk (Kd.R_below (by (with_reducible repeat (first | apply Kd.R_alloc | apply Kd.R_drewN | apply Kd.R_drew)); exact HO624.out) hb)
          have n3_ := Aside0.mk (Kd.V_below (by (with_reducible repeat (first | apply Kd.V_alloc | apply Kd.V_drewN | apply Kd.V_drew)); exact HO627.out) hb)
          have n4_ := Aside0.mk (Kd.R_below (by (with_reducible repeat (first | apply Kd.R_alloc | apply Kd.R_drewN | apply Kd.R_drew)); exact HO632.out) hb)
          have n5_ := Aside0.mk (Kd.V_below (by (with_reducible repeat (first | apply Kd.V_alloc | apply Kd.V_drewN | apply Kd.V_drew)); exact HO635.out) hb)
          have n6_ := Aside0.mk (blk_below (g := gb628) (o := .cells #[.int .i64 t621, .slice Ao27 t622.length co27, .slice Ao28 t625.length co28] 51 (0, 0)) (by (with_reducible repeat (first | refine blk_drewN ?_ _ | refine blk_drew ?_ | refine blk_alloc ?_ _)); exact BK628.out) hb)
          have n7_ := Aside0.mk (below_step (by repeat (first | (with_reducible first | apply bA | apply bN | apply bD | refine below_set ?_ GE628.out) | exact HB.out)) hb)
          clear HO616
          clear HO619
          clear HO624
          clear HO627
          clear HO632
          clear HO635
          clear BK628
          clear HB
          have HO616 := n0_
          have HO619 := n1_
          have HO624 := n2_
          have HO627 := n3_
          have HO632 := n4_
          have HO635 := n5_
          have BK628 := n6_
          have HB := n7_
          clear n0_ n1_ n2_ n3_ n4_ n5_ n6_ n7_
          (try clear hb)
          (try clear hb2)
          (try clear hk)
          (try clear hi)
          refine hK.out _ _ ⟨(blk_cell BK628.out 0).trans rfl, (blk_cell BK628.out 1).trans rfl, (blk_cell BK628.out 2).trans rfl⟩ (fun hHeld => ?_)
          clear hK K
          refine norm_ (a' := ?_) ?_ ?_
          rotate_left
          ·show Act.put _ (some 49) _ = _
           simp only [Act.put, List.setIfInBounds_toArray, List.set_cons_zero, List.set_cons_succ, i64_w, i32_w]
           rfl
          refine pure_ (i := 6) (N := some 50) (v := ?_) (a' := ?_) #[true, true, true, true, true, true, true, false, false, false, false, false, false, false, false, false] rfl rfl (any_of HT_.out (by kernel_rfl)) (fun _ _ _ h => h) (Or.inl ⟨by rfl, ?_⟩) ?_ ?_
          rotate_left
          ·intro w'
           go_simp
           with_reducible rfl
          rotate_left
          ·simp only [Act.put, List.setIfInBounds_toArray, List.set_cons_zero, List.set_cons_succ, i64_w, i32_w]
           rfl
          refine pure_ (i := 7) (N := some 51) (v := ?_) (a' := ?_) #[true, true, true, true, true, true, true, true, false, false, false, false, false, false, false, false] rfl rfl (any_of HT_.out (by kernel_rfl)) (fun _ _ _ h => h) (Or.inl ⟨by rfl, ?_⟩) ?_ ?_
          rotate_left
          ·intro w'
           go_simp
           with_reducible rfl
          rotate_left
          ·simp only [Act.put, List.setIfInBounds_toArray, List.set_cons_zero, List.set_cons_succ, i64_w, i32_w]
           rfl
          refine pure_ (i := 8) (N := some 52) (v := ?_) (a' := ?_) #[true, true, true, true, true, true, true, true, true, false, false, false, false, false, false, false] rfl rfl (any_of HT_.out (by kernel_rfl)) (fun _ _ _ h => h) (Or.inl ⟨by rfl, ?_⟩) ?_ ?_
          rotate_left
          ·intro w'
           go_simp
           with_reducible rfl
          rotate_left
          ·simp only [Act.put, List.setIfInBounds_toArray, List.set_cons_zero, List.set_cons_succ, i64_w, i32_w]
           rfl
          refine pure_ (i := 10) (N := some 54) (v := ?_) (a' := ?_) #[true, true, true, true, true, true, true, true, true, false, true, false, false, false, false, false] rfl rfl (any_of HT_.out (by kernel_rfl)) (fun _ _ _ h => h) (Or.inl ⟨by rfl, ?_⟩) ?_ ?_
          rotate_left
          ·intro w'
           go_simp
           with_reducible rfl
          rotate_left
          ·simp only [Act.put, List.setIfInBounds_toArray, List.set_cons_zero, List.set_cons_succ, i64_w, i32_w]
           rfl
          refine pure_ (i := 11) (N := some 55) (v := ?_) (a' := ?_) #[true, true, true, true, true, true, true, true, true, false, true, true, false, false, false, false] rfl rfl (any_of HT_.out (by kernel_rfl)) (fun _ _ _ h => h) (Or.inl ⟨by rfl, ?_⟩) ?_ ?_
          rotate_left
          ·intro w'
           go_simp
           with_reducible rfl
          rotate_left
          ·simp only [Act.put, List.setIfInBounds_toArray, List.set_cons_zero, List.set_cons_succ, i64_w, i32_w]
           rfl
          refine one_ (i := 9) (N := some 53) #[true, true, true, true, true, true, true, true, true, true, true, true, false, false, false, false] rfl rfl (one_of HT_.out (by kernel_rfl)) (by decide) (fun K hK => ?_)
          refine goes_ Tryd.func30 (by kernel_rfl) rfl #[.int .i64 (rd t617 (ji16)), .string a1, .slice none 0 0] (by rfl) rfl rfl (by (try simp only [List.map_toArray, List.map_cons, List.map_nil]); first | done | (simp only [hji16]; rfl) | rfl | (simp only [List.length_drop, List.length_take]; rfl)) ?_
          refine (resp_Page.calls (rd t617 (ji16)) a1 _ _ ([] : List (S43)) t637 t638 t641 _ ?side1 ?side2 A32.out).mono ?_
          (case side1 => exact Kd.C_nil _ _)
          (case side2 => exact Nat.le_refl _)
          rintro e w42 ⟨v639, v642, rfl, ho0, ho1, hb⟩
          refine ⟨_, rfl, ?_⟩
          have n0_ := Aside0.mk (Kd.R_elder' (by (with_reducible repeat (first | apply Kd.R_alloc | apply Kd.R_drewN | apply Kd.R_drew)); exact HO616.out) (Kd.R_base ho0) hb)
          have n1_ := Aside0.mk (Kd.R_below (by (with_reducible repeat (first | apply Kd.R_alloc | apply Kd.R_drewN | apply Kd.R_drew)); exact HO619.out) hb)
          have n2_ := Aside0.mk (Kd.R_elder' (by (with_reducible repeat (first | apply Kd.R_alloc | apply Kd.R_drewN | apply Kd.R_drew)); exact HO624.out) (Kd.R_base ho0) hb)
          have n3_ := Aside0.mk (Kd.V_elder' (by (with_reducible repeat (first | apply Kd.V_alloc | apply Kd.V_drewN | apply Kd.V_drew)); exact HO627.out) (Kd.R_base ho0) hb)
          have n4_ := Aside0.mk (Kd.R_elder' (by (with_reducible repeat (first | apply Kd.R_alloc | apply Kd.R_drewN | apply Kd.R_drew)); exact HO632.out) (Kd.R_base ho0) hb)
          have n5_ := Aside0.mk (Kd.V_elder' (by (with_reducible repeat (first | apply Kd.V_alloc | apply Kd.V_drewN | apply Kd.V_drew)); exact HO635.out) (Kd.R_base ho0) hb)
          have n6_ := Aside0.mk (Kd.R_lower (Kd.R_new' (Kd.R_new' (Kd.R_new' (Kd.R_mono (ok' := fun k_ => True) ho0 (fun _ hk_ => trivial)) (Kd.R_lt (by (with_reducible repeat (first | apply Kd.R_alloc | apply Kd.R_drewN | apply Kd.R_drew)); exact HO616.out))) (Kd.R_lt (by (with_reducible repeat (first | apply Kd.R_alloc | apply Kd.R_drewN | apply Kd.R_drew)); exact HO624.out))) (Kd.R_lt (by (with_reducible repeat (first | apply Kd.R_alloc | apply Kd.R_drewN | apply Kd.R_drew)); exact HO632.out))) (below_size (by repeat (first | (with_reducible first | apply bA | apply bN | apply bD | refine below_set ?_ GE628.out) | exact HB.out))))
          have n7_ := Aside0.mk (Kd.V_lower (Kd.V_mono (ok' := fun k_ => some k_ ≠ (v639 : Value).ownBlock ∧ some k_ ≠ (.slice Ao37 y614.length co37 : Value).ownBlock ∧ some k_ ≠ (.slice (some ad620) t617.length co23 : Value).ownBlock ∧ some k_ ≠ (.slice Ao27 t622.length co27 : Value).ownBlock ∧ some k_ ≠ (.slice Ao39 t630.length co39 : Value).ownBlock ∧ k_ ≠ gb628) ho1 (fun k_ hk_ => ⟨hk_.2, (Kd.fresh' (Kd.R_lt (by (with_reducible repeat (first | apply Kd.R_alloc | apply Kd.R_drewN | apply Kd.R_drew)); exact HO616.out)) k_ hk_.1), (Kd.fresh' (Kd.R_lt (by (with_reducible repeat (first | apply Kd.R_alloc | apply Kd.R_drewN | apply Kd.R_drew)); exact HO619.out)) k_ hk_.1), (Kd.fresh' (Kd.R_lt (by (with_reducible repeat (first | apply Kd.R_alloc | apply Kd.R_drewN | apply Kd.R_drew)); exact HO624.out)) k_ hk_.1), (Kd.fresh' (Kd.R_lt (by (with_reducible repeat (first | apply Kd.R_alloc | apply Kd.R_drewN | apply Kd.R_drew)); exact HO632.out)) k_ hk_.1), (Kd.freshB (g := gb628) (o := .cells #[.int .i64 t621, .slice Ao27 t622.length co27, .slice Ao28 t625.length co28] 51 (0, 0)) (by (with_reducible repeat (first | refine blk_drewN ?_ _ | refine blk_drew ?_ | refine blk_alloc ?_ _)); exact BK628.out) k_ hk_.1)⟩)) (below_size (by repeat (first | (with_reducible first | apply bA | apply bN | apply bD | refine below_set ?_ GE628.out) | exact HB.out))))
          have n8_ := Aside0.mk (blk_below (g := gb628) (o := .cells #[.int .i64 t621, .slice Ao27 t622.length co27, .slice Ao28 t625.length co28] 51 (0, 0)) (by (with_reducible repeat (first | refine blk_drewN ?_ _ | refine blk_drew ?_ | refine blk_alloc ?_ _)); exact BK628.out) hb)
          have n9_ := Aside0.mk (below_step (by repeat (first | (with_reducible first | apply bA | apply bN | apply bD | refine below_set ?_ GE628.out) | exact HB.out)) hb)
          clear HO616
          clear HO619
          clear HO624
          clear HO627
          clear HO632
          clear HO635
          clear BK628
          clear HB
          have HO616 := n0_
          have HO619 := n1_
          have HO624 := n2_
          have HO627 := n3_
          have HO632 := n4_
          have HO635 := n5_
          have HO640 := n6_
          have HO643 := n7_
          have BK628 := n8_
          have HB := n9_
          clear n0_ n1_ n2_ n3_ n4_ n5_ n6_ n7_ n8_ n9_
          (try clear hb)
          (try clear hb2)
          (try clear hk)
          (try clear hi)
          (try clear ho0)
          (try clear ho1)
          refine hK.out _ _ ⟨(blk_cell BK628.out 0).trans rfl, (blk_cell BK628.out 1).trans rfl, (blk_cell BK628.out 2).trans rfl⟩ (fun hHeld => ?_)
          clear hK K
          refine norm_ (a' := ?_) ?_ ?_
          rotate_left
          ·show Act.put _ (some 53) _ = _
           simp only [Act.put, List.setIfInBounds_toArray, List.set_cons_zero, List.set_cons_succ, i64_w, i32_w]
           rfl
          refine one_ (i := 12) (N := some 56) #[true, true, true, true, true, true, true, true, true, true, true, true, true, false, false, false] rfl rfl (one_of HT_.out (by kernel_rfl)) (by decide) (fun K hK => ?_)
          refine goes_ Tryd.func32 (by kernel_rfl) rfl #[.int .i64 (rd t617 (ji16)), .string a1, .slice none 0 0] (by rfl) rfl rfl (by (try simp only [List.map_toArray, List.map_cons, List.map_nil]); first | done | (simp only [hji16]; rfl) | rfl | (simp only [List.length_drop, List.length_take]; rfl)) ?_
          refine (wicketmanref10_Page.calls (rd t617 (ji16)) a1 _ _ ([] : List (S43)) t644 t645 t648 _ ?side1 ?side2 A33.out).mono ?_
          (case side1 => exact Kd.C_nil _ _)
          (case side2 => exact Nat.le_refl _)
          rintro e w43 ⟨v646, v649, rfl, ho0, ho1, hb⟩
          refine ⟨_, rfl, ?_⟩
          have n0_ := Aside0.mk (Kd.R_elder' (by (with_reducible repeat (first | apply Kd.R_alloc | apply Kd.R_drewN | apply Kd.R_drew)); exact HO616.out) (Kd.R_base ho0) hb)
          have n1_ := Aside0.mk (Kd.R_below (by (with_reducible repeat (first | apply Kd.R_alloc | apply Kd.R_drewN | apply Kd.R_drew)); exact HO619.out) hb)
          have n2_ := Aside0.mk (Kd.R_elder' (by (with_reducible repeat (first | apply Kd.R_alloc | apply Kd.R_drewN | apply Kd.R_drew)); exact HO624.out) (Kd.R_base ho0) hb)
          have n3_ := Aside0.mk (Kd.V_elder' (by (with_reducible repeat (first | apply Kd.V_alloc | apply Kd.V_drewN | apply Kd.V_drew)); exact HO627.out) (Kd.R_base ho0) hb)
          have n4_ := Aside0.mk (Kd.R_elder' (by (with_reducible repeat (first | apply Kd.R_alloc | apply Kd.R_drewN | apply Kd.R_drew)); exact HO632.out) (Kd.R_base ho0) hb)
          have n5_ := Aside0.mk (Kd.V_elder' (by (with_reducible repeat (first | apply Kd.V_alloc | apply Kd.V_drewN | apply Kd.V_drew)); exact HO635.out) (Kd.R_base ho0) hb)
          have n6_ := Aside0.mk (Kd.R_elder' (by (with_reducible repeat (first | apply Kd.R_alloc | apply Kd.R_drewN | apply Kd.R_drew)); exact HO640.out) (Kd.R_base ho0) hb)
          have n7_ := Aside0.mk (Kd.V_elder' (by (with_reducible repeat (first | apply Kd.V_alloc | apply Kd.V_drewN | apply Kd.V_drew)); exact HO643.out) (Kd.R_base ho0) hb)
          have n8_ := Aside0.mk (Kd.R_lower (Kd.R_new' (Kd.R_new' (Kd.R_new' (Kd.R_new' (Kd.R_mono (ok' := fun k_ => True) ho0 (fun _ hk_ => trivial)) (Kd.R_lt (by (with_reducible repeat (first | apply Kd.R_alloc | apply Kd.R_drewN | apply Kd.R_drew)); exact HO616.out))) (Kd.R_lt (by (with_reducible repeat (first | apply Kd.R_alloc | apply Kd.R_drewN | apply Kd.R_drew)); exact HO624.out))) (Kd.R_lt (by (with_reducible repeat (first | apply Kd.R_alloc | apply Kd.R_drewN | apply Kd.R_drew)); exact HO632.out))) (Kd.R_lt (by (with_reducible repeat (first | apply Kd.R_alloc | apply Kd.R_drewN | apply Kd.R_drew)); exact HO640.out))) (below_size (by repeat (first | (with_reducible first | apply bA | apply bN | apply bD | refine below_set ?_ GE628.out) | exact HB.out))))
          have n9_ := Aside0.mk (Kd.V_lower (Kd.V_mono (ok' := fun k_ => some k_ ≠ (v646 : Value).ownBlock ∧ some k_ ≠ (.slice Ao37 y614.length co37 : Value).ownBlock ∧ some k_ ≠ (.slice (some ad620) t617.length co23 : Value).ownBlock ∧ some k_ ≠ (.slice Ao27 t622.length co27 : Value).ownBlock ∧ some k_ ≠ (.slice Ao39 t630.length co39 : Value).ownBlock ∧ some k_ ≠ (v639 : Value).ownBlock ∧ k_ ≠ gb628) ho1 (fun k_ hk_ => ⟨hk_.2, (Kd.fresh' (Kd.R_lt (by (with_reducible repeat (first | apply Kd.R_alloc | apply Kd.R_drewN | apply Kd.R_drew)); exact HO616.out)) k_ hk_.1), (Kd.fresh' (Kd.R_lt (by (with_reducible repeat (first | apply Kd.R_alloc | apply Kd.R_drewN | apply Kd.R_drew)); exact HO619.out)) k_ hk_.1), (Kd.fresh' (Kd.R_lt (by (with_reducible repeat (first | apply Kd.R_alloc | apply Kd.R_drewN | apply Kd.R_drew)); exact HO624.out)) k_ hk_.1), (Kd.fresh' (Kd.R_lt (by (with_reducible repeat (first | apply Kd.R_alloc | apply Kd.R_drewN | apply Kd.R_drew)); exact HO632.out)) k_ hk_.1), (Kd.fresh' (Kd.R_lt (by (with_reducible repeat (first | apply Kd.R_alloc | apply Kd.R_drewN | apply Kd.R_drew)); exact HO640.out)) k_ hk_.1), (Kd.freshB (g := gb628) (o := .cells #[.int .i64 t621, .slice Ao27 t622.length co27, .slice Ao28 t625.length co28] 51 (0, 0)) (by (with_reducible repeat (first | refine blk_drewN ?_ _ | refine blk_drew ?_ | refine blk_alloc ?_ _)); exact BK628.out) k_ hk_.1)⟩)) (below_size (by repeat (first | (with_reducible first | apply bA | apply bN | apply bD | refine below_set ?_ GE628.out) | exact HB.out))))
          have n10_ := Aside0.mk (blk_below (g := gb628) (o := .cells #[.int .i64 t621, .slice Ao27 t622.length co27, .slice Ao28 t625.length co28] 51 (0, 0)) (by (with_reducible repeat (first | refine blk_drewN ?_ _ | refine blk_drew ?_ | refine blk_alloc ?_ _)); exact BK628.out) hb)
          have n11_ := Aside0.mk (below_step (by repeat (first | (with_reducible first | apply bA | apply bN | apply bD | refine below_set ?_ GE628.out) | exact HB.out)) hb)
          clear HO616
          clear HO619
          clear HO624
          clear HO627
          clear HO632
          clear HO635
          clear HO640
          clear HO643
          clear BK628
          clear HB
          have HO616 := n0_
          have HO619 := n1_
          have HO624 := n2_
          have HO627 := n3_
          have HO632 := n4_
          have HO635 := n5_
          have HO640 := n6_
          have HO643 := n7_
          have HO647 := n8_
          have HO650 := n9_
          have BK628 := n10_
          have HB := n11_
          clear n0_ n1_ n2_ n3_ n4_ n5_ n6_ n7_ n8_ n9_ n10_ n11_
          (try clear hb)
          (try clear hb2)
          (try clear hk)
          (try clear hi)
          (try clear ho0)
          (try clear ho1)
          obtain ⟨Ao44, co44, eo44⟩ := Kd.R_slice HO640.out
          (first | subst eo44 | (injection eo44 with f1_ f2_ f3_; have f4_ := f1_.symm; have f5_ := f3_.symm; clear f1_ f2_ f3_; subst f4_; subst f5_))
          obtain ⟨Ao45, co45, eo45⟩ := Kd.V_slice HO643.out
          (first | subst eo45 | (injection eo45 with f1_ f2_ f3_; have f4_ := f1_.symm; have f5_ := f3_.symm; clear f1_ f2_ f3_; subst f4_; subst f5_))
          obtain ⟨Ao46, co46, eo46⟩ := Kd.R_slice HO647.out
          (first | subst eo46 | (injection eo46 with f1_ f2_ f3_; have f4_ := f1_.symm; have f5_ := f3_.symm; clear f1_ f2_ f3_; subst f4_; subst f5_))
          obtain ⟨Ao47, co47, eo47⟩ := Kd.V_slice HO650.out
          (first | subst eo47 | (injection eo47 with f1_ f2_ f3_; have f4_ := f1_.symm; have f5_ := f3_.symm; clear f1_ f2_ f3_; subst f4_; subst f5_))
          refine hK.out _ _ ⟨(blk_cell BK628.out 0).trans rfl, (blk_cell BK628.out 1).trans rfl, (blk_cell BK628.out 2).trans rfl⟩ (fun hHeld => ?_)
          clear hK K
          refine norm_ (a' := ?_) ?_ ?_
          rotate_left
          ·show Act.put _ (some 56) _ = _
           simp only [Act.put, List.setIfInBounds_toArray, List.set_cons_zero, List.set_cons_succ, i64_w, i32_w]
           rfl
          refine one_ (i := 13) (N := some 57) #[true, true, true, true, true, true, true, true, true, true, true, true, true, true, false, false] rfl rfl (one_of HT_.out (by kernel_rfl)) (by decide) (fun K hK => ?_)
          refine goes_ Tryd.func31 (by kernel_rfl) rfl #[.agg #[.int .i64 t637, .slice Ao44 t638.length co44, .slice Ao45 t641.length co45], .agg #[.int .i64 t644, .slice Ao46 t645.length co46, .slice Ao47 t648.length co47]] (by rfl) rfl rfl (by (try simp only [List.map_toArray, List.map_cons, List.map_nil]); first | done | rfl | (simp only [List.length_drop, List.length_take]; rfl)) ?_
          with_reducible refine (wicketmanref10_Same.calls kj4 t637 _ _ t638 _ _ t641 t644 _ _ t645 _ _ t648 t651 _ ?side1 ?side2 ?side3 ?side4 ?side5 ?side6 ?side7 ?side8 A34.out).mono ?_
          (case side1 => repeat (first | exact (Kd.R_reads' HO640.out).2.2 | (with_reducible refine Kd.C_alloc ?_ _) | (with_reducible refine Kd.C_drewN ?_ _) | (with_reducible refine Kd.C_drew ?_)))
          (case side2 => exact (Kd.R_reads' HO640.out).2.1)
          (case side3 => repeat (first | exact (Kd.V_reads' HO643.out).2.2 | (with_reducible refine Kd.C_alloc ?_ _) | (with_reducible refine Kd.C_drewN ?_ _) | (with_reducible refine Kd.C_drew ?_)))
          (case side4 => exact (Kd.V_reads' HO643.out).2.1)
          (case side5 => repeat (first | exact (Kd.R_reads' HO647.out).2.2 | (with_reducible refine Kd.C_alloc ?_ _) | (with_reducible refine Kd.C_drewN ?_ _) | (with_reducible refine Kd.C_drew ?_)))
          (case side6 => exact (Kd.R_reads' HO647.out).2.1)
          (case side7 => repeat (first | exact (Kd.V_reads' HO650.out).2.2 | (with_reducible refine Kd.C_alloc ?_ _) | (with_reducible refine Kd.C_drewN ?_ _) | (with_reducible refine Kd.C_drew ?_)))
          (case side8 => exact (Kd.V_reads' HO650.out).2.1)
          rintro e w48 ⟨rfl, hb⟩
          refine ⟨_, rfl, ?_⟩
          have n0_ := Aside0.mk (Kd.R_below (by (with_reducible repeat (first | apply Kd.R_alloc | apply Kd.R_drewN | apply Kd.R_drew)); exact HO616.out) hb)
          have n1_ := Aside0.mk (Kd.R_below (by (with_reducible repeat (first | apply Kd.R_alloc | apply Kd.R_drewN | apply Kd.R_drew)); exact HO619.out) hb)
          have n2_ := Aside0.mk (Kd.R_below (by (with_reducible repeat (first | apply Kd.R_alloc | apply Kd.R_drewN | apply Kd.R_drew)); exact HO624.out) hb)
          have n3_ := Aside0.mk (Kd.V_below (by (with_reducible repeat (first | apply Kd.V_alloc | apply Kd.V_drewN | apply Kd.V_drew)); exact HO627.out) hb)
          have n4_ := Aside0.mk (Kd.R_below (by (with_reducible repeat (first | apply Kd.R_alloc | apply Kd.R_drewN | apply Kd.R_drew)); exact HO632.out) hb)
          have n5_ := Aside0.mk (Kd.V_below (by (with_reducible repeat (first | apply Kd.V_alloc | apply Kd.V_drewN | apply Kd.V_drew)); exact HO635.out) hb)
          have n6_ := Aside0.mk (Kd.R_below (by (with_reducible repeat (first | apply Kd.R_alloc | apply Kd.R_drewN | apply Kd.R_drew)); exact HO640.out) hb)
          have n7_ := Aside0.mk (Kd.V_below (by (with_reducible repeat (first | apply Kd.V_alloc | apply Kd.V_drewN | apply Kd.V_drew)); exact HO643.out) hb)
          have n8_ := Aside0.mk (Kd.R_below (by (with_reducible repeat (first | apply Kd.R_alloc | apply Kd.R_drewN | apply Kd.R_drew)); exact HO647.out) hb)
          have n9_ := Aside0.mk (Kd.V_below (by (with_reducible repeat (first | apply Kd.V_alloc | apply Kd.V_drewN | apply Kd.V_drew)); exact HO650.out) hb)
          have n10_ := Aside0.mk (blk_below (g := gb628) (o := .cells #[.int .i64 t621, .slice Ao27 t622.length co27, .slice Ao28 t625.length co28] 51 (0, 0)) (by (with_reducible repeat (first | refine blk_drewN ?_ _ | refine blk_drew ?_ | refine blk_alloc ?_ _)); exact BK628.out) hb)
          have n11_ := Aside0.mk (below_step (by repeat (first | (with_reducible first | apply bA | apply bN | apply bD | refine below_set ?_ GE628.out) | exact HB.out)) hb)
          clear HO616
          clear HO619
          clear HO624
          clear HO627
          clear HO632
          clear HO635
          clear HO640
          clear HO643
          clear HO647
          clear HO650
          clear BK628
          clear HB
          have HO616 := n0_
          have HO619 := n1_
          have HO624 := n2_
          have HO627 := n3_
          have HO632 := n4_
          have HO635 := n5_
          have HO640 := n6_
          have HO643 := n7_
          have HO647 := n8_
          have HO650 := n9_
          have BK628 := n10_
          have HB := n11_
          clear n0_ n1_ n2_ n3_ n4_ n5_ n6_ n7_ n8_ n9_ n10_ n11_
          (try clear hb)
          (try clear hb2)
          (try clear hk)
          (try clear hi)
          refine hK.out _ _ ⟨(blk_cell BK628.out 0).trans rfl, (blk_cell BK628.out 1).trans rfl, (blk_cell BK628.out 2).trans rfl⟩ (fun hHeld => ?_)
          clear hK K
          refine norm_ (a' := ?_) ?_ ?_
          rotate_left
          ·show Act.put _ (some 57) _ = _
           simp only [Act.put, List.setIfInBounds_toArray, List.set_cons_zero, List.set_cons_succ, i64_w, i32_w]
           rfl
          refine pure_ (i := 14) (N := some 58) (v := ?_) (a' := ?_) #[true, true, true, true, true, true, true, true, true, true, true, true, true, true, true, false] rfl rfl (any_of HT_.out (by kernel_rfl)) (fun _ _ _ h => h) (Or.inl ⟨by rfl, ?_⟩) ?_ ?_
          rotate_left
          ·intro w'
           go_simp
           with_reducible rfl
          rotate_left
          ·simp only [Act.put, List.setIfInBounds_toArray, List.set_cons_zero, List.set_cons_succ, i64_w, i32_w]
           rfl
          refine pure_ (i := 15) (N := some 13) (v := ?_) (a' := ?_) #[true, true, true, true, true, true, true, true, true, true, true, true, true, true, true, true] rfl rfl (any_of HT_.out (by kernel_rfl)) (fun _ _ _ h => h) (Or.inl ⟨by rfl, ?_⟩) ?_ ?_
          rotate_left
          ·intro w'
           go_simp
           with_reducible rfl
          rotate_left
          ·simp only [Act.put, List.setIfInBounds_toArray, List.set_cons_zero, List.set_cons_succ, i64_w, i32_w]
           rfl
          refine done_ (done_of HT_.out (by kernel_rfl)) ?_
          try go_wp2
          go_meet
          case rel => exact ⟨_, (t651), (by first | rfl | (simp; done) | (simp [*]; done)), H', ⟨by have := HJ4.out; first | omega | exact Nat.le_refl _⟩, ⟨by (with_reducible repeat (first | apply Kd.R_alloc | apply Kd.R_drewN | apply Kd.R_drew)); exact Kd.R_mono HO616.out (fun _ hk => hk.1.1.1)⟩, ⟨by (with_reducible repeat (first | apply Kd.R_alloc | apply Kd.R_drewN | apply Kd.R_drew)); exact Kd.R_mono HO624.out (fun _ hk => hk.1.1.1)⟩, ⟨by (with_reducible repeat (first | apply Kd.V_alloc | apply Kd.V_drewN | apply Kd.V_drew)); exact Kd.V_mono HO627.out (fun _ hk => ⟨hk.1.1.1.1, ⟨hk.1.1.1.2.2.1, hk.1.1.1.2.2.2⟩⟩)⟩, ⟨by (with_reducible repeat (first | refine blk_drewN ?_ _ | refine blk_drew ?_ | refine blk_alloc ?_ _)); exact BK628.out⟩, ⟨by repeat (first | (with_reducible first | apply bA | apply bN | apply bD | refine below_set ?_ GE628.out) | exact HB.out)⟩⟩
         ·replace c31 := Bool.eq_false_iff.mpr c31
          subst c31
          rw [if_neg (show ¬ (false = true) by decide)] at H
          have H' := Aside0.mk H
          clear H
          try go_wp2
          have n0_ : Aside0 (Kd.R k43 43 (((w25.setCell ⟨gb628, 0, none⟩ (.int .i64 t621)).setCell ⟨gb628, 1, none⟩ (.slice Ao27 t622.length co27)).setCell ⟨gb628, 2, none⟩ (.slice Ao28 t625.length co28)) w.heap.size (fun k_ => some k_ ≠ (.slice Ao27 t622.length co27 : Value).ownBlock) v615 y614) := ⟨by (with_reducible repeat (first | apply Kd.R_alloc | apply Kd.R_drewN | apply Kd.R_drew)); exact Kd.R_mono (Kd.R_far (p := ⟨gb628, 2, none⟩) (Kd.R_far (p := ⟨gb628, 1, none⟩) (Kd.R_far (p := ⟨gb628, 0, none⟩) (Kd.R_types HO616.out BK628.out (by decide)) (fun _ hk => hk.2) (.int .i64 t621)) (fun _ hk => hk.2) (.slice Ao27 t622.length co27)) (fun _ hk => hk.2) (.slice Ao28 t625.length co28)) (fun _ hk => hk.1.2)⟩
          have n1_ : Aside0 (Kd.R (Kd.int .i64) 3 (((w25.setCell ⟨gb628, 0, none⟩ (.int .i64 t621)).setCell ⟨gb628, 1, none⟩ (.slice Ao27 t622.length co27)).setCell ⟨gb628, 2, none⟩ (.slice Ao28 t625.length co28)) w.heap.size (fun _ => True) (.slice (some ad620) t617.length co23) t617) := ⟨by (with_reducible repeat (first | apply Kd.R_alloc | apply Kd.R_drewN | apply Kd.R_drew)); exact Kd.R_mono (Kd.R_far (p := ⟨gb628, 2, none⟩) (Kd.R_far (p := ⟨gb628, 1, none⟩) (Kd.R_far (p := ⟨gb628, 0, none⟩) (Kd.R_types HO619.out BK628.out (by decide)) (fun _ hk => hk.2) (.int .i64 t621)) (fun _ hk => hk.2) (.slice Ao27 t622.length co27)) (fun _ hk => hk.2) (.slice Ao28 t625.length co28)) (fun _ hk => trivial)⟩
          have n2_ : Aside0 (Kd.R k43 43 (((w25.setCell ⟨gb628, 0, none⟩ (.int .i64 t621)).setCell ⟨gb628, 1, none⟩ (.slice Ao27 t622.length co27)).setCell ⟨gb628, 2, none⟩ (.slice Ao28 t625.length co28)) w.heap.size (fun k_ => some k_ ≠ (v615 : Value).ownBlock) (.slice Ao27 t622.length co27) t622) := ⟨by (with_reducible repeat (first | apply Kd.R_alloc | apply Kd.R_drewN | apply Kd.R_drew)); exact Kd.R_mono (Kd.R_far (p := ⟨gb628, 2, none⟩) (Kd.R_far (p := ⟨gb628, 1, none⟩) (Kd.R_far (p := ⟨gb628, 0, none⟩) (Kd.R_types HO624.out BK628.out (by decide)) (fun _ hk => hk.2) (.int .i64 t621)) (fun _ hk => hk.2) (.slice Ao27 t622.length co27)) (fun _ hk => hk.2) (.slice Ao28 t625.length co28)) (fun _ hk => hk.1.2)⟩
          have n3_ : Aside0 (Kd.V (Kd.int .u8) 5 (((w25.setCell ⟨gb628, 0, none⟩ (.int .i64 t621)).setCell ⟨gb628, 1, none⟩ (.slice Ao27 t622.length co27)).setCell ⟨gb628, 2, none⟩ (.slice Ao28 t625.length co28)) w.heap.size (fun k_ => some k_ ≠ (v615 : Value).ownBlock ∧ some k_ ≠ (.slice (some ad620) t617.length co23 : Value).ownBlock ∧ some k_ ≠ (.slice Ao27 t622.length co27 : Value).ownBlock ∧ k_ ≠ gb628) (.slice Ao28 t625.length co28) t625) := ⟨by (with_reducible repeat (first | apply Kd.V_alloc | apply Kd.V_drewN | apply Kd.V_drew)); exact Kd.V_mono (Kd.V_far (p := ⟨gb628, 2, none⟩) (Kd.V_far (p := ⟨gb628, 1, none⟩) (Kd.V_far (p := ⟨gb628, 0, none⟩) (Kd.V_mono HO627.out (fun k_ hk => (⟨hk, hk.2⟩ : _ ∧ k_ ≠ gb628))) (fun _ hk => hk.2) (.int .i64 t621)) (fun _ hk => hk.2) (.slice Ao27 t622.length co27)) (fun _ hk => hk.2) (.slice Ao28 t625.length co28)) (fun _ hk => ⟨hk.1.1.2.1, ⟨hk.1.1.2.2, ⟨hk.1.1.1, hk.1.2⟩⟩⟩)⟩
          have n4_ : Aside0 ((((w25.setCell ⟨gb628, 0, none⟩ (.int .i64 t621)).setCell ⟨gb628, 1, none⟩ (.slice Ao27 t622.length co27)).setCell ⟨gb628, 2, none⟩ (.slice Ao28 t625.length co28)).heap[gb628]? = some (.cells #[.int .i64 t621, .slice Ao27 t622.length co27, .slice Ao28 t625.length co28] 51 (0, 0))) := ⟨by (with_reducible repeat (first | refine blk_drewN ?_ _ | refine blk_drew ?_ | refine blk_alloc ?_ _)); refine blk_put (cs := #[.int .i64 t621, .slice Ao27 t622.length co27, .slice none 0 0]) ?_ 2 _ rfl; (with_reducible repeat (first | refine blk_drewN ?_ _ | refine blk_drew ?_ | refine blk_alloc ?_ _)); refine blk_put (cs := #[.int .i64 t621, .slice none 0 0, .slice none 0 0]) ?_ 1 _ rfl; (with_reducible repeat (first | refine blk_drewN ?_ _ | refine blk_drew ?_ | refine blk_alloc ?_ _)); refine blk_put (cs := #[.int .i64 0, .slice none 0 0, .slice none 0 0]) ?_ 0 _ rfl; (with_reducible repeat (first | refine blk_drewN ?_ _ | refine blk_drew ?_ | refine blk_alloc ?_ _)); exact BK628.out⟩
          have n5_ : Aside0 (Below w.heap.size w (((w25.setCell ⟨gb628, 0, none⟩ (.int .i64 t621)).setCell ⟨gb628, 1, none⟩ (.slice Ao27 t622.length co27)).setCell ⟨gb628, 2, none⟩ (.slice Ao28 t625.length co28))) := ⟨by repeat (first | (with_reducible first | apply bA | apply bN | apply bD | refine below_set ?_ GE628.out) | exact HB.out)⟩
          (try clear HO616)
          (try clear HO619)
          (try clear HO624)
          (try clear HO627)
          (try clear BK628)
          (try clear HB)
          generalize (((w25.setCell ⟨gb628, 0, none⟩ (.int .i64 t621)).setCell ⟨gb628, 1, none⟩ (.slice Ao27 t622.length co27)).setCell ⟨gb628, 2, none⟩ (.slice Ao28 t625.length co28)) = w49 at n0_ n1_ n2_ n3_ n4_ n5_ ⊢
          have HO616 := n0_
          have HO619 := n1_
          have HO624 := n2_
          have HO627 := n3_
          have BK628 := n4_
          have HB := n5_
          clear n0_ n1_ n2_ n3_ n4_ n5_
          have n0_ := Aside0.mk (Kd.R_drew HO616.out)
          have n1_ := Aside0.mk (Kd.R_drew HO619.out)
          have n2_ := Aside0.mk (Kd.R_drew HO624.out)
          have n3_ := Aside0.mk (Kd.V_drew HO627.out)
          have n4_ := Aside0.mk (blk_drew BK628.out)
          have n5_ := Aside0.mk (below_drew1 HB.out)
          clear HO616
          clear HO619
          clear HO624
          clear HO627
          clear BK628
          clear HB
          have HO616 := n0_
          have HO619 := n1_
          have HO624 := n2_
          have HO627 := n3_
          have BK628 := n4_
          have HB := n5_
          clear n0_ n1_ n2_ n3_ n4_ n5_
          obtain ⟨Ao51, co51, eo51⟩ := Kd.R_slice HO616.out
          (first | subst eo51 | (injection eo51 with f1_ f2_ f3_; have f4_ := f1_.symm; have f5_ := f3_.symm; clear f1_ f2_ f3_; subst f4_; subst f5_))
          refine start_ (n := 16) (S := fun w' => w'.cell? ⟨gb628, 0, none⟩ = some (.int .i64 t621) ∧ w'.cell? ⟨gb628, 1, none⟩ = some (.slice Ao27 t622.length co27) ∧ w'.cell? ⟨gb628, 2, none⟩ = some (.slice Ao28 t625.length co28)) (ds := []) #[false, false, false, false, false, false, false, false, false, false, false, false, false, false, false, false] (by kernel_rfl) rfl rfl ⟨(blk_cell BK628.out 0).trans rfl, (blk_cell BK628.out 1).trans rfl, (blk_cell BK628.out 2).trans rfl⟩ (fun hHeld => ?_); refine with_tabW wicketmanlaw10_RespPages.tab8 wicketmanlaw10_RespPages.bits8 (fun HT_ HW_ => ?_)
          generalize w49.drew = w50 at HO616 HO619 HO624 HO627 BK628 HB hHeld ⊢
          refine pure_ (i := 1) (N := some 45) (v := ?_) (a' := ?_) #[false, true, false, false, false, false, false, false, false, false, false, false, false, false, false, false] rfl rfl (any_of HT_.out (by kernel_rfl)) (fun _ _ _ h => h) (Or.inl ⟨by rfl, ?_⟩) ?_ ?_
          rotate_left
          ·intro w'
           go_simp
           with_reducible rfl
          rotate_left
          ·simp only [Act.put, List.setIfInBounds_toArray, List.set_cons_zero, List.set_cons_succ, i64_w, i32_w]
           rfl
          refine pure_ (i := 2) (N := some 46) (v := ?_) (a' := ?_) #[false, true, true, false, false, false, false, false, false, false, false, false, false, false, false, false] rfl rfl (any_of HT_.out (by kernel_rfl)) (fun _ _ _ h => h) (Or.inl ⟨by rfl, ?_⟩) ?_ ?_
          rotate_left
          ·intro w'
           go_simp
           with_reducible rfl
          rotate_left
          ·simp only [Act.put, List.setIfInBounds_toArray, List.set_cons_zero, List.set_cons_succ, i64_w, i32_w]
           rfl
          refine pure_ (i := 3) (N := some 47) (v := ?_) (a' := ?_) #[false, true, true, true, false, false, false, false, false, false, false, false, false, false, false, false] rfl rfl (any_of HT_.out (by kernel_rfl)) (fun _ _ _ h => h) (Or.inl ⟨by rfl, ?_⟩) ?_ ?_
          rotate_left
          ·intro w'
           go_simp
           with_reducible rfl
          rotate_left
          ·simp only [Act.put, List.setIfInBounds_toArray, List.set_cons_zero, List.set_cons_succ, i64_w, i32_w]
           rfl
          refine take_ (i := 0) (N := some 44) (v := ?_) (a' := ?_) #[true, true, true, true, false, false, false, false, false, false, false, false, false, false, false, false] rfl rfl (take_ofW HT_.out HW_.out (by kernel_rfl)) (fun _ _ _ h => h) (Or.inl ⟨by rfl, ?_⟩) hHeld ?_ ?_
          rotate_left
          ·rintro w' ⟨s0, s1, s2⟩
           go_simp
           with_reducible rfl
          rotate_left
          ·simp only [Act.put, List.setIfInBounds_toArray, List.set_cons_zero, List.set_cons_succ, i64_w, i32_w]
           rfl
          refine one_ (i := 4) (N := some 48) #[true, true, true, true, true, false, false, false, false, false, false, false, false, false, false, false] rfl rfl (one_of HT_.out (by kernel_rfl)) (by decide) (fun K hK => ?_)
          refine goes_ Tryd.func32 (by kernel_rfl) rfl #[.int .i64 a0, .string a1, .slice Ao51 y614.length co51] (by rfl) rfl rfl (by (try simp only [List.map_toArray, List.map_cons, List.map_nil]); first | done | rfl | (simp only [List.length_drop, List.length_take]; rfl)) ?_
          with_reducible refine (wicketmanref10_Page.calls a0 a1 _ _ y614 t629 t630 t633 _ ?side1 ?side2 A29.out).mono ?_
          (case side1 => repeat (first | exact (Kd.R_reads' HO616.out).2.2 | (with_reducible refine Kd.C_alloc ?_ _) | (with_reducible refine Kd.C_drewN ?_ _) | (with_reducible refine Kd.C_drew ?_)))
          (case side2 => exact (Kd.R_reads' HO616.out).2.1)
          rintro e w52 ⟨v631, v634, rfl, ho0, ho1, hb⟩
          refine ⟨_, rfl, ?_⟩
          have n0_ := Aside0.mk (Kd.R_elder' (by (with_reducible repeat (first | apply Kd.R_alloc | apply Kd.R_drewN | apply Kd.R_drew)); exact HO616.out) (Kd.R_base ho0) hb)
          have n1_ := Aside0.mk (Kd.R_below (by (with_reducible repeat (first | apply Kd.R_alloc | apply Kd.R_drewN | apply Kd.R_drew)); exact HO619.out) hb)
          have n2_ := Aside0.mk (Kd.R_elder' (by (with_reducible repeat (first | apply Kd.R_alloc | apply Kd.R_drewN | apply Kd.R_drew)); exact HO624.out) (Kd.R_base ho0) hb)
          have n3_ := Aside0.mk (Kd.V_elder' (by (with_reducible repeat (first | apply Kd.V_alloc | apply Kd.V_drewN | apply Kd.V_drew)); exact HO627.out) (Kd.R_base ho0) hb)
          have n4_ := Aside0.mk (Kd.R_lower (Kd.R_new' (Kd.R_new' (Kd.R_mono (ok' := fun k_ => True) ho0 (fun _ hk_ => trivial)) (Kd.R_lt (by (with_reducible repeat (first | apply Kd.R_alloc | apply Kd.R_drewN | apply Kd.R_drew)); exact HO616.out))) (Kd.R_lt (by (with_reducible repeat (first | apply Kd.R_alloc | apply Kd.R_drewN | apply Kd.R_drew)); exact HO624.out))) (below_size (by repeat (first | (with_reducible first | apply bA | apply bN | apply bD | refine below_set ?_ GE628.out) | exact HB.out))))
          have n5_ := Aside0.mk (Kd.V_lower (Kd.V_mono (ok' := fun k_ => some k_ ≠ (v631 : Value).ownBlock ∧ some k_ ≠ (.slice Ao51 y614.length co51 : Value).ownBlock ∧ some k_ ≠ (.slice (some ad620) t617.length co23 : Value).ownBlock ∧ some k_ ≠ (.slice Ao27 t622.length co27 : Value).ownBlock ∧ k_ ≠ gb628) ho1 (fun k_ hk_ => ⟨hk_.2, (Kd.fresh' (Kd.R_lt (by (with_reducible repeat (first | apply Kd.R_alloc | apply Kd.R_drewN | apply Kd.R_drew)); exact HO616.out)) k_ hk_.1), (Kd.fresh' (Kd.R_lt (by (with_reducible repeat (first | apply Kd.R_alloc | apply Kd.R_drewN | apply Kd.R_drew)); exact HO619.out)) k_ hk_.1), (Kd.fresh' (Kd.R_lt (by (with_reducible repeat (first | apply Kd.R_alloc | apply Kd.R_drewN | apply Kd.R_drew)); exact HO624.out)) k_ hk_.1), (Kd.freshB (g := gb628) (o := .cells #[.int .i64 t621, .slice Ao27 t622.length co27, .slice Ao28 t625.length co28] 51 (0, 0)) (by (with_reducible repeat (first | refine blk_drewN ?_ _ | refine blk_drew ?_ | refine blk_alloc ?_ _)); exact BK628.out) k_ hk_.1)⟩)) (below_size (by repeat (first | (with_reducible first | apply bA | apply bN | apply bD | refine below_set ?_ GE628.out) | exact HB.out))))
          have n6_ := Aside0.mk (blk_below (g := gb628) (o := .cells #[.int .i64 t621, .slice Ao27 t622.length co27, .slice Ao28 t625.length co28] 51 (0, 0)) (by (with_reducible repeat (first | refine blk_drewN ?_ _ | refine blk_drew ?_ | refine blk_alloc ?_ _)); exact BK628.out) hb)
          have n7_ := Aside0.mk (below_step (by repeat (first | (with_reducible first | apply bA | apply bN | apply bD | refine below_set ?_ GE628.out) | exact HB.out)) hb)
          clear HO616
          clear HO619
          clear HO624
          clear HO627
          clear BK628
          clear HB
          have HO616 := n0_
          have HO619 := n1_
          have HO624 := n2_
          have HO627 := n3_
          have HO632 := n4_
          have HO635 := n5_
          have BK628 := n6_
          have HB := n7_
          clear n0_ n1_ n2_ n3_ n4_ n5_ n6_ n7_
          (try clear hb)
          (try clear hb2)
          (try clear hk)
          (try clear hi)
          (try clear ho0)
          (try clear ho1)
          obtain ⟨Ao53, co53, eo53⟩ := Kd.R_slice HO632.out
          (first | subst eo53 | (injection eo53 with f1_ f2_ f3_; have f4_ := f1_.symm; have f5_ := f3_.symm; clear f1_ f2_ f3_; subst f4_; subst f5_))
          obtain ⟨Ao54, co54, eo54⟩ := Kd.V_slice HO635.out
          (first | subst eo54 | (injection eo54 with f1_ f2_ f3_; have f4_ := f1_.symm; have f5_ := f3_.symm; clear f1_ f2_ f3_; subst f4_; subst f5_))
          refine hK.out _ _ ⟨(blk_cell BK628.out 0).trans rfl, (blk_cell BK628.out 1).trans rfl, (blk_cell BK628.out 2).trans rfl⟩ (fun hHeld => ?_)
          clear hK K
          refine norm_ (a' := ?_) ?_ ?_
          rotate_left
          ·show Act.put _ (some 48) _ = _
           simp only [Act.put, List.setIfInBounds_toArray, List.set_cons_zero, List.set_cons_succ, i64_w, i32_w]
           rfl
          refine one_ (i := 5) (N := some 49) #[true, true, true, true, true, true, false, false, false, false, false, false, false, false, false, false] rfl rfl (one_of HT_.out (by kernel_rfl)) (by decide) (fun K hK => ?_)
          refine goes_ Tryd.func31 (by kernel_rfl) rfl #[.agg #[.int .i64 t621, .slice Ao27 t622.length co27, .slice Ao28 t625.length co28], .agg #[.int .i64 t629, .slice Ao53 t630.length co53, .slice Ao54 t633.length co54]] (by rfl) rfl rfl (by (try simp only [List.map_toArray, List.map_cons, List.map_nil]); first | done | rfl | (simp only [List.length_drop, List.length_take]; rfl)) ?_
          with_reducible refine (wicketmanref10_Same.calls kj4 t621 _ _ t622 _ _ t625 t629 _ _ t630 _ _ t633 false _ ?side1 ?side2 ?side3 ?side4 ?side5 ?side6 ?side7 ?side8 A30.out).mono ?_
          (case side1 => repeat (first | exact (Kd.R_reads' HO624.out).2.2 | (with_reducible refine Kd.C_alloc ?_ _) | (with_reducible refine Kd.C_drewN ?_ _) | (with_reducible refine Kd.C_drew ?_)))
          (case side2 => exact (Kd.R_reads' HO624.out).2.1)
          (case side3 => repeat (first | exact (Kd.V_reads' HO627.out).2.2 | (with_reducible refine Kd.C_alloc ?_ _) | (with_reducible refine Kd.C_drewN ?_ _) | (with_reducible refine Kd.C_drew ?_)))
          (case side4 => exact (Kd.V_reads' HO627.out).2.1)
          (case side5 => repeat (first | exact (Kd.R_reads' HO632.out).2.2 | (with_reducible refine Kd.C_alloc ?_ _) | (with_reducible refine Kd.C_drewN ?_ _) | (with_reducible refine Kd.C_drew ?_)))
          (case side6 => exact (Kd.R_reads' HO632.out).2.1)
          (case side7 => repeat (first | exact (Kd.V_reads' HO635.out).2.2 | (with_reducible refine Kd.C_alloc ?_ _) | (with_reducible refine Kd.C_drewN ?_ _) | (with_reducible refine Kd.C_drew ?_)))
          (case side8 => exact (Kd.V_reads' HO635.out).2.1)
          rintro e w55 ⟨rfl, hb⟩
          refine ⟨_, rfl, ?_⟩
          have n0_ := Aside0.mk (Kd.R_below (by (with_reducible repeat (first | apply Kd.R_alloc | apply Kd.R_drewN | apply Kd.R_drew)); exact HO616.out) hb)
          have n1_ := Aside0.mk (Kd.R_below (by (with_reducible repeat (first | apply Kd.R_alloc | apply Kd.R_drewN | apply Kd.R_drew)); exact HO619.out) hb)
          have n2_ := Aside0.mk (Kd.R_below (by (with_reducible repeat (first | apply Kd.R_alloc | apply Kd.R_drewN | apply Kd.R_drew)); exact HO624.out) hb)
          have n3_ := Aside0.mk (Kd.V_below (by (with_reducible repeat (first | apply Kd.V_alloc | apply Kd.V_drewN | apply Kd.V_drew)); exact HO627.out) hb)
          have n4_ := Aside0.mk (Kd.R_below (by (with_reducible repeat (first | apply Kd.R_alloc | apply Kd.R_drewN | apply Kd.R_drew)); exact HO632.out) hb)
          have n5_ := Aside0.mk (Kd.V_below (by (with_reducible repeat (first | apply Kd.V_alloc | apply Kd.V_drewN | apply Kd.V_drew)); exact HO635.out) hb)
          have n6_ := Aside0.mk (blk_below (g := gb628) (o := .cells #[.int .i64 t621, .slice Ao27 t622.length co27, .slice Ao28 t625.length co28] 51 (0, 0)) (by (with_reducible repeat (first | refine blk_drewN ?_ _ | refine blk_drew ?_ | refine blk_alloc ?_ _)); exact BK628.out) hb)
          have n7_ := Aside0.mk (below_step (by repeat (first | (with_reducible first | apply bA | apply bN | apply bD | refine below_set ?_ GE628.out) | exact HB.out)) hb)
          clear HO616
          clear HO619
          clear HO624
          clear HO627
          clear HO632
          clear HO635
          clear BK628
          clear HB
          have HO616 := n0_
          have HO619 := n1_
          have HO624 := n2_
          have HO627 := n3_
          have HO632 := n4_
          have HO635 := n5_
          have BK628 := n6_
          have HB := n7_
          clear n0_ n1_ n2_ n3_ n4_ n5_ n6_ n7_
          (try clear hb)
          (try clear hb2)
          (try clear hk)
          (try clear hi)
          refine hK.out _ _ ⟨(blk_cell BK628.out 0).trans rfl, (blk_cell BK628.out 1).trans rfl, (blk_cell BK628.out 2).trans rfl⟩ (fun hHeld => ?_)
          clear hK K
          refine norm_ (a' := ?_) ?_ ?_
          rotate_left
          ·show Act.put _ (some 49) _ = _
           simp only [Act.put, List.setIfInBounds_toArray, List.set_cons_zero, List.set_cons_succ, i64_w, i32_w]
           rfl
          refine pure_ (i := 6) (N := some 50) (v := ?_) (a' := ?_) #[true, true, true, true, true, true, true, false, false, false, false, false, false, false, false, false] rfl rfl (any_of HT_.out (by kernel_rfl)) (fun _ _ _ h => h) (Or.inl ⟨by rfl, ?_⟩) ?_ ?_
          rotate_left
          ·intro w'
           go_simp
           with_reducible rfl
          rotate_left
          ·simp only [Act.put, List.setIfInBounds_toArray, List.set_cons_zero, List.set_cons_succ, i64_w, i32_w]
           rfl
          refine pure_ (i := 7) (N := some 51) (v := undef) (a' := ?_) #[true, true, true, true, true, true, true, true, false, false, false, false, false, false, false, false] rfl rfl (any_of HT_.out (by kernel_rfl)) (fun _ _ _ h => h) (Or.inr ⟨by rfl, rfl⟩) ?_ ?_
          rotate_left
          ·simp only [Act.put, List.setIfInBounds_toArray, List.set_cons_zero, List.set_cons_succ, i64_w, i32_w]
           rfl
          refine pure_ (i := 8) (N := some 52) (v := undef) (a' := ?_) #[true, true, true, true, true, true, true, true, true, false, false, false, false, false, false, false] rfl rfl (any_of HT_.out (by kernel_rfl)) (fun _ _ _ h => h) (Or.inr ⟨by rfl, rfl⟩) ?_ ?_
          rotate_left
          ·simp only [Act.put, List.setIfInBounds_toArray, List.set_cons_zero, List.set_cons_succ, i64_w, i32_w]
           rfl
          refine pure_ (i := 9) (N := some 53) (v := undef) (a' := ?_) #[true, true, true, true, true, true, true, true, true, true, false, false, false, false, false, false] rfl rfl (any_of HT_.out (by kernel_rfl)) (fun _ _ _ h => h) (Or.inr ⟨by rfl, rfl⟩) ?_ ?_
          rotate_left
          ·simp only [Act.put, List.setIfInBounds_toArray, List.set_cons_zero, List.set_cons_succ, i64_w, i32_w]
           rfl
          refine pure_ (i := 10) (N := some 54) (v := undef) (a' := ?_) #[true, true, true, true, true, true, true, true, true, true, true, false, false, false, false, false] rfl rfl (any_of HT_.out (by kernel_rfl)) (fun _ _ _ h => h) (Or.inr ⟨by rfl, rfl⟩) ?_ ?_
          rotate_left
          ·simp only [Act.put, List.setIfInBounds_toArray, List.set_cons_zero, List.set_cons_succ, i64_w, i32_w]
           rfl
          refine pure_ (i := 11) (N := some 55) (v := undef) (a' := ?_) #[true, true, true, true, true, true, true, true, true, true, true, true, false, false, false, false] rfl rfl (any_of HT_.out (by kernel_rfl)) (fun _ _ _ h => h) (Or.inr ⟨by rfl, rfl⟩) ?_ ?_
          rotate_left
          ·simp only [Act.put, List.setIfInBounds_toArray, List.set_cons_zero, List.set_cons_succ, i64_w, i32_w]
           rfl
          refine pure_ (i := 12) (N := some 56) (v := undef) (a' := ?_) #[true, true, true, true, true, true, true, true, true, true, true, true, true, false, false, false] rfl rfl (any_of HT_.out (by kernel_rfl)) (fun _ _ _ h => h) (Or.inr ⟨by rfl, rfl⟩) ?_ ?_
          rotate_left
          ·simp only [Act.put, List.setIfInBounds_toArray, List.set_cons_zero, List.set_cons_succ, i64_w, i32_w]
           rfl
          refine pure_ (i := 13) (N := some 57) (v := undef) (a' := ?_) #[true, true, true, true, true, true, true, true, true, true, true, true, true, true, false, false] rfl rfl (any_of HT_.out (by kernel_rfl)) (fun _ _ _ h => h) (Or.inr ⟨by rfl, rfl⟩) ?_ ?_
          rotate_left
          ·simp only [Act.put, List.setIfInBounds_toArray, List.set_cons_zero, List.set_cons_succ, i64_w, i32_w]
           rfl
          refine pure_ (i := 14) (N := some 58) (v := ?_) (a' := ?_) #[true, true, true, true, true, true, true, true, true, true, true, true, true, true, true, false] rfl rfl (any_of HT_.out (by kernel_rfl)) (fun _ _ _ h => h) (Or.inl ⟨by rfl, ?_⟩) ?_ ?_
          rotate_left
          ·intro w'
           go_simp
           with_reducible rfl
          rotate_left
          ·simp only [Act.put, List.setIfInBounds_toArray, List.set_cons_zero, List.set_cons_succ, i64_w, i32_w]
           rfl
          refine pure_ (i := 15) (N := some 13) (v := ?_) (a' := ?_) #[true, true, true, true, true, true, true, true, true, true, true, true, true, true, true, true] rfl rfl (any_of HT_.out (by kernel_rfl)) (fun _ _ _ h => h) (Or.inl ⟨by rfl, ?_⟩) ?_ ?_
          rotate_left
          ·intro w'
           go_simp
           with_reducible rfl
          rotate_left
          ·simp only [Act.put, List.setIfInBounds_toArray, List.set_cons_zero, List.set_cons_succ, i64_w, i32_w]
           rfl
          refine done_ (done_of HT_.out (by kernel_rfl)) ?_
          try go_wp2
          go_meet
          case rel => exact ⟨_, (false), (by first | rfl | (simp; done) | (simp [*]; done)), H', ⟨by have := HJ4.out; first | omega | exact Nat.le_refl _⟩, ⟨by (with_reducible repeat (first | apply Kd.R_alloc | apply Kd.R_drewN | apply Kd.R_drew)); exact Kd.R_mono HO616.out (fun _ hk => hk.1)⟩, ⟨by (with_reducible repeat (first | apply Kd.R_alloc | apply Kd.R_drewN | apply Kd.R_drew)); exact Kd.R_mono HO624.out (fun _ hk => hk.1)⟩, ⟨by (with_reducible repeat (first | apply Kd.V_alloc | apply Kd.V_drewN | apply Kd.V_drew)); exact Kd.V_mono HO627.out (fun _ hk => ⟨hk.1.1, ⟨hk.1.2.2.1, hk.1.2.2.2⟩⟩)⟩, ⟨by (with_reducible repeat (first | refine blk_drewN ?_ _ | refine blk_drew ?_ | refine blk_alloc ?_ _)); exact BK628.out⟩, ⟨by repeat (first | (with_reducible first | apply bA | apply bN | apply bD | refine below_set ?_ GE628.out) | exact HB.out)⟩⟩
        case rest =>
         clear HC20
         try clear p2
         try clear c3
         try clear c30
         try clear c31
         try clear c32
         obtain ⟨kq, x13_19, rfl, HA, HJ19, HO_9, HO_629001, HO_629002, BK628, HB⟩ := hcut
         cases kq with
         | zero => exact absurd HA.out (by simp [wicketmanlaw10_RespPages.j1])
         | succ kj19 =>
          have H := HA.out
          clear HA
          simp only [wicketmanlaw10_RespPages.j1] at H
          have H' := Aside0.mk H
          clear H
          go_wp2
          go_loopg [14] kj19 (fun kq v14 w' => ∃ (x9_3 : List (S43)) (x14_3 : Int) (x629001_3 : List (S43)) (u629001 : Value), v14 = .int .i64 x14_3 ∧ Aside0 (wicketmanlaw10_RespPages.l0 kq l2 x9_3 x13_19 x14_3 t621 x629001_3 t625 = some r) ∧ Aside0 (kq ≤ kj19) ∧ Aside0 (Kd.R k43 43 w' w.heap.size (fun k_ => some k_ ≠ (u629001 : Value).ownBlock) v615 x9_3) ∧ Aside0 (Kd.R k43 43 w' w.heap.size (fun k_ => some k_ ≠ (v615 : Value).ownBlock) u629001 x629001_3) ∧ Aside0 (Kd.V (Kd.int .u8) 5 w' w.heap.size (fun k_ => some k_ ≠ (v615 : Value).ownBlock ∧ some k_ ≠ (u629001 : Value).ownBlock ∧ k_ ≠ gb628) (.slice Ao28 t625.length co28) t625) ∧ Aside0 (w'.heap[gb628]? = some (.cells #[.int .i64 t621, u629001, (.slice Ao28 t625.length co28)] 51 (0, 0))) ∧ Aside0 (Below w.heap.size w w'))
          case atStart => exact ⟨(y614), (0), (t622), (.slice Ao27 t622.length co27), (by first | rfl | (simp; done) | (simp [*]; done)), H', ⟨Nat.le_refl _⟩, ⟨by (with_reducible repeat (first | apply Kd.R_alloc | apply Kd.R_drewN | apply Kd.R_drew)); exact HO_9.out⟩, ⟨by (with_reducible repeat (first | apply Kd.R_alloc | apply Kd.R_drewN | apply Kd.R_drew)); exact HO_629001.out⟩, ⟨by (with_reducible repeat (first | apply Kd.V_alloc | apply Kd.V_drewN | apply Kd.V_drew)); exact HO_629002.out⟩, ⟨by (with_reducible repeat (first | refine blk_drewN ?_ _ | refine blk_drew ?_ | refine blk_alloc ?_ _)); exact BK628.out⟩, ⟨by repeat (first | (with_reducible first | apply bA | apply bN | apply bD | refine below_set ?_ GE628.out) | exact HB.out)⟩⟩
          case round =>
           clear H'
           try clear p2
           try clear c3
           try clear c30
           try clear c31
           try clear c32
           try clear p2
           obtain ⟨x9_3, x14_3, x629001_3, u629001, rfl, HA, HK3, HO_9, HO_629001, HO_629002, BK628, HB⟩ := hrel
           cases gk with
           | zero => exact absurd HA.out (by simp [wicketmanlaw10_RespPages.l0])
           | succ k3 =>
            have H := HA.out
            clear HA
            simp only [wicketmanlaw10_RespPages.l0] at H
            by_cases c56 : x14_3 < (x629001_3.length : Int)
            ·rw [if_pos c56] at H
             have c56b0 : decide (x14_3 < (x629001_3.length : Int)) = true := decide_eq_true c56
             clear c56
             by_cases c57 : 0 ≤ x14_3
             ·rw [if_pos c57] at H
              have c57b0 : decide (0 ≤ x14_3) = true := decide_eq_true c57
              clear c57
              obtain ⟨y652, hy652⟩ : ∃ y_ : List (S43), y_ = (x629001_3.set (x14_3 : Int).toNat (⟨(rd_T43 x629001_3 x14_3).f0, (⟨#[63]⟩ : ByteArray)⟩ : S43)) := ⟨_, rfl⟩
              replace H : (wicketmanlaw10_RespPages.l0 k3 l2 x9_3 x13_19 (wrap64 (x14_3 + 1)) t621 y652 t625) = some r := by first | (rw [hy652]; with_reducible exact H) | (have H2_ := (Option.bind_some _ _).symm.trans H; rw [hy652]; with_reducible exact H2_) | (have H2_ := (Option.bind_some _ _).symm.trans H; with_reducible exact H2_) | with_reducible exact H | (rw [hy652]; exact H) | exact H
              have Ny652 := Aside0.mk hy652
              clear hy652
              have H' := Aside0.mk H
              clear H
              have hcz59_0 : wr.cell? ⟨gb628, 0, none⟩ = some (.int .i64 t621) := (blk_cell BK628.out 0).trans rfl
              have hcz59_1 : wr.cell? ⟨gb628, 1, none⟩ = some (u629001) := (blk_cell BK628.out 1).trans rfl
              have hcz59_2 : wr.cell? ⟨gb628, 2, none⟩ = some (.slice Ao28 t625.length co28) := (blk_cell BK628.out 2).trans rfl
              have hfz59_0 := blk_frozen BK628.out 0
              have hfz59_1 := blk_frozen BK628.out 1
              have hfz59_2 := blk_frozen BK628.out 2
              obtain ⟨Ao60, co60, eo60⟩ := Kd.R_slice HO_629001.out
              subst eo60
              have p58 : 0 ≤ (x14_3 : Int) := of_decide_eq_true (by first | (with_reducible assumption) | assumption)
              have q58 : (x14_3 : Int) < ((x629001_3.length : Int) : Int) := of_decide_eq_true (by first | (with_reducible assumption) | assumption)
              obtain ⟨go58, co58, eo58, gb58, gl58, cl58, HG58⟩ := Kd.R_form HO_629001.out (by omega)
              (first | cases eo58 | (injection eo58 with ea_ en_ ec_; (first | subst ea_ | (injection ea_ with ea_; subst ea_)); subst ec_; clear en_))
              have GB58 := Aside0.mk gb58
              have GG58 := Aside0.mk HG58
              clear gb58 gl58 HG58
              obtain ⟨ce58, hcl58, hM58, hcc58, hfr58⟩ := Kd.R_elem HO_629001.out z43 (x14_3 : Int) p58 q58
              obtain rfl := k43_openM hM58
              have hx58_0 : wr.cell? ⟨go58, (x14_3 : Int).toNat * 2, none⟩ = some (.string ((rd_T43 x629001_3 x14_3).f0)) := hcc58 0 _ rfl
              have hx58_1 : wr.cell? ⟨go58, (x14_3 : Int).toNat * 2 + 1, none⟩ = some (.string ((rd_T43 x629001_3 x14_3).f1)) := hcc58 1 _ rfl
              have hf58_0 : wr.frozen? ⟨go58, (x14_3 : Int).toNat * 2, none⟩ = false := hfr58 0
              have hf58_1 : wr.frozen? ⟨go58, (x14_3 : Int).toNat * 2 + 1, none⟩ = false := hfr58 1
              clear hcl58 hcc58 hfr58 hM58
              replace p58 := eq_true p58
              replace q58 := eq_true q58
              have HX61 := Aside0.mk (show Kd.R k43 43 wr w.heap.size (fun k_ => some k_ ≠ (v615 : Value).ownBlock) (.slice (some ⟨go58, 0, none⟩) x629001_3.length co60) x629001_3 from (by (with_reducible repeat (first | apply Kd.R_alloc | apply Kd.R_drewN | apply Kd.R_drew)); exact HO_629001.out))
              obtain ⟨ce61, hcl61, hM61, hcc61, hfr61⟩ := Kd.R_elem HX61.out z43 (x14_3 : Int) (of_decide_eq_true (by first | (with_reducible assumption) | assumption)) (by have h_ : (x14_3 : Int) < ((x629001_3.length : Int) : Int) := of_decide_eq_true (by first | (with_reducible assumption) | assumption); first | exact h_ | (have e_ := (Kd.R_reads' HO_629001.out).1; omega) | simpa using h_)
              obtain rfl := k43_openM hM61
              have HP61 := Kd.R_seg HX61.out (x14_3 : Int) (of_decide_eq_true (by first | (with_reducible assumption) | assumption)) (by have h_ : (x14_3 : Int) < ((x629001_3.length : Int) : Int) := of_decide_eq_true (by first | (with_reducible assumption) | assumption); first | exact h_ | (have e_ := (Kd.R_reads' HO_629001.out).1; omega) | simpa using h_) (seg := [.string (⟨#[63]⟩ : ByteArray)]) (j := 1) hcl61 hcc61 (show 2 ≤ 2 from by decide) (x' := (⟨(rd_T43 x629001_3 x14_3).f0, (⟨#[63]⟩ : ByteArray)⟩ : S43)) (k43_mkM _ _ _ (⟨(rd_T43 x629001_3 x14_3).f0, (⟨#[63]⟩ : ByteArray)⟩ : S43) ) (fun _ hk => hk)
              have hx61_1 := hcc61 1 _ rfl
              (try simp only [show (k43).sz = 2 from rfl, Nat.mul_one, Nat.add_zero] at hx61_1)
              have hf61_1 := hfr61 1
              (try simp only [show (k43).sz = 2 from rfl, Nat.mul_one, Nat.add_zero] at hf61_1)
              clear hcl61 hcc61 hfr61 hM61
              go_wp2_with (first | ((with_reducible refine gate_store (t := 9) (p := 70) rfl ?_); refine store_event (t := 9) (p := 70) (v := ?vo_w62) (w1 := (wr.setCell ⟨go58, (x14_3 : Int).toNat * 2 + 1, none⟩ (.string (⟨#[63]⟩ : ByteArray)))) ?hg ?ho ?hn ?hr ?_; (case ho => rfl); (case hg => rfl); (case hn => rfl); (case hr => first | (go_simp; done) | (go_simp; rfl)); intro w62 hw; have hg : wr.grownBy w62 (some go58) := (by rw [hw]; exact HP61.2); have hp_ : Kd.R k43 43 w62 w.heap.size (fun k_ => some k_ ≠ (v615 : Value).ownBlock) (.slice (some ⟨go58, 0, none⟩) x629001_3.length co60) y652 := (by rw [hw, Ny652.out]; exact HP61.1); clear HP61; have n0_ := Aside0.mk (Kd.R_after (v := (.slice (some ⟨go58, 0, none⟩) x629001_3.length co60)) (v1 := (.slice (some ⟨go58, 0, none⟩) x629001_3.length co60)) (ok := (fun _ => True)) (by (with_reducible repeat (first | apply Kd.R_alloc | apply Kd.R_drewN | apply Kd.R_drew)); exact Kd.R_mono HO_9.out (fun _ hk => ⟨trivial, hk⟩)) hg (.inl rfl)); have n1_ := Aside0.mk (hp_); have n2_ := Aside0.mk (Kd.V_afterv (v := (.slice (some ⟨go58, 0, none⟩) x629001_3.length co60)) (v1 := (.slice (some ⟨go58, 0, none⟩) x629001_3.length co60)) (ok := (fun k_ => some k_ ≠ (v615 : Value).ownBlock ∧ k_ ≠ gb628)) (by (with_reducible repeat (first | apply Kd.V_alloc | apply Kd.V_drewN | apply Kd.V_drew)); exact Kd.V_mono HO_629002.out (fun _ hk => ⟨⟨hk.1, hk.2.2⟩, hk.2.1⟩)) hg (.inl rfl)); have n3_ := Aside0.mk (blk_grown (g := gb628) (o := .cells #[.int .i64 t621, .slice (some ⟨go58, 0, none⟩) x629001_3.length co60, .slice Ao28 t625.length co28] 51 (0, 0)) (by (with_reducible repeat (first | refine blk_drewN ?_ _ | refine blk_drew ?_ | refine blk_alloc ?_ _)); exact BK628.out) hg (Kd.R_ne HO_629001.out BK628.out (by decide))); have n4_ := Aside0.mk ((by rw [hw]; exact below_set (HB.out) GB58.out : Below w.heap.size w w62)); clear HO_9; clear HO_629001; clear HO_629002; clear BK628; clear HB; have HO_9 := n0_; have HO_629001 := n1_; have HO_629002 := n2_; have BK628 := n3_; have HB := n4_; clear n0_ n1_ n2_ n3_ n4_; clear hg hw hp_))
              go_roundg k3
              case measure => have := HJ4.out; have := HJ19.out; have := HK3.out; omega
              case rel => exact ⟨(x9_3), (wrap64 (x14_3 + 1)), (y652), (.slice (some ⟨go58, 0, none⟩) x629001_3.length co60), (by first | rfl | (simp; done) | (simp [*]; done)), H', ⟨by have := HJ4.out; have := HJ19.out; have := HK3.out; omega⟩, ⟨by (with_reducible repeat (first | apply Kd.R_alloc | apply Kd.R_drewN | apply Kd.R_drew)); exact Kd.R_mono HO_9.out (fun _ hk => hk.2)⟩, ⟨by (with_reducible repeat (first | apply Kd.R_alloc | apply Kd.R_drewN | apply Kd.R_drew)); exact HO_629001.out⟩, ⟨by (with_reducible repeat (first | apply Kd.V_alloc | apply Kd.V_drewN | apply Kd.V_drew)); exact Kd.V_mono HO_629002.out (fun _ hk => ⟨hk.1.1, ⟨hk.2, hk.1.2⟩⟩)⟩, ⟨by (with_reducible repeat (first | refine blk_drewN ?_ _ | refine blk_drew ?_ | refine blk_alloc ?_ _)); exact BK628.out⟩, ⟨by repeat (first | (with_reducible first | apply bA | apply bN | apply bD | refine below_set ?_ GE628.out) | exact HB.out)⟩⟩
             ·rw [if_neg c57] at H
              exact absurd H (by simp)
            ·rw [if_neg c56] at H
             have c56b0 : decide (x14_3 < (x629001_3.length : Int)) = false := decide_eq_false c56
             clear c56
             by_cases c63 : x13_19 = true
             ·subst c63
              rw [if_pos rfl] at H
              replace H := Option.bind_eq_some_iff.mp H
              obtain ⟨t653, A640, H⟩ := H
              try dsimp only at H
              have A64 := Aside0.mk A640
              clear A640
              obtain rfl := Option.some.inj H
              have hcz65_0 : wr.cell? ⟨gb628, 0, none⟩ = some (.int .i64 t621) := (blk_cell BK628.out 0).trans rfl
              have hcz65_1 : wr.cell? ⟨gb628, 1, none⟩ = some (u629001) := (blk_cell BK628.out 1).trans rfl
              have hcz65_2 : wr.cell? ⟨gb628, 2, none⟩ = some (.slice Ao28 t625.length co28) := (blk_cell BK628.out 2).trans rfl
              have hfz65_0 := blk_frozen BK628.out 0
              have hfz65_1 := blk_frozen BK628.out 1
              have hfz65_2 := blk_frozen BK628.out 2
              obtain ⟨Ao66, co66, eo66⟩ := Kd.R_slice HO_629001.out
              subst eo66
              obtain ⟨Ao67, co67, eo67⟩ := Kd.R_slice HO_9.out
              subst eo67
              go_wp2_with (first | (go_at_call 33; (with_reducible refine (wicketmanref07_Same.calls k3 _ _ l2 _ _ x9_3 t653 _ ?side1 ?side2 ?side3 ?side4 A64.out).mono ?_); (case side1 => repeat (first | exact (Kd.C_below HR2.out HB.out) | (with_reducible refine Kd.C_alloc ?_ _) | (with_reducible refine Kd.C_drewN ?_ _) | (with_reducible refine Kd.C_drew ?_))); (case side2 => exact HC2.out); (case side3 => repeat (first | exact (Kd.R_reads' HO_9.out).2.2 | (with_reducible refine Kd.C_alloc ?_ _) | (with_reducible refine Kd.C_drewN ?_ _) | (with_reducible refine Kd.C_drew ?_))); (case side4 => exact (Kd.R_reads' HO_9.out).2.1); rintro e w' ⟨rfl, ⟨nd, rfl⟩⟩))
              go_ret
              exact ⟨by first | rfl | (simp [errW_none, errW_some] <;> rfl) | (simp only [← hji16]; first | rfl | (simp [errW_none, errW_some] <;> rfl)) | (simp [*, errW_none, errW_some] <;> rfl), by repeat (first | (with_reducible first | apply bA | apply bN | apply bD | refine below_set ?_ GE628.out) | exact HB.out)⟩
             ·replace c63 := Bool.eq_false_iff.mpr c63
              subst c63
              rw [if_neg (show ¬ (false = true) by decide)] at H
              exact absurd (Option.some.inj H) (by rw [hTR.out]; decide)
       ·rw [if_neg c18] at H
        exact absurd H (by simp)
      ·rw [if_neg c17] at H
       exact absurd H (by simp)
    ·rw [if_neg c13] at H
     exact absurd H (by simp)

end Go.Proofs.YtpfbemcoblganaaDoor.Pall

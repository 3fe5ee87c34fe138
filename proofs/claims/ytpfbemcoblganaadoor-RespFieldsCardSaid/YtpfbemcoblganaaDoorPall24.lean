-- Written by a program of this session: the kit's print with given contracts. Not trusted: Lean checks it.
import Derived.Test.YtpfbemcoblganaaDoorPall0
import Derived.Test.YtpfbemcoblganaaDoorPall4
import Derived.Test.YtpfbemcoblganaaDoorPall20
import Derived.Test.YtpfbemcoblganaaDoorPall22
namespace Go.Proofs.YtpfbemcoblganaaDoor.Pall
open Go.RowKit Go.Proofs.YtpfbemcoblganaaDoorW.PrintWords Go.Proofs.YtpfbemcoblganaaDoorW.PrintLast Go.Proofs.YtpfbemcoblganaaDoorW.PrintMore
attribute [local go_sem] max2_int min2_int max_two min_two
set_option linter.unusedVariables false
set_option linter.unusedSimpArgs false

/-! ### wicketmanlaw10_RespFields: function 11 -/
def wicketmanlaw10_RespFields.l0 : Nat → ByteArray → List Int → List (S43) → Int → Option (Bool)
 | 0, _, _, _, _ => none
 | k + 1, x0, x1, x5, x6 => if x6 < (x1.length : Int) then (if x6 < 10 then (if 0 ≤ x6 then (if x5.length < 4398046511104 then (wicketmanlaw10_RespFields.l0 k x0 x1 (x5 ++ [(⟨(⟨#[88]⟩ : ByteArray), strOfNums (([(97 + (Int.tmod (rd x1 x6) 26)) % 256] : List Int))⟩ : S43)]) (wrap64 (x6 + 1))) else (none)) else (none)) else ((resp_Page.f 200 x0 x5).bind fun bt662 => ((wicketmanlaw10_known.f).bind fun t670 => (if t670 = true then (if (bt662.2.1.length : Int) = (wrap64 (2 + (x5.length : Int))) then (if 0 < (bt662.2.1.length : Int) then (if ((rd_T43 bt662.2.1 0).f0).toList = ([67, 111, 110, 116, 101, 110, 116, 45, 84, 121, 112, 101] : List UInt8) then (if 1 < (bt662.2.1.length : Int) then (if ((rd_T43 bt662.2.1 1).f1).toList = ([110, 111, 45, 115, 116, 111, 114, 101] : List UInt8) then (if 2 ≤ (bt662.2.1.length : Int) then ((wicketmanref07_Same.f k (bt662.2.1.drop 2) x5).bind fun t677 => (if t677 = true then (if (strOfNums bt662.2.2).toList = x0.toList then (some (bt662.1 == 200)) else (some false)) else (some false))) else (none)) else (some false)) else (none)) else (some false)) else (none)) else (some false)) else (some false))))) else ((resp_Page.f 200 x0 x5).bind fun bt678 => ((wicketmanlaw10_known.f).bind fun t686 => (if t686 = true then (if (bt678.2.1.length : Int) = (wrap64 (2 + (x5.length : Int))) then (if 0 < (bt678.2.1.length : Int) then (if ((rd_T43 bt678.2.1 0).f0).toList = ([67, 111, 110, 116, 101, 110, 116, 45, 84, 121, 112, 101] : List UInt8) then (if 1 < (bt678.2.1.length : Int) then (if ((rd_T43 bt678.2.1 1).f1).toList = ([110, 111, 45, 115, 116, 111, 114, 101] : List UInt8) then (if 2 ≤ (bt678.2.1.length : Int) then ((wicketmanref07_Same.f k (bt678.2.1.drop 2) x5).bind fun t693 => (if t693 = true then (if (strOfNums bt678.2.2).toList = x0.toList then (some (bt678.1 == 200)) else (some false)) else (some false))) else (none)) else (some false)) else (none)) else (some false)) else (none)) else (some false)) else (some false))))
def wicketmanlaw10_RespFields.f (k : Nat) (a0 : ByteArray) (l1 : List Int) : Option (Bool) := if (a0.size : Int) > 200 then ((wicketmanlaw10_known.f).bind fun t654 => (some t654)) else (wicketmanlaw10_RespFields.l0 k a0 l1 ([] : List (S43)) 0)
theorem wicketmanlaw10_RespFields.mono_l : ∀ k, (∀ y0 y1 y2 y3, LeO (wicketmanlaw10_RespFields.l0 k y0 y1 y2 y3) (wicketmanlaw10_RespFields.l0 (k + 1) y0 y1 y2 y3))
 | 0 => fun _ _ _ _ r h => by simp [wicketmanlaw10_RespFields.l0] at h
 | k + 1 => by
  have ih0 := wicketmanlaw10_RespFields.mono_l k
  ·intro y0 y1 y2 y3
   unfold wicketmanlaw10_RespFields.l0
   repeat' first
   | (with_reducible exact ih0 _ _ _ _)
   | (with_reducible exact wicketmanref07_Same.mono _ _ _)
   | (with_reducible exact LeO.refl _)
   | (with_reducible exact LeO.none _)
   | (with_reducible refine LeO.ite ?_ ?_)
   | (with_reducible refine LeO.bind ?_ (fun _ => ?_))
   | exact ih0 _ _ _ _
   | exact wicketmanref07_Same.mono _ _ _
   | exact LeO.none _
   | refine LeO.ite ?_ ?_
   | refine LeO.bind ?_ (fun _ => ?_)
theorem wicketmanlaw10_RespFields.mono : ∀ a0 a1 k, LeO (wicketmanlaw10_RespFields.f k a0 a1) (wicketmanlaw10_RespFields.f (k + 1) a0 a1) := by
 intro a0 a1 k
 have ih0 := wicketmanlaw10_RespFields.mono_l k
 unfold wicketmanlaw10_RespFields.f
 repeat' first
   | (with_reducible exact ih0 _ _ _ _)
   | (with_reducible exact wicketmanref07_Same.mono _ _ _)
   | (with_reducible exact LeO.refl _)
   | (with_reducible exact LeO.none _)
   | (with_reducible refine LeO.ite ?_ ?_)
   | (with_reducible refine LeO.bind ?_ (fun _ => ?_))
   | exact ih0 _ _ _ _
   | exact wicketmanref07_Same.mono _ _ _
   | exact LeO.none _
   | refine LeO.ite ?_ ?_
   | refine LeO.bind ?_ (fun _ => ?_)
set_option maxHeartbeats 8000000 in
set_option maxRecDepth 100000 in
theorem wicketmanlaw10_RespFields.calls (k : Nat) (a0 : ByteArray) (A1 : Option Addr) (c1 : Nat) (l1 : List Int) (r : Bool) (w : World) (hr1 : Kd.C (Kd.int .u8) w A1 l1.length l1) (hc1 : l1.length ≤ c1) (hT : Tb w) (hTR : Aside0 (r = true)) (h : wicketmanlaw10_RespFields.f k a0 l1 = some r) :
  Calls Tryd.prog 11 #[.string a0, .slice A1 l1.length c1] w fun e w' => e = .returned (.bool r) ∧ Below w.heap.size w w' := by
 have hu43 := Tryd.underlying43
 have hu51 := Tryd.underlying51
 have HR1 := Aside0.mk hr1
 have HC1 := Aside0.mk hc1
 clear hr1 hc1
 have HB := Aside0.mk (Below.refl w.heap.size w)
 have H : (if (a0.size : Int) > 200 then ((wicketmanlaw10_known.f).bind fun t654 => (some t654)) else (wicketmanlaw10_RespFields.l0 k a0 l1 ([] : List (S43)) 0)) = some r := h
 clear h
 by_cases c3 : (a0.size : Int) > 200
 ·rw [if_pos c3] at H
  have c3b0 : decide (200 < (a0.size : Int)) = true := decide_eq_true c3
  have c3b1 : decide (200 < a0.size) = true := decide_eq_true (by omega)
  clear c3
  replace H := Option.bind_eq_some_iff.mp H
  obtain ⟨t654, A40, H⟩ := H
  try dsimp only at H
  have A4 := Aside0.mk A40
  clear A40
  obtain rfl := Option.some.inj H
  go_enter Tryd.func11, Tryd.ntmps11
  go_wp2_with (first | ((with_reducible refine gate_callee (f := 28) rfl ?_); refine goesL_ (some 11) rfl rfl Tryd.func28 (by kernel_rfl) rfl #[] rfl (by (try simp only [List.map_toArray, List.map_cons, List.map_nil]); first | done | rfl | (simp only [List.length_drop, List.length_take]; rfl)) ?_; (with_reducible refine (wicketmanlaw10_known.calls  t654 _ (by first | exact hT | (refine Tb.of_below hT ?_; repeat (first | (with_reducible first | apply bA | apply bN | apply bD) | exact HB.out | refine Below.setCell ?_ (Aside0.out (by assumption)) _)) | (refine Tb.of_below hT ?_; assumption)) (by first | exact hTR | exact Aside0.mk rfl | exact Aside0.mk (by assumption) | exact Aside0.mk (of_eq_true (by assumption)) | exact Aside0.mk (wicketmanlaw10_known.true_ _ A4.out) | exact Aside0.mk (by simp_all)) A4.out).mono ?_); rintro e w5 ⟨rfl, hb⟩; refine ⟨_, rfl, ?_⟩; have n0_ := Aside0.mk (below_step (by repeat (first | (with_reducible first | apply bA | apply bN | apply bD) | exact HB.out)) hb); clear HB; have HB := n0_; clear n0_; (try clear hb); (try clear hb2); (try clear hk); (try clear hi)))
  go_ret
  exact ⟨by first | rfl | (simp [errW_none, errW_some] <;> rfl) | (simp [*, errW_none, errW_some] <;> rfl), by repeat (first | (with_reducible first | apply bA | apply bN | apply bD) | exact HB.out)⟩
 ·rw [if_neg c3] at H
  have c3b0 : decide (200 < (a0.size : Int)) = false := decide_eq_false c3
  have c3b1 : decide (200 < a0.size) = false := decide_eq_false (by omega)
  clear c3
  have H' := Aside0.mk H
  clear H
  go_enter Tryd.func11, Tryd.ntmps11
  go_wp2
  go_loopg [5, 6] k (fun kq v5 v6 w' => ∃ (x5_1 : List (S43)) (x6_1 : Int), v6 = .int .i64 x6_1 ∧ Aside0 (wicketmanlaw10_RespFields.l0 kq a0 l1 x5_1 x6_1 = some r) ∧ Aside0 (kq ≤ k) ∧ Aside0 (Kd.R k43 43 w' w.heap.size (fun _ => True) v5 x5_1) ∧ Aside0 (Below w.heap.size w w'))
  case atStart => exact ⟨(([] : List (S43))), (0), (by first | rfl | (simp; done) | (simp [*]; done)), H', ⟨Nat.le_refl _⟩, ⟨by first | exact Kd.R_nil _ _ _ _ _ | exact Kd.N_nil _ _ _ _ _ | exact Kd.V_nil _ _ _ _ _ | exact Kd.Q_nil _ _ _ _ _ | exact Kd.S_nil _ _ _ _ _⟩, ⟨by repeat (first | (with_reducible first | apply bA | apply bN | apply bD) | exact HB.out)⟩⟩
  case round =>
   clear H'
   try clear c1
   try clear c2
   try clear p2
   try clear c3
   try clear c3b0
   try clear c3b1
   obtain ⟨x5_1, x6_1, rfl, HA, HK1, HO_5, HB⟩ := hrel
   cases gk with
   | zero => exact absurd HA.out (by simp [wicketmanlaw10_RespFields.l0])
   | succ k1 =>
    have H := HA.out
    clear HA
    simp only [wicketmanlaw10_RespFields.l0] at H
    by_cases c6 : x6_1 < (l1.length : Int)
    ·rw [if_pos c6] at H
     have c6b0 : decide (x6_1 < (l1.length : Int)) = true := decide_eq_true c6
     clear c6
     by_cases c7 : x6_1 < 10
     ·rw [if_pos c7] at H
      have c7b0 : decide (x6_1 < 10) = true := decide_eq_true c7
      clear c7
      by_cases c8 : 0 ≤ x6_1
      ·rw [if_pos c8] at H
       have c8b0 : decide (0 ≤ x6_1) = true := decide_eq_true c8
       clear c8
       obtain ⟨y656, hy656⟩ : ∃ y_ : List Int, y_ = (([(97 + (Int.tmod (rd l1 x6_1) 26)) % 256] : List Int)) := ⟨_, rfl⟩
       replace H : (if x5_1.length < 4398046511104 then (wicketmanlaw10_RespFields.l0 k1 a0 l1 (x5_1 ++ [(⟨(⟨#[88]⟩ : ByteArray), strOfNums y656⟩ : S43)]) (wrap64 (x6_1 + 1))) else (none)) = some r := by first | (rw [hy656]; with_reducible exact H) | (have H2_ := (Option.bind_some _ _).symm.trans H; rw [hy656]; with_reducible exact H2_) | (have H2_ := (Option.bind_some _ _).symm.trans H; with_reducible exact H2_) | with_reducible exact H | (rw [hy656]; exact H) | exact H
       have Ny656 := Aside0.mk hy656
       clear hy656
       by_cases c9 : x5_1.length < 4398046511104
       ·rw [if_pos c9] at H
        have LMc9 := Aside0.mk c9
        clear c9
        obtain ⟨y659, hy659⟩ : ∃ y_ : List (S43), y_ = (x5_1 ++ [(⟨(⟨#[88]⟩ : ByteArray), strOfNums y656⟩ : S43)]) := ⟨_, rfl⟩
        replace H : (wicketmanlaw10_RespFields.l0 k1 a0 l1 y659 (wrap64 (x6_1 + 1))) = some r := by first | (rw [hy659]; with_reducible exact H) | (have H2_ := (Option.bind_some _ _).symm.trans H; rw [hy659]; with_reducible exact H2_) | (have H2_ := (Option.bind_some _ _).symm.trans H; with_reducible exact H2_) | with_reducible exact H | (rw [hy659]; exact H) | exact H
        have Ny659 := Aside0.mk hy659
        clear hy659
        have H' := Aside0.mk H
        clear H
        have p655 : 0 ≤ (x6_1 : Int) := of_decide_eq_true (by first | (with_reducible assumption) | assumption)
        have q655 : x6_1 < (l1.length : Int) := of_decide_eq_true (by first | (with_reducible assumption) | assumption)
        obtain ⟨ad655, e655, hx655_0⟩ := Kd.at_int HR1.out x6_1 p655 q655
        cases e655
        replace hx655_0 := (HB.out.cell (World.block_lt_of_cell? w _ hx655_0)).trans hx655_0
        replace p655 := eq_true p655
        replace q655 := eq_true q655
        go_wp2_with (first | ((with_reducible refine gate_dst (N := 29) rfl ?_); (try (refine gate_guard (by rfl) ?_; dsimp only)); refine Kd.R_lit (Kd.int .u8) _ 5 ?hg (N := 29) ?hd (xs := ([(97 + (Int.tmod (rd l1 x6_1) 26)) % 256] : List Int)) (inner := [.int .u8 ((97 + (Int.tmod (rd l1 x6_1) 26)) % 256)]) (ok := fun _ => True) (okp := fun _ => True) ?hr ?hp (fun _ hk => hk) trivial (Below.refl _ _) (Nat.le_refl _) (by simp) ?_; (case hd => rfl); (case hg => rfl); (case hr => first | (go_simp; done) | (go_simp; rfl)); (case hp => exact (Reps.one (show Kd.M (Kd.int .u8) _ _ _ ((97 + (Int.tmod (rd l1 x6_1) 26)) % 256) [.int .u8 ((97 + (Int.tmod (rd l1 x6_1) 26)) % 256)] from rfl) (Reps.none _ _))); intro v657 w10 ho11 hb hg_ hnew_; clear hg_ hnew_; (first | rw [← Ny656.out] at ho11 | (simp only [Int.reduceToNat] at ho11; rw [← Ny656.out] at ho11)); have n0_ := Aside0.mk (Kd.R_below (by (with_reducible repeat (first | apply Kd.R_alloc | apply Kd.R_drewN | apply Kd.R_drew)); exact HO_5.out) hb); have n1_ := Aside0.mk (Kd.R_lower ho11 (below_size (by repeat (first | (with_reducible first | apply bA | apply bN | apply bD) | exact HB.out)))); have n2_ := Aside0.mk (below_step (by repeat (first | (with_reducible first | apply bA | apply bN | apply bD) | exact HB.out)) hb); clear HO_5; clear HB; have HO_5 := n0_; have HO658 := n1_; have HB := n2_; clear n0_ n1_ n2_; clear hb ho11; have hcv12 := own_string (P := Tryd.prog) Tryd.underlying22 Tryd.underlying5 Tryd.underlying9 (Kd.own_of_R HO658.out)) | ((with_reducible refine gate_builtin (b := .append) (xs := #[.tmp 22, .tmp 32]) rfl ?_); (try (refine gate_guard (by rfl) ?_; dsimp only)); at_builtin; refine Kd.R_append k43 (w0 := w) w.heap.size rfl (.tmp 22) (.tmp 32) 34 43 (.agg #[(.string ⟨#[]⟩), (.string ⟨#[]⟩)]) 32 rfl Tryd.underlying34 info43 rfl (by decide) (by omega) u5 x5_1 (⟨(⟨#[88]⟩ : ByteArray), strOfNums y656⟩ : S43) [.string (⟨#[88]⟩ : ByteArray), .string (strOfNums y656)] (fun _ => True) (fun _ => False) rfl rfl ?aP (fun _ hk => hk.elim) ?aF ?aO ?aB ?aS ?aL ?_; (case aP => exact k43_mkM _ _ _ (⟨(⟨#[88]⟩ : ByteArray), strOfNums y656⟩ : S43)); (case aB => exact (by repeat (first | (with_reducible first | apply bA | apply bN | apply bD) | exact HB.out))); (case aF => exact (fun _ _ => trivial)); (case aO => exact (by (with_reducible repeat (first | apply Kd.R_alloc | apply Kd.R_drewN | apply Kd.R_drew)); exact HO_5.out)); (case aS => exact (below_size (by repeat (first | (with_reducible first | apply bA | apply bN | apply bD) | exact HB.out)))); (case aL => have := LMc9.out; omega); intro v660 w13 ho hb hg hat; rw [← Ny659.out] at ho; have n0_ := Aside0.mk (Kd.R_over' (by (with_reducible repeat (first | apply Kd.R_alloc | apply Kd.R_drewN | apply Kd.R_drew)); exact HO658.out) (Kd.R_typed (by (with_reducible repeat (first | apply Kd.R_alloc | apply Kd.R_drewN | apply Kd.R_drew)); exact HO_5.out)) (by decide) hg); have n1_ := Aside0.mk (hb); have n2_ := Aside0.mk (ho); clear HO658; clear HB; clear HO_5; have HO658 := n0_; have HB := n1_; have HO661 := n2_; clear n0_ n1_ n2_; clear ho hb hg hat))
        go_roundg k1
        case measure => have := HK1.out; omega
        case rel => exact ⟨(y659), (wrap64 (x6_1 + 1)), (by first | rfl | (simp; done) | (simp [*]; done)), H', ⟨by have := HK1.out; omega⟩, ⟨by (with_reducible repeat (first | apply Kd.R_alloc | apply Kd.R_drewN | apply Kd.R_drew)); exact HO661.out⟩, ⟨by repeat (first | (with_reducible first | apply bA | apply bN | apply bD) | exact HB.out)⟩⟩
       ·rw [if_neg c9] at H
        exact absurd H (by simp)
      ·rw [if_neg c8] at H
       exact absurd H (by simp)
     ·rw [if_neg c7] at H
      have c7b0 : decide (x6_1 < 10) = false := decide_eq_false c7
      clear c7
      replace H := Option.bind_eq_some_iff.mp H
      obtain ⟨⟨t662, t663, t666⟩, A140, H⟩ := H
      try dsimp only at H
      have A14 := Aside0.mk A140
      clear A140
      replace H := Option.bind_eq_some_iff.mp H
      obtain ⟨t670, A150, H⟩ := H
      try dsimp only at H
      have A15 := Aside0.mk A150
      clear A150
      by_cases c16 : t670 = true
      ·subst c16
       rw [if_pos rfl] at H
       by_cases c17 : (t663.length : Int) = (wrap64 (2 + (x5_1.length : Int)))
       ·rw [if_pos c17] at H
        have c17b0 : ((t663.length : Int) == (wrap64 (2 + (x5_1.length : Int)))) = true := beq_iff_eq.mpr c17
        have c17b1 : ((t663.length : Int) != (wrap64 (2 + (x5_1.length : Int)))) = false := bne_eq_false_iff_eq.mpr c17
        clear c17
        by_cases c18 : 0 < (t663.length : Int)
        ·rw [if_pos c18] at H
         have c18b0 : decide (0 < (t663.length : Int)) = true := decide_eq_true c18
         have c18b1 : decide (0 < t663.length) = true := decide_eq_true (by omega)
         clear c18
         by_cases c19 : ((rd_T43 t663 0).f0).toList = ([67, 111, 110, 116, 101, 110, 116, 45, 84, 121, 112, 101] : List UInt8)
         ·rw [if_pos c19] at H
          have c19b0 : (((rd_T43 t663 0).f0).toList == ([67, 111, 110, 116, 101, 110, 116, 45, 84, 121, 112, 101] : List UInt8)) = true := beq_iff_eq.mpr c19
          have c19b1 : (((rd_T43 t663 0).f0).toList != ([67, 111, 110, 116, 101, 110, 116, 45, 84, 121, 112, 101] : List UInt8)) = false := bne_eq_false_iff_eq.mpr c19
          clear c19
          by_cases c20 : 1 < (t663.length : Int)
          ·rw [if_pos c20] at H
           have c20b0 : decide (1 < (t663.length : Int)) = true := decide_eq_true c20
           have c20b1 : decide (1 < t663.length) = true := decide_eq_true (by omega)
           clear c20
           by_cases c21 : ((rd_T43 t663 1).f1).toList = ([110, 111, 45, 115, 116, 111, 114, 101] : List UInt8)
           ·rw [if_pos c21] at H
            have c21b0 : (((rd_T43 t663 1).f1).toList == ([110, 111, 45, 115, 116, 111, 114, 101] : List UInt8)) = true := beq_iff_eq.mpr c21
            have c21b1 : (((rd_T43 t663 1).f1).toList != ([110, 111, 45, 115, 116, 111, 114, 101] : List UInt8)) = false := bne_eq_false_iff_eq.mpr c21
            clear c21
            by_cases c22 : 2 ≤ (t663.length : Int)
            ·rw [if_pos c22] at H
             have c22b0 := eq_true c22
             have c22b1 : decide (2 ≤ (t663.length : Int)) = true := decide_eq_true c22
             clear c22
             obtain ⟨y673, hy673⟩ : ∃ y_ : List (S43), y_ = (t663.drop 2) := ⟨_, rfl⟩
             replace H : ((wicketmanref07_Same.f k1 y673 x5_1).bind fun t677 => (if t677 = true then (if (strOfNums t666).toList = a0.toList then (some (t662 == 200)) else (some false)) else (some false))) = some r := by first | (rw [hy673]; with_reducible exact H) | (have H2_ := (Option.bind_some _ _).symm.trans H; rw [hy673]; with_reducible exact H2_) | (have H2_ := (Option.bind_some _ _).symm.trans H; with_reducible exact H2_) | with_reducible exact H | (rw [hy673]; exact H) | exact H
             have Ny673 := Aside0.mk hy673
             clear hy673
             replace H := Option.bind_eq_some_iff.mp H
             obtain ⟨t677, A230, H⟩ := H
             try dsimp only at H
             have A23 := Aside0.mk A230
             clear A230
             by_cases c24 : t677 = true
             ·subst c24
              rw [if_pos rfl] at H
              by_cases c25 : (strOfNums t666).toList = a0.toList
              ·rw [if_pos c25] at H
               have c25b0 : ((strOfNums t666).toList == a0.toList) = true := beq_iff_eq.mpr c25
               have c25b1 : ((strOfNums t666).toList != a0.toList) = false := bne_eq_false_iff_eq.mpr c25
               clear c25
               obtain rfl := Option.some.inj H
               obtain ⟨Ao26, co26, eo26⟩ := Kd.R_slice HO_5.out
               subst eo26
               go_wp2_with (first | ((with_reducible refine gate_callee (f := 30) rfl ?_); refine goesL_ (some 36) rfl rfl Tryd.func30 (by kernel_rfl) rfl #[.int .i64 200, .string a0, .slice Ao26 x5_1.length co26] rfl (by (try simp only [List.map_toArray, List.map_cons, List.map_nil]); first | done | rfl | (simp only [List.length_drop, List.length_take]; rfl)) ?_; (with_reducible refine (resp_Page.calls 200 a0 _ _ x5_1 t662 t663 t666 _ ?side1 ?side2 A14.out).mono ?_); (case side1 => repeat (first | exact (Kd.R_reads' HO_5.out).2.2 | (with_reducible refine Kd.C_alloc ?_ _) | (with_reducible refine Kd.C_drewN ?_ _) | (with_reducible refine Kd.C_drew ?_))); (case side2 => exact (Kd.R_reads' HO_5.out).2.1); rintro e w27 ⟨v664, v667, rfl, ho0, ho1, hb⟩; refine ⟨_, rfl, ?_⟩; have n0_ := Aside0.mk (Kd.R_elder' (by (with_reducible repeat (first | apply Kd.R_alloc | apply Kd.R_drewN | apply Kd.R_drew)); exact HO_5.out) (Kd.R_base ho0) hb); have n1_ := Aside0.mk (Kd.R_lower (Kd.R_new' (Kd.R_mono (ok' := fun k_ => True) ho0 (fun _ hk_ => trivial)) (Kd.R_lt (by (with_reducible repeat (first | apply Kd.R_alloc | apply Kd.R_drewN | apply Kd.R_drew)); exact HO_5.out))) (below_size (by repeat (first | (with_reducible first | apply bA | apply bN | apply bD) | exact HB.out)))); have n2_ := Aside0.mk (Kd.V_lower (Kd.V_mono (ok' := fun k_ => some k_ ≠ (v664 : Value).ownBlock ∧ some k_ ≠ (.slice Ao26 x5_1.length co26 : Value).ownBlock) ho1 (fun k_ hk_ => ⟨hk_.2, (Kd.fresh' (Kd.R_lt (by (with_reducible repeat (first | apply Kd.R_alloc | apply Kd.R_drewN | apply Kd.R_drew)); exact HO_5.out)) k_ hk_.1)⟩)) (below_size (by repeat (first | (with_reducible first | apply bA | apply bN | apply bD) | exact HB.out)))); have n3_ := Aside0.mk (below_step (by repeat (first | (with_reducible first | apply bA | apply bN | apply bD) | exact HB.out)) hb); clear HO_5; clear HB; have HO_5 := n0_; have HO665 := n1_; have HO668 := n2_; have HB := n3_; clear n0_ n1_ n2_ n3_; (try clear hb); (try clear hb2); (try clear hk); (try clear hi); (try clear ho0); (try clear ho1)) | ((with_reducible refine gate_dst (N := 7) rfl ?_); (try (refine gate_guard (by rfl) ?_; dsimp only)); refine box_event ?hg (N := 7) ?hd (cs := #[.int .i64 0, .slice none 0 0, .slice none 0 0]) (t := 51) ?hr ?_; (case hd => rfl); (case hg => rfl); (case hr => first | (go_simp; done) | (go_simp; rfl)); intro gb669 hg w28 hbox hb; have n0_ := Aside0.mk (Kd.R_below (by (with_reducible repeat (first | apply Kd.R_alloc | apply Kd.R_drewN | apply Kd.R_drew)); exact HO_5.out) hb); have n1_ := Aside0.mk (Kd.R_below (by (with_reducible repeat (first | apply Kd.R_alloc | apply Kd.R_drewN | apply Kd.R_drew)); exact HO665.out) hb); have n2_ := Aside0.mk (Kd.V_below (Kd.V_elderB (by (with_reducible repeat (first | apply Kd.V_alloc | apply Kd.V_drewN | apply Kd.V_drew)); exact HO668.out) gb669 (Nat.le_of_eq hg.symm)) hb); have n3_ := Aside0.mk (below_step (by repeat (first | (with_reducible first | apply bA | apply bN | apply bD) | exact HB.out)) hb); have n4_ := Aside0.mk (hbox); have n5_ := Aside0.mk ((by rw [hg]; exact (below_size (by repeat (first | (with_reducible first | apply bA | apply bN | apply bD) | exact HB.out))) : w.heap.size ≤ gb669)); have n6_ := Aside0.mk ((by rw [hg]; exact (below_size (by repeat (first | (with_reducible first | apply bA | apply bN | apply bD) | exact HB.out))) : w.heap.size ≤ gb669)); clear HO_5; clear HO665; clear HO668; clear HB; have HO_5 := n0_; have HO665 := n1_; have HO668 := n2_; have HB := n3_; have BK669 := n4_; have GW669 := n5_; have GE669 := n6_; clear n0_ n1_ n2_ n3_ n4_ n5_ n6_; clear hb hbox hg; have hcz29_0 : w28.cell? ⟨gb669, 0, none⟩ = some (.int .i64 0) := (blk_cell BK669.out 0).trans rfl; have hcz29_1 : w28.cell? ⟨gb669, 1, none⟩ = some (.slice none 0 0) := (blk_cell BK669.out 1).trans rfl; have hcz29_2 : w28.cell? ⟨gb669, 2, none⟩ = some (.slice none 0 0) := (blk_cell BK669.out 2).trans rfl; have hfz29_0 := blk_frozen BK669.out 0; have hfz29_1 := blk_frozen BK669.out 1; have hfz29_2 := blk_frozen BK669.out 2; obtain ⟨Ao30, co30, eo30⟩ := Kd.R_slice HO665.out; subst eo30; obtain ⟨Ao31, co31, eo31⟩ := Kd.V_slice HO668.out; subst eo31) | ((with_reducible refine gate_callee (f := 28) rfl ?_); refine goesL_ (some 37) rfl rfl Tryd.func28 (by kernel_rfl) rfl #[] rfl (by (try simp only [List.map_toArray, List.map_cons, List.map_nil]); first | done | rfl | (simp only [List.length_drop, List.length_take]; rfl)) ?_; (with_reducible refine (wicketmanlaw10_known.calls  true _ (by first | exact hT | (refine Tb.of_below hT ?_; repeat (first | (with_reducible first | apply bA | apply bN | apply bD) | exact HB.out | refine Below.setCell ?_ (Aside0.out (by assumption)) _)) | (refine Tb.of_below hT ?_; assumption)) (by first | exact hTR | exact Aside0.mk rfl | exact Aside0.mk (by assumption) | exact Aside0.mk (of_eq_true (by assumption)) | exact Aside0.mk (wicketmanlaw10_known.true_ _ A15.out) | exact Aside0.mk (by simp_all)) A15.out).mono ?_); rintro e w32 ⟨rfl, hb⟩; refine ⟨_, rfl, ?_⟩; have n0_ := Aside0.mk (Kd.R_below (by (with_reducible repeat (first | apply Kd.R_alloc | apply Kd.R_drewN | apply Kd.R_drew)); exact (Kd.R_mono (Kd.R_far (p := ⟨gb669, 2, none⟩) (Kd.R_far (p := ⟨gb669, 1, none⟩) (Kd.R_far (p := ⟨gb669, 0, none⟩) (Kd.R_types HO_5.out BK669.out (by decide)) (fun _ hk => hk.2) (.int .i64 t662)) (fun _ hk => hk.2) (.slice Ao30 t663.length co30)) (fun _ hk => hk.2) (.slice Ao31 t666.length co31)) (fun _ h_ => h_.1))) hb); have n1_ := Aside0.mk (Kd.R_below (by (with_reducible repeat (first | apply Kd.R_alloc | apply Kd.R_drewN | apply Kd.R_drew)); exact (Kd.R_mono (Kd.R_far (p := ⟨gb669, 2, none⟩) (Kd.R_far (p := ⟨gb669, 1, none⟩) (Kd.R_far (p := ⟨gb669, 0, none⟩) (Kd.R_types HO665.out BK669.out (by decide)) (fun _ hk => hk.2) (.int .i64 t662)) (fun _ hk => hk.2) (.slice Ao30 t663.length co30)) (fun _ hk => hk.2) (.slice Ao31 t666.length co31)) (fun _ h_ => h_.1))) hb); have n2_ := Aside0.mk (Kd.V_below (by (with_reducible repeat (first | apply Kd.V_alloc | apply Kd.V_drewN | apply Kd.V_drew)); exact (Kd.V_mono (Kd.V_far (p := ⟨gb669, 2, none⟩) (Kd.V_far (p := ⟨gb669, 1, none⟩) (Kd.V_far (p := ⟨gb669, 0, none⟩) (Kd.V_mono HO668.out (fun k_ hk => (⟨hk, hk.2⟩ : _ ∧ k_ ≠ gb669))) (fun _ hk => hk.2) (.int .i64 t662)) (fun _ hk => hk.2) (.slice Ao30 t663.length co30)) (fun _ hk => hk.2) (.slice Ao31 t666.length co31)) (fun _ h_ => h_.1))) hb); have n3_ := Aside0.mk (blk_below (g := gb669) (o := .cells #[.int .i64 t662, .slice Ao30 t663.length co30, .slice Ao31 t666.length co31] 51 (0, 0)) (by (with_reducible repeat (first | refine blk_drewN ?_ _ | refine blk_drew ?_ | refine blk_alloc ?_ _)); refine blk_put (cs := #[.int .i64 t662, .slice Ao30 t663.length co30, .slice none 0 0]) ?_ 2 _ rfl; (with_reducible repeat (first | refine blk_drewN ?_ _ | refine blk_drew ?_ | refine blk_alloc ?_ _)); refine blk_put (cs := #[.int .i64 t662, .slice none 0 0, .slice none 0 0]) ?_ 1 _ rfl; (with_reducible repeat (first | refine blk_drewN ?_ _ | refine blk_drew ?_ | refine blk_alloc ?_ _)); refine blk_put (cs := #[.int .i64 0, .slice none 0 0, .slice none 0 0]) ?_ 0 _ rfl; (with_reducible repeat (first | refine blk_drewN ?_ _ | refine blk_drew ?_ | refine blk_alloc ?_ _)); exact BK669.out) hb); have n4_ := Aside0.mk (below_step (by repeat (first | (with_reducible first | apply bA | apply bN | apply bD | refine below_set ?_ GE669.out) | exact HB.out)) hb); clear HO_5; clear HO665; clear HO668; clear BK669; clear HB; have HO_5 := n0_; have HO665 := n1_; have HO668 := n2_; have BK669 := n3_; have HB := n4_; clear n0_ n1_ n2_ n3_ n4_; (try clear hb); (try clear hb2); (try clear hk); (try clear hi); have hcz33_0 : w32.cell? ⟨gb669, 0, none⟩ = some (.int .i64 t662) := (blk_cell BK669.out 0).trans rfl; have hcz33_1 : w32.cell? ⟨gb669, 1, none⟩ = some (.slice Ao30 t663.length co30) := (blk_cell BK669.out 1).trans rfl; have hcz33_2 : w32.cell? ⟨gb669, 2, none⟩ = some (.slice Ao31 t666.length co31) := (blk_cell BK669.out 2).trans rfl; have hfz33_0 := blk_frozen BK669.out 0; have hfz33_1 := blk_frozen BK669.out 1; have hfz33_2 := blk_frozen BK669.out 2; have p671 : 0 ≤ (0 : Int) := (by omega); have q671 : 0 < (t663.length : Int) := of_decide_eq_true (by first | (with_reducible assumption) | assumption); obtain ⟨ad671, e671, hx671_0, hx671_1⟩ := at_T43 (Kd.R_reads' HO665.out).2.2 0 p671 q671; cases e671; have qi671 : (0 < t663.length) = True := eq_true (by omega); (try rw [show ((0 : Int)).toNat = 0 from rfl] at hx671_0); (try rw [show 0 * 2 = 0 from rfl] at hx671_0); (try rw [Addr.add_zero'] at hx671_0); (try rw [show ((0 : Int)).toNat = 0 from rfl] at hx671_1); (try rw [show 0 * 2 = 0 from rfl] at hx671_1); (try rw [Addr.add_zero'] at hx671_1); replace p671 := eq_true p671; replace q671 := eq_true q671; have p672 : 0 ≤ (1 : Int) := (by omega); have q672 : 1 < (t663.length : Int) := of_decide_eq_true (by first | (with_reducible assumption) | assumption); obtain ⟨ad672, e672, hx672_0, hx672_1⟩ := at_T43 (Kd.R_reads' HO665.out).2.2 1 p672 q672; obtain rfl : ad671 = ad672 := (by injection e672); (try simp only [show (1 : Int).toNat = 1 from rfl, Nat.reduceMul, Nat.reduceEqDiff, Go.Addr.add, ↓reduceIte] at hx672_0); (try simp only [show (1 : Int).toNat = 1 from rfl, Nat.reduceMul, Nat.reduceEqDiff, Go.Addr.add, ↓reduceIte] at hx672_1); have qi672 : (1 < t663.length) = True := eq_true (by omega); (try rw [show ((1 : Int)).toNat = 1 from rfl] at hx672_0); (try rw [show 1 * 2 = 2 from rfl] at hx672_0); (try rw [show ((1 : Int)).toNat = 1 from rfl] at hx672_1); (try rw [show 1 * 2 = 2 from rfl] at hx672_1); replace p672 := eq_true p672; replace q672 := eq_true q672; have q34 : (2 : Int) ≤ ((t663.length : Int) : Int) := of_decide_eq_true (by first | (with_reducible assumption) | assumption); obtain ⟨i034, hi034, _, hsz34, _⟩ := info_parts info43; have hroom34 : t663.length ≤ co30 := (Kd.R_reads' HO665.out).2.1; have hC34 : Kd.C k43 _ (some ad671) t663.length t663 := (Kd.R_reads' HO665.out).2.2; have hcut34 := cut_from (P := Tryd.prog) 34 43 .i64 Tryd.underlying34 hi034 2 hsz34 (some ad671) t663.length co30 2 (by omega) q34; have hr34 := Kd.C_drop (m := (2 : Int).toNat) (c := co30) hC34 (by omega) hroom34; obtain ⟨A34, hA34⟩ : ∃ A1, A1 = (if co30 = (2 : Int).toNat then (some ad671) else ((some ad671) : Option Addr).map (·.add ((2 : Int).toNat * 2))) := ⟨_, rfl⟩; obtain ⟨c34, hc34⟩ : ∃ c1, c1 = co30 - (2 : Int).toNat := ⟨_, rfl⟩; have hy34 : y673.length = t663.length - (2 : Int).toNat := (by rw [Ny673.out, List.length_drop] <;> omega); rw [show (t663).drop (2 : Int).toNat = y673 from Ny673.out.symm] at hr34; replace hr34 : Kd.C k43 _ A34 y673.length y673 := (by rw [hA34]; exact hr34); rw [← hy34, ← hA34, ← hc34] at hcut34; have HR676 := Aside0.mk hr34; have HC676 := Aside0.mk (show y673.length ≤ c34 from by rw [hy34, hc34]; exact Nat.sub_le_sub_right hroom34 _); clear hr34 hC34 hroom34 hi034 hsz34 hc34; have KY34 := Aside0.mk hy34; have KA34 := Aside0.mk hA34; clear hy34 hA34; have KL34 := Aside0.mk (show 2 ≤ t663.length from by omega); replace q34 := eq_true q34) | (go_at_call 33; (with_reducible refine (wicketmanref07_Same.calls k1 _ _ y673 _ _ x5_1 true _ ?side1 ?side2 ?side3 ?side4 A23.out).mono ?_); (case side1 => repeat (first | exact (by repeat (first | (with_reducible exact HR676.out) | (with_reducible refine Kd.C_alloc ?_ _) | (with_reducible refine Kd.C_drewN ?_ _) | (with_reducible refine Kd.C_drew ?_) | exact HR676.out)) | (with_reducible refine Kd.C_alloc ?_ _) | (with_reducible refine Kd.C_drewN ?_ _) | (with_reducible refine Kd.C_drew ?_))); (case side2 => exact HC676.out); (case side3 => repeat (first | exact (Kd.R_reads' HO_5.out).2.2 | (with_reducible refine Kd.C_alloc ?_ _) | (with_reducible refine Kd.C_drewN ?_ _) | (with_reducible refine Kd.C_drew ?_))); (case side4 => exact (Kd.R_reads' HO_5.out).2.1); rintro e w' ⟨rfl, ⟨nd, rfl⟩⟩; have hcv35 := Kd.C_string (c := co31) (P := Tryd.prog) Tryd.underlying22 Tryd.underlying5 Tryd.underlying9 (Kd.V_reads' HO668.out).2.2; have hcv35n := fun n_ : Nat => Kd.C_string (c := co31) (P := Tryd.prog) Tryd.underlying22 Tryd.underlying5 Tryd.underlying9 (Kd.C_drewN (Kd.V_reads' HO668.out).2.2 n_)))
               go_ret
               exact ⟨by first | rfl | (simp [errW_none, errW_some] <;> rfl) | (simp [*, errW_none, errW_some] <;> rfl), by repeat (first | (with_reducible first | apply bA | apply bN | apply bD | refine below_set ?_ GE669.out) | exact HB.out)⟩
              ·rw [if_neg c25] at H
               have c25b0 : ((strOfNums t666).toList == a0.toList) = false := beq_eq_false_iff_ne.mpr c25
               have c25b1 : ((strOfNums t666).toList != a0.toList) = true := bne_iff_ne.mpr c25
               exact absurd (Option.some.inj H) (by rw [hTR.out]; decide)
             ·replace c24 := Bool.eq_false_iff.mpr c24
              subst c24
              rw [if_neg (show ¬ (false = true) by decide)] at H
              exact absurd (Option.some.inj H) (by rw [hTR.out]; decide)
            ·rw [if_neg c22] at H
             exact absurd H (by simp)
           ·rw [if_neg c21] at H
            have c21b0 : (((rd_T43 t663 1).f1).toList == ([110, 111, 45, 115, 116, 111, 114, 101] : List UInt8)) = false := beq_eq_false_iff_ne.mpr c21
            have c21b1 : (((rd_T43 t663 1).f1).toList != ([110, 111, 45, 115, 116, 111, 114, 101] : List UInt8)) = true := bne_iff_ne.mpr c21
            exact absurd (Option.some.inj H) (by rw [hTR.out]; decide)
          ·rw [if_neg c20] at H
           exact absurd H (by simp)
         ·rw [if_neg c19] at H
          have c19b0 : (((rd_T43 t663 0).f0).toList == ([67, 111, 110, 116, 101, 110, 116, 45, 84, 121, 112, 101] : List UInt8)) = false := beq_eq_false_iff_ne.mpr c19
          have c19b1 : (((rd_T43 t663 0).f0).toList != ([67, 111, 110, 116, 101, 110, 116, 45, 84, 121, 112, 101] : List UInt8)) = true := bne_iff_ne.mpr c19
          exact absurd (Option.some.inj H) (by rw [hTR.out]; decide)
        ·rw [if_neg c18] at H
         exact absurd H (by simp)
       ·rw [if_neg c17] at H
        have c17b0 : ((t663.length : Int) == (wrap64 (2 + (x5_1.length : Int)))) = false := beq_eq_false_iff_ne.mpr c17
        have c17b1 : ((t663.length : Int) != (wrap64 (2 + (x5_1.length : Int)))) = true := bne_iff_ne.mpr c17
        exact absurd (Option.some.inj H) (by rw [hTR.out]; decide)
      ·replace c16 := Bool.eq_false_iff.mpr c16
       subst c16
       rw [if_neg (show ¬ (false = true) by decide)] at H
       exact absurd (Option.some.inj H) (by rw [hTR.out]; decide)
    ·rw [if_neg c6] at H
     have c6b0 : decide (x6_1 < (l1.length : Int)) = false := decide_eq_false c6
     clear c6
     replace H := Option.bind_eq_some_iff.mp H
     obtain ⟨⟨t678, t679, t682⟩, A360, H⟩ := H
     try dsimp only at H
     have A36 := Aside0.mk A360
     clear A360
     replace H := Option.bind_eq_some_iff.mp H
     obtain ⟨t686, A370, H⟩ := H
     try dsimp only at H
     have A37 := Aside0.mk A370
     clear A370
     by_cases c38 : t686 = true
     ·subst c38
      rw [if_pos rfl] at H
      by_cases c39 : (t679.length : Int) = (wrap64 (2 + (x5_1.length : Int)))
      ·rw [if_pos c39] at H
       have c39b0 : ((t679.length : Int) == (wrap64 (2 + (x5_1.length : Int)))) = true := beq_iff_eq.mpr c39
       have c39b1 : ((t679.length : Int) != (wrap64 (2 + (x5_1.length : Int)))) = false := bne_eq_false_iff_eq.mpr c39
       clear c39
       by_cases c40 : 0 < (t679.length : Int)
       ·rw [if_pos c40] at H
        have c40b0 : decide (0 < (t679.length : Int)) = true := decide_eq_true c40
        have c40b1 : decide (0 < t679.length) = true := decide_eq_true (by omega)
        clear c40
        by_cases c41 : ((rd_T43 t679 0).f0).toList = ([67, 111, 110, 116, 101, 110, 116, 45, 84, 121, 112, 101] : List UInt8)
        ·rw [if_pos c41] at H
         have c41b0 : (((rd_T43 t679 0).f0).toList == ([67, 111, 110, 116, 101, 110, 116, 45, 84, 121, 112, 101] : List UInt8)) = true := beq_iff_eq.mpr c41
         have c41b1 : (((rd_T43 t679 0).f0).toList != ([67, 111, 110, 116, 101, 110, 116, 45, 84, 121, 112, 101] : List UInt8)) = false := bne_eq_false_iff_eq.mpr c41
         clear c41
         by_cases c42 : 1 < (t679.length : Int)
         ·rw [if_pos c42] at H
          have c42b0 : decide (1 < (t679.length : Int)) = true := decide_eq_true c42
          have c42b1 : decide (1 < t679.length) = true := decide_eq_true (by omega)
          clear c42
          by_cases c43 : ((rd_T43 t679 1).f1).toList = ([110, 111, 45, 115, 116, 111, 114, 101] : List UInt8)
          ·rw [if_pos c43] at H
           have c43b0 : (((rd_T43 t679 1).f1).toList == ([110, 111, 45, 115, 116, 111, 114, 101] : List UInt8)) = true := beq_iff_eq.mpr c43
           have c43b1 : (((rd_T43 t679 1).f1).toList != ([110, 111, 45, 115, 116, 111, 114, 101] : List UInt8)) = false := bne_eq_false_iff_eq.mpr c43
           clear c43
           by_cases c44 : 2 ≤ (t679.length : Int)
           ·rw [if_pos c44] at H
            have c44b0 := eq_true c44
            have c44b1 : decide (2 ≤ (t679.length : Int)) = true := decide_eq_true c44
            clear c44
            obtain ⟨y689, hy689⟩ : ∃ y_ : List (S43), y_ = (t679.drop 2) := ⟨_, rfl⟩
            replace H : ((wicketmanref07_Same.f k1 y689 x5_1).bind fun t693 => (if t693 = true then (if (strOfNums t682).toList = a0.toList then (some (t678 == 200)) else (some false)) else (some false))) = some r := by first | (rw [hy689]; with_reducible exact H) | (have H2_ := (Option.bind_some _ _).symm.trans H; rw [hy689]; with_reducible exact H2_) | (have H2_ := (Option.bind_some _ _).symm.trans H; with_reducible exact H2_) | with_reducible exact H | (rw [hy689]; exact H) | exact H
            have Ny689 := Aside0.mk hy689
            clear hy689
            replace H := Option.bind_eq_some_iff.mp H
            obtain ⟨t693, A450, H⟩ := H
            try dsimp only at H
            have A45 := Aside0.mk A450
            clear A450
            by_cases c46 : t693 = true
            ·subst c46
             rw [if_pos rfl] at H
             by_cases c47 : (strOfNums t682).toList = a0.toList
             ·rw [if_pos c47] at H
              have c47b0 : ((strOfNums t682).toList == a0.toList) = true := beq_iff_eq.mpr c47
              have c47b1 : ((strOfNums t682).toList != a0.toList) = false := bne_eq_false_iff_eq.mpr c47
              clear c47
              obtain rfl := Option.some.inj H
              obtain ⟨Ao48, co48, eo48⟩ := Kd.R_slice HO_5.out
              subst eo48
              go_wp2_with (first | ((with_reducible refine gate_callee (f := 30) rfl ?_); refine goesL_ (some 36) rfl rfl Tryd.func30 (by kernel_rfl) rfl #[.int .i64 200, .string a0, .slice Ao48 x5_1.length co48] rfl (by (try simp only [List.map_toArray, List.map_cons, List.map_nil]); first | done | rfl | (simp only [List.length_drop, List.length_take]; rfl)) ?_; (with_reducible refine (resp_Page.calls 200 a0 _ _ x5_1 t678 t679 t682 _ ?side1 ?side2 A36.out).mono ?_); (case side1 => repeat (first | exact (Kd.R_reads' HO_5.out).2.2 | (with_reducible refine Kd.C_alloc ?_ _) | (with_reducible refine Kd.C_drewN ?_ _) | (with_reducible refine Kd.C_drew ?_))); (case side2 => exact (Kd.R_reads' HO_5.out).2.1); rintro e w49 ⟨v680, v683, rfl, ho0, ho1, hb⟩; refine ⟨_, rfl, ?_⟩; have n0_ := Aside0.mk (Kd.R_elder' (by (with_reducible repeat (first | apply Kd.R_alloc | apply Kd.R_drewN | apply Kd.R_drew)); exact HO_5.out) (Kd.R_base ho0) hb); have n1_ := Aside0.mk (Kd.R_lower (Kd.R_new' (Kd.R_mono (ok' := fun k_ => True) ho0 (fun _ hk_ => trivial)) (Kd.R_lt (by (with_reducible repeat (first | apply Kd.R_alloc | apply Kd.R_drewN | apply Kd.R_drew)); exact HO_5.out))) (below_size (by repeat (first | (with_reducible first | apply bA | apply bN | apply bD) | exact HB.out)))); have n2_ := Aside0.mk (Kd.V_lower (Kd.V_mono (ok' := fun k_ => some k_ ≠ (v680 : Value).ownBlock ∧ some k_ ≠ (.slice Ao48 x5_1.length co48 : Value).ownBlock) ho1 (fun k_ hk_ => ⟨hk_.2, (Kd.fresh' (Kd.R_lt (by (with_reducible repeat (first | apply Kd.R_alloc | apply Kd.R_drewN | apply Kd.R_drew)); exact HO_5.out)) k_ hk_.1)⟩)) (below_size (by repeat (first | (with_reducible first | apply bA | apply bN | apply bD) | exact HB.out)))); have n3_ := Aside0.mk (below_step (by repeat (first | (with_reducible first | apply bA | apply bN | apply bD) | exact HB.out)) hb); clear HO_5; clear HB; have HO_5 := n0_; have HO681 := n1_; have HO684 := n2_; have HB := n3_; clear n0_ n1_ n2_ n3_; (try clear hb); (try clear hb2); (try clear hk); (try clear hi); (try clear ho0); (try clear ho1)) | ((with_reducible refine gate_dst (N := 7) rfl ?_); (try (refine gate_guard (by rfl) ?_; dsimp only)); refine box_event ?hg (N := 7) ?hd (cs := #[.int .i64 0, .slice none 0 0, .slice none 0 0]) (t := 51) ?hr ?_; (case hd => rfl); (case hg => rfl); (case hr => first | (go_simp; done) | (go_simp; rfl)); intro gb685 hg w50 hbox hb; have n0_ := Aside0.mk (Kd.R_below (by (with_reducible repeat (first | apply Kd.R_alloc | apply Kd.R_drewN | apply Kd.R_drew)); exact HO_5.out) hb); have n1_ := Aside0.mk (Kd.R_below (by (with_reducible repeat (first | apply Kd.R_alloc | apply Kd.R_drewN | apply Kd.R_drew)); exact HO681.out) hb); have n2_ := Aside0.mk (Kd.V_below (Kd.V_elderB (by (with_reducible repeat (first | apply Kd.V_alloc | apply Kd.V_drewN | apply Kd.V_drew)); exact HO684.out) gb685 (Nat.le_of_eq hg.symm)) hb); have n3_ := Aside0.mk (below_step (by repeat (first | (with_reducible first | apply bA | apply bN | apply bD) | exact HB.out)) hb); have n4_ := Aside0.mk (hbox); have n5_ := Aside0.mk ((by rw [hg]; exact (below_size (by repeat (first | (with_reducible first | apply bA | apply bN | apply bD) | exact HB.out))) : w.heap.size ≤ gb685)); have n6_ := Aside0.mk ((by rw [hg]; exact (below_size (by repeat (first | (with_reducible first | apply bA | apply bN | apply bD) | exact HB.out))) : w.heap.size ≤ gb685)); clear HO_5; clear HO681; clear HO684; clear HB; have HO_5 := n0_; have HO681 := n1_; have HO684 := n2_; have HB := n3_; have BK685 := n4_; have GW685 := n5_; have GE685 := n6_; clear n0_ n1_ n2_ n3_ n4_ n5_ n6_; clear hb hbox hg; have hcz51_0 : w50.cell? ⟨gb685, 0, none⟩ = some (.int .i64 0) := (blk_cell BK685.out 0).trans rfl; have hcz51_1 : w50.cell? ⟨gb685, 1, none⟩ = some (.slice none 0 0) := (blk_cell BK685.out 1).trans rfl; have hcz51_2 : w50.cell? ⟨gb685, 2, none⟩ = some (.slice none 0 0) := (blk_cell BK685.out 2).trans rfl; have hfz51_0 := blk_frozen BK685.out 0; have hfz51_1 := blk_frozen BK685.out 1; have hfz51_2 := blk_frozen BK685.out 2; obtain ⟨Ao52, co52, eo52⟩ := Kd.R_slice HO681.out; subst eo52; obtain ⟨Ao53, co53, eo53⟩ := Kd.V_slice HO684.out; subst eo53) | ((with_reducible refine gate_callee (f := 28) rfl ?_); refine goesL_ (some 37) rfl rfl Tryd.func28 (by kernel_rfl) rfl #[] rfl (by (try simp only [List.map_toArray, List.map_cons, List.map_nil]); first | done | rfl | (simp only [List.length_drop, List.length_take]; rfl)) ?_; (with_reducible refine (wicketmanlaw10_known.calls  true _ (by first | exact hT | (refine Tb.of_below hT ?_; repeat (first | (with_reducible first | apply bA | apply bN | apply bD) | exact HB.out | refine Below.setCell ?_ (Aside0.out (by assumption)) _)) | (refine Tb.of_below hT ?_; assumption)) (by first | exact hTR | exact Aside0.mk rfl | exact Aside0.mk (by assumption) | exact Aside0.mk (of_eq_true (by assumption)) | exact Aside0.mk (wicketmanlaw10_known.true_ _ A37.out) | exact Aside0.mk (by simp_all)) A37.out).mono ?_); rintro e w54 ⟨rfl, hb⟩; refine ⟨_, rfl, ?_⟩; have n0_ := Aside0.mk (Kd.R_below (by (with_reducible repeat (first | apply Kd.R_alloc | apply Kd.R_drewN | apply Kd.R_drew)); exact (Kd.R_mono (Kd.R_far (p := ⟨gb685, 2, none⟩) (Kd.R_far (p := ⟨gb685, 1, none⟩) (Kd.R_far (p := ⟨gb685, 0, none⟩) (Kd.R_types HO_5.out BK685.out (by decide)) (fun _ hk => hk.2) (.int .i64 t678)) (fun _ hk => hk.2) (.slice Ao52 t679.length co52)) (fun _ hk => hk.2) (.slice Ao53 t682.length co53)) (fun _ h_ => h_.1))) hb); have n1_ := Aside0.mk (Kd.R_below (by (with_reducible repeat (first | apply Kd.R_alloc | apply Kd.R_drewN | apply Kd.R_drew)); exact (Kd.R_mono (Kd.R_far (p := ⟨gb685, 2, none⟩) (Kd.R_far (p := ⟨gb685, 1, none⟩) (Kd.R_far (p := ⟨gb685, 0, none⟩) (Kd.R_types HO681.out BK685.out (by decide)) (fun _ hk => hk.2) (.int .i64 t678)) (fun _ hk => hk.2) (.slice Ao52 t679.length co52)) (fun _ hk => hk.2) (.slice Ao53 t682.length co53)) (fun _ h_ => h_.1))) hb); have n2_ := Aside0.mk (Kd.V_below (by (with_reducible repeat (first | apply Kd.V_alloc | apply Kd.V_drewN | apply Kd.V_drew)); exact (Kd.V_mono (Kd.V_far (p := ⟨gb685, 2, none⟩) (Kd.V_far (p := ⟨gb685, 1, none⟩) (Kd.V_far (p := ⟨gb685, 0, none⟩) (Kd.V_mono HO684.out (fun k_ hk => (⟨hk, hk.2⟩ : _ ∧ k_ ≠ gb685))) (fun _ hk => hk.2) (.int .i64 t678)) (fun _ hk => hk.2) (.slice Ao52 t679.length co52)) (fun _ hk => hk.2) (.slice Ao53 t682.length co53)) (fun _ h_ => h_.1))) hb); have n3_ := Aside0.mk (blk_below (g := gb685) (o := .cells #[.int .i64 t678, .slice Ao52 t679.length co52, .slice Ao53 t682.length co53] 51 (0, 0)) (by (with_reducible repeat (first | refine blk_drewN ?_ _ | refine blk_drew ?_ | refine blk_alloc ?_ _)); refine blk_put (cs := #[.int .i64 t678, .slice Ao52 t679.length co52, .slice none 0 0]) ?_ 2 _ rfl; (with_reducible repeat (first | refine blk_drewN ?_ _ | refine blk_drew ?_ | refine blk_alloc ?_ _)); refine blk_put (cs := #[.int .i64 t678, .slice none 0 0, .slice none 0 0]) ?_ 1 _ rfl; (with_reducible repeat (first | refine blk_drewN ?_ _ | refine blk_drew ?_ | refine blk_alloc ?_ _)); refine blk_put (cs := #[.int .i64 0, .slice none 0 0, .slice none 0 0]) ?_ 0 _ rfl; (with_reducible repeat (first | refine blk_drewN ?_ _ | refine blk_drew ?_ | refine blk_alloc ?_ _)); exact BK685.out) hb); have n4_ := Aside0.mk (below_step (by repeat (first | (with_reducible first | apply bA | apply bN | apply bD | refine below_set ?_ GE685.out) | exact HB.out)) hb); clear HO_5; clear HO681; clear HO684; clear BK685; clear HB; have HO_5 := n0_; have HO681 := n1_; have HO684 := n2_; have BK685 := n3_; have HB := n4_; clear n0_ n1_ n2_ n3_ n4_; (try clear hb); (try clear hb2); (try clear hk); (try clear hi); have hcz55_0 : w54.cell? ⟨gb685, 0, none⟩ = some (.int .i64 t678) := (blk_cell BK685.out 0).trans rfl; have hcz55_1 : w54.cell? ⟨gb685, 1, none⟩ = some (.slice Ao52 t679.length co52) := (blk_cell BK685.out 1).trans rfl; have hcz55_2 : w54.cell? ⟨gb685, 2, none⟩ = some (.slice Ao53 t682.length co53) := (blk_cell BK685.out 2).trans rfl; have hfz55_0 := blk_frozen BK685.out 0; have hfz55_1 := blk_frozen BK685.out 1; have hfz55_2 := blk_frozen BK685.out 2; have p687 : 0 ≤ (0 : Int) := (by omega); have q687 : 0 < (t679.length : Int) := of_decide_eq_true (by first | (with_reducible assumption) | assumption); obtain ⟨ad687, e687, hx687_0, hx687_1⟩ := at_T43 (Kd.R_reads' HO681.out).2.2 0 p687 q687; cases e687; have qi687 : (0 < t679.length) = True := eq_true (by omega); (try rw [show ((0 : Int)).toNat = 0 from rfl] at hx687_0); (try rw [show 0 * 2 = 0 from rfl] at hx687_0); (try rw [Addr.add_zero'] at hx687_0); (try rw [show ((0 : Int)).toNat = 0 from rfl] at hx687_1); (try rw [show 0 * 2 = 0 from rfl] at hx687_1); (try rw [Addr.add_zero'] at hx687_1); replace p687 := eq_true p687; replace q687 := eq_true q687; have p688 : 0 ≤ (1 : Int) := (by omega); have q688 : 1 < (t679.length : Int) := of_decide_eq_true (by first | (with_reducible assumption) | assumption); obtain ⟨ad688, e688, hx688_0, hx688_1⟩ := at_T43 (Kd.R_reads' HO681.out).2.2 1 p688 q688; obtain rfl : ad687 = ad688 := (by injection e688); (try simp only [show (1 : Int).toNat = 1 from rfl, Nat.reduceMul, Nat.reduceEqDiff, Go.Addr.add, ↓reduceIte] at hx688_0); (try simp only [show (1 : Int).toNat = 1 from rfl, Nat.reduceMul, Nat.reduceEqDiff, Go.Addr.add, ↓reduceIte] at hx688_1); have qi688 : (1 < t679.length) = True := eq_true (by omega); (try rw [show ((1 : Int)).toNat = 1 from rfl] at hx688_0); (try rw [show 1 * 2 = 2 from rfl] at hx688_0); (try rw [show ((1 : Int)).toNat = 1 from rfl] at hx688_1); (try rw [show 1 * 2 = 2 from rfl] at hx688_1); replace p688 := eq_true p688; replace q688 := eq_true q688; have q56 : (2 : Int) ≤ ((t679.length : Int) : Int) := of_decide_eq_true (by first | (with_reducible assumption) | assumption); obtain ⟨i056, hi056, _, hsz56, _⟩ := info_parts info43; have hroom56 : t679.length ≤ co52 := (Kd.R_reads' HO681.out).2.1; have hC56 : Kd.C k43 _ (some ad687) t679.length t679 := (Kd.R_reads' HO681.out).2.2; have hcut56 := cut_from (P := Tryd.prog) 34 43 .i64 Tryd.underlying34 hi056 2 hsz56 (some ad687) t679.length co52 2 (by omega) q56; have hr56 := Kd.C_drop (m := (2 : Int).toNat) (c := co52) hC56 (by omega) hroom56; obtain ⟨A56, hA56⟩ : ∃ A1, A1 = (if co52 = (2 : Int).toNat then (some ad687) else ((some ad687) : Option Addr).map (·.add ((2 : Int).toNat * 2))) := ⟨_, rfl⟩; obtain ⟨c56, hc56⟩ : ∃ c1, c1 = co52 - (2 : Int).toNat := ⟨_, rfl⟩; have hy56 : y689.length = t679.length - (2 : Int).toNat := (by rw [Ny689.out, List.length_drop] <;> omega); rw [show (t679).drop (2 : Int).toNat = y689 from Ny689.out.symm] at hr56; replace hr56 : Kd.C k43 _ A56 y689.length y689 := (by rw [hA56]; exact hr56); rw [← hy56, ← hA56, ← hc56] at hcut56; have HR692 := Aside0.mk hr56; have HC692 := Aside0.mk (show y689.length ≤ c56 from by rw [hy56, hc56]; exact Nat.sub_le_sub_right hroom56 _); clear hr56 hC56 hroom56 hi056 hsz56 hc56; have KY56 := Aside0.mk hy56; have KA56 := Aside0.mk hA56; clear hy56 hA56; have KL56 := Aside0.mk (show 2 ≤ t679.length from by omega); replace q56 := eq_true q56) | (go_at_call 33; (with_reducible refine (wicketmanref07_Same.calls k1 _ _ y689 _ _ x5_1 true _ ?side1 ?side2 ?side3 ?side4 A45.out).mono ?_); (case side1 => repeat (first | exact (by repeat (first | (with_reducible exact HR692.out) | (with_reducible refine Kd.C_alloc ?_ _) | (with_reducible refine Kd.C_drewN ?_ _) | (with_reducible refine Kd.C_drew ?_) | exact HR692.out)) | (with_reducible refine Kd.C_alloc ?_ _) | (with_reducible refine Kd.C_drewN ?_ _) | (with_reducible refine Kd.C_drew ?_))); (case side2 => exact HC692.out); (case side3 => repeat (first | exact (Kd.R_reads' HO_5.out).2.2 | (with_reducible refine Kd.C_alloc ?_ _) | (with_reducible refine Kd.C_drewN ?_ _) | (with_reducible refine Kd.C_drew ?_))); (case side4 => exact (Kd.R_reads' HO_5.out).2.1); rintro e w' ⟨rfl, ⟨nd, rfl⟩⟩; have hcv57 := Kd.C_string (c := co53) (P := Tryd.prog) Tryd.underlying22 Tryd.underlying5 Tryd.underlying9 (Kd.V_reads' HO684.out).2.2; have hcv57n := fun n_ : Nat => Kd.C_string (c := co53) (P := Tryd.prog) Tryd.underlying22 Tryd.underlying5 Tryd.underlying9 (Kd.C_drewN (Kd.V_reads' HO684.out).2.2 n_)))
              go_ret
              exact ⟨by first | rfl | (simp [errW_none, errW_some] <;> rfl) | (simp [*, errW_none, errW_some] <;> rfl), by repeat (first | (with_reducible first | apply bA | apply bN | apply bD | refine below_set ?_ GE685.out) | exact HB.out)⟩
             ·rw [if_neg c47] at H
              have c47b0 : ((strOfNums t682).toList == a0.toList) = false := beq_eq_false_iff_ne.mpr c47
              have c47b1 : ((strOfNums t682).toList != a0.toList) = true := bne_iff_ne.mpr c47
              exact absurd (Option.some.inj H) (by rw [hTR.out]; decide)
            ·replace c46 := Bool.eq_false_iff.mpr c46
             subst c46
             rw [if_neg (show ¬ (false = true) by decide)] at H
             exact absurd (Option.some.inj H) (by rw [hTR.out]; decide)
           ·rw [if_neg c44] at H
            exact absurd H (by simp)
          ·rw [if_neg c43] at H
           have c43b0 : (((rd_T43 t679 1).f1).toList == ([110, 111, 45, 115, 116, 111, 114, 101] : List UInt8)) = false := beq_eq_false_iff_ne.mpr c43
           have c43b1 : (((rd_T43 t679 1).f1).toList != ([110, 111, 45, 115, 116, 111, 114, 101] : List UInt8)) = true := bne_iff_ne.mpr c43
           exact absurd (Option.some.inj H) (by rw [hTR.out]; decide)
         ·rw [if_neg c42] at H
          exact absurd H (by simp)
        ·rw [if_neg c41] at H
         have c41b0 : (((rd_T43 t679 0).f0).toList == ([67, 111, 110, 116, 101, 110, 116, 45, 84, 121, 112, 101] : List UInt8)) = false := beq_eq_false_iff_ne.mpr c41
         have c41b1 : (((rd_T43 t679 0).f0).toList != ([67, 111, 110, 116, 101, 110, 116, 45, 84, 121, 112, 101] : List UInt8)) = true := bne_iff_ne.mpr c41
         exact absurd (Option.some.inj H) (by rw [hTR.out]; decide)
       ·rw [if_neg c40] at H
        exact absurd H (by simp)
      ·rw [if_neg c39] at H
       have c39b0 : ((t679.length : Int) == (wrap64 (2 + (x5_1.length : Int)))) = false := beq_eq_false_iff_ne.mpr c39
       have c39b1 : ((t679.length : Int) != (wrap64 (2 + (x5_1.length : Int)))) = true := bne_iff_ne.mpr c39
       exact absurd (Option.some.inj H) (by rw [hTR.out]; decide)
     ·replace c38 := Bool.eq_false_iff.mpr c38
      subst c38
      rw [if_neg (show ¬ (false = true) by decide)] at H
      exact absurd (Option.some.inj H) (by rw [hTR.out]; decide)

end Go.Proofs.YtpfbemcoblganaaDoor.Pall

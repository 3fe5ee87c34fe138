-- Written by a program of this session: the kit's print with given contracts. Not trusted: Lean checks it.
import Derived.Test.YtpfbemcoblganaaDoorPall0
import Derived.Test.YtpfbemcoblganaaDoorPall2
import Derived.Test.YtpfbemcoblganaaDoorPall3
import Derived.Test.YtpfbemcoblganaaDoorPall4
import Derived.Test.YtpfbemcoblganaaDoorPall10
import Derived.Test.YtpfbemcoblganaaDoorPall11
namespace Go.Proofs.YtpfbemcoblganaaDoor.Pall
open Go.RowKit Go.Proofs.YtpfbemcoblganaaDoorW.PrintWords Go.Proofs.YtpfbemcoblganaaDoorW.PrintLast Go.Proofs.YtpfbemcoblganaaDoorW.PrintMore
attribute [local go_sem] max2_int min2_int max_two min_two
set_option linter.unusedVariables false
set_option linter.unusedSimpArgs false

/-! ### wicketmanlaw09_HttpParses: function 3 -/
def wicketmanlaw09_HttpParses.j0 : Nat → List Int → List Int → Int → Int → Int → Int → Bool → Option (Bool)
 | 0, _, _, _, _, _, _, _ => none
 | k + 1, x0, x1, x2, x3, x4, x5, x21 => if x21 = true then ((wicketmanlaw09_known.f).bind fun t299 => (some t299)) else ((wicketmanlaw09_Raw.f k x1 x2).bind fun t300 => (if ([] : List Int).length + t300.length < 140737488355328 then ((some (([] : List Int) ++ t300 : List Int)).bind fun y303 => (if (y303.length : Int) = 0 then (none) else (if 0 ≤ (Int.tmod (wrap64 (x3)) (y303.length : Int)) then (if (Int.tmod (wrap64 (x3)) (y303.length : Int)) < (y303.length : Int) then ((wicketmanlaw09_parses.f k x0).bind fun t307 => (if t307 = true then ((wicketmanlaw09_parses.f k t300).bind fun t308 => (if t308 = true then ((wicketmanlaw09_parses.f k (y303.set ((Int.tmod (wrap64 (x3)) (y303.length : Int)) : Int).toNat x4)).bind fun t309 => (if t309 = true then (if (t300.length : Int) = 0 then (none) else (if 0 ≤ (Int.tmod (wrap64 (x3)) (t300.length : Int)) then (if (Int.tmod (wrap64 (x3)) (t300.length : Int)) ≤ (t300.length : Int) then ((wicketmanlaw09_parses.f k (t300.take ((Int.tmod (wrap64 (x3)) (t300.length : Int)) : Int).toNat)).bind fun t315 => (if t315 = true then ((http_Status.f x5).bind fun t316 => ((wicketmanref09_Status.f (wrap64 (x5))).bind fun t317 => (if t316 = t317 then ((http_Status.f (Int.tmod x5 16)).bind fun t318 => ((wicketmanref09_Status.f (wrap64 (Int.tmod x5 16))).bind fun t319 => (some (t318 == t319)))) else (some false)))) else (some false))) else (none)) else (none))) else (some false))) else (some false))) else (some false))) else (none)) else (none)))) else (none)))
def wicketmanlaw09_HttpParses.f (k : Nat) (l0 : List Int) (l1 : List Int) (a2 : Int) (a3 : Int) (a4 : Int) (a5 : Int) : Option (Bool) := if (l0.length : Int) > 600 then (wicketmanlaw09_HttpParses.j0 k l0 l1 a2 a3 a4 a5 true) else ((wicketmanlaw09_known.f).bind fun t298 => (wicketmanlaw09_HttpParses.j0 k l0 l1 a2 a3 a4 a5 (!t298)))
theorem wicketmanlaw09_HttpParses.mono_l : ∀ k, (∀ y0 y1 y2 y3 y4 y5 y6, LeO (wicketmanlaw09_HttpParses.j0 k y0 y1 y2 y3 y4 y5 y6) (wicketmanlaw09_HttpParses.j0 (k + 1) y0 y1 y2 y3 y4 y5 y6))
 | 0 => fun _ _ _ _ _ _ _ r h => by simp [wicketmanlaw09_HttpParses.j0] at h
 | k + 1 => by
  have ih0 := wicketmanlaw09_HttpParses.mono_l k
  ·intro y0 y1 y2 y3 y4 y5 y6
   unfold wicketmanlaw09_HttpParses.j0
   repeat' first
   | (with_reducible exact ih0 _ _ _ _ _ _ _)
   | (with_reducible exact wicketmanlaw09_Raw.mono _ _ _)
   | (with_reducible exact wicketmanlaw09_parses.mono _ _)
   | (with_reducible exact LeO.refl _)
   | (with_reducible exact LeO.none _)
   | (with_reducible refine LeO.ite ?_ ?_)
   | (with_reducible refine LeO.bind ?_ (fun _ => ?_))
   | exact ih0 _ _ _ _ _ _ _
   | exact wicketmanlaw09_Raw.mono _ _ _
   | exact wicketmanlaw09_parses.mono _ _
   | exact LeO.none _
   | refine LeO.ite ?_ ?_
   | refine LeO.bind ?_ (fun _ => ?_)
theorem wicketmanlaw09_HttpParses.mono : ∀ a0 a1 a2 a3 a4 a5 k, LeO (wicketmanlaw09_HttpParses.f k a0 a1 a2 a3 a4 a5) (wicketmanlaw09_HttpParses.f (k + 1) a0 a1 a2 a3 a4 a5) := by
 intro a0 a1 a2 a3 a4 a5 k
 have ih0 := wicketmanlaw09_HttpParses.mono_l k
 unfold wicketmanlaw09_HttpParses.f
 repeat' first
   | (with_reducible exact ih0 _ _ _ _ _ _ _)
   | (with_reducible exact wicketmanlaw09_Raw.mono _ _ _)
   | (with_reducible exact wicketmanlaw09_parses.mono _ _)
   | (with_reducible exact LeO.refl _)
   | (with_reducible exact LeO.none _)
   | (with_reducible refine LeO.ite ?_ ?_)
   | (with_reducible refine LeO.bind ?_ (fun _ => ?_))
   | exact ih0 _ _ _ _ _ _ _
   | exact wicketmanlaw09_Raw.mono _ _ _
   | exact wicketmanlaw09_parses.mono _ _
   | exact LeO.none _
   | refine LeO.ite ?_ ?_
   | refine LeO.bind ?_ (fun _ => ?_)
set_option maxHeartbeats 8000000 in
set_option maxRecDepth 100000 in
theorem wicketmanlaw09_HttpParses.calls (k : Nat) (A0 : Option Addr) (c0 : Nat) (l0 : List Int) (A1 : Option Addr) (c1 : Nat) (l1 : List Int) (a2 : Int) (a3 : Int) (a4 : Int) (a5 : Int) (r : Bool) (w : World) (hr0 : Kd.C (Kd.int .u8) w A0 l0.length l0) (hc0 : l0.length ≤ c0) (hr1 : Kd.C (Kd.int .u8) w A1 l1.length l1) (hc1 : l1.length ≤ c1) (hS : Sh w) (hTR : Aside0 (r = true)) (h : wicketmanlaw09_HttpParses.f k l0 l1 a2 a3 a4 a5 = some r) :
  Calls Tryd.prog 3 #[.slice A0 l0.length c0, .slice A1 l1.length c1, .int .u8 a2, .int .u16 a3, .int .u8 a4, .int .u16 a5] w fun e w' => e = .returned (.bool r) ∧ Below w.heap.size w w' := by
 have HR0 := Aside0.mk hr0
 have HC0 := Aside0.mk hc0
 clear hr0 hc0
 have HR1 := Aside0.mk hr1
 have HC1 := Aside0.mk hc1
 clear hr1 hc1
 have HB := Aside0.mk (Below.refl w.heap.size w)
 have H : (if (l0.length : Int) > 600 then (wicketmanlaw09_HttpParses.j0 k l0 l1 a2 a3 a4 a5 true) else ((wicketmanlaw09_known.f).bind fun t298 => (wicketmanlaw09_HttpParses.j0 k l0 l1 a2 a3 a4 a5 (!t298)))) = some r := h
 clear h
 have HC7 := Aside0.mk H
 clear H
 go_enter Tryd.func3, Tryd.ntmps3
 go_upto_region 1 with (fail)
 go_cut [21] (fun v21 wc => ∃ (kq : Nat) (x21_6 : Bool), v21 = .bool x21_6 ∧ Aside0 (wicketmanlaw09_HttpParses.j0 kq l0 l1 a2 a3 a4 a5 x21_6 = some r) ∧ Aside0 (kq ≤ k) ∧ Aside0 (Below w.heap.size w wc))
 case first =>
  have H := HC7.out
  clear HC7
  by_cases c8 : (l0.length : Int) > 600
  ·rw [if_pos c8] at H
   have c8b0 : decide (600 < (l0.length : Int)) = true := decide_eq_true c8
   have c8b1 : decide (600 < l0.length) = true := decide_eq_true (by omega)
   clear c8
   (first | rw [c8b0] | (simp only [i64_w, i32_w]; rw [c8b0]) | skip)
   have H' := Aside0.mk H
   clear H
   go_wp2
   go_meet
   case rel => exact ⟨_, (true), (by first | rfl | (simp; done) | (simp [*]; done)), H', ⟨by first | omega | exact Nat.le_refl _⟩, ⟨by repeat (first | (with_reducible first | apply bA | apply bN | apply bD) | exact HB.out)⟩⟩
  ·rw [if_neg c8] at H
   have c8b0 : decide (600 < (l0.length : Int)) = false := decide_eq_false c8
   have c8b1 : decide (600 < l0.length) = false := decide_eq_false (by omega)
   clear c8
   (first | rw [c8b0] | (simp only [i64_w, i32_w]; rw [c8b0]) | skip)
   replace H := Option.bind_eq_some_iff.mp H
   obtain ⟨t298, A90, H⟩ := H
   try dsimp only at H
   have A9 := Aside0.mk A90
   clear A90
   have H' := Aside0.mk H
   clear H
   go_wp2_with (first | (go_at_call 16; (with_reducible refine (wicketmanlaw09_known.calls  t298 _ (by first | exact hS | (refine Sh.of_below hS ?_; repeat (first | (with_reducible first | apply bA | apply bN | apply bD) | exact HB.out | refine Below.setCell ?_ (Aside0.out (by assumption)) _)) | (refine Sh.of_below hS ?_; assumption)) (by first | exact hTR | exact Aside0.mk rfl | exact Aside0.mk (by assumption) | exact Aside0.mk (of_eq_true (by assumption)) | exact Aside0.mk (wicketmanlaw09_known.true_ _ A9.out) | exact Aside0.mk (by simp_all)) A9.out).mono ?_); rintro e w10 ⟨rfl, hb⟩; have n0_ := Aside0.mk (below_step (by repeat (first | (with_reducible first | apply bA | apply bN | apply bD) | exact HB.out)) hb); clear HB; have HB := n0_; clear n0_; (try clear hb); (try clear hb2); (try clear hk); (try clear hi)))
   go_meet
   case rel => exact ⟨_, (!t298), (by first | rfl | (simp; done) | (simp [*]; done)), H', ⟨by first | omega | exact Nat.le_refl _⟩, ⟨by repeat (first | (with_reducible first | apply bA | apply bN | apply bD) | exact HB.out)⟩⟩
 case rest =>
  clear HC7
  try clear c1
  try clear p2
  try clear c3
  try clear c8
  try clear c8b0
  try clear c8b1
  obtain ⟨kq, x21_6, rfl, HA, HJ6, HB⟩ := hcut
  cases kq with
  | zero => exact absurd HA.out (by simp [wicketmanlaw09_HttpParses.j0])
  | succ kj6 =>
   have H := HA.out
   clear HA
   simp only [wicketmanlaw09_HttpParses.j0] at H
   by_cases c11 : x21_6 = true
   ·subst c11
    rw [if_pos rfl] at H
    replace H := Option.bind_eq_some_iff.mp H
    obtain ⟨t299, A120, H⟩ := H
    try dsimp only at H
    have A12 := Aside0.mk A120
    clear A120
    obtain rfl := Option.some.inj H
    go_wp2_with (first | ((with_reducible refine gate_callee (f := 16) rfl ?_); refine goesL_ (some 22) rfl rfl Tryd.func16 (by kernel_rfl) rfl #[] rfl (by (try simp only [List.map_toArray, List.map_cons, List.map_nil]); first | done | rfl | (simp only [List.length_drop, List.length_take]; rfl)) ?_; (with_reducible refine (wicketmanlaw09_known.calls  t299 _ (by first | exact hS | (refine Sh.of_below hS ?_; repeat (first | (with_reducible first | apply bA | apply bN | apply bD) | exact HB.out | refine Below.setCell ?_ (Aside0.out (by assumption)) _)) | (refine Sh.of_below hS ?_; assumption)) (by first | exact hTR | exact Aside0.mk rfl | exact Aside0.mk (by assumption) | exact Aside0.mk (of_eq_true (by assumption)) | exact Aside0.mk (wicketmanlaw09_known.true_ _ A12.out) | exact Aside0.mk (by simp_all)) A12.out).mono ?_); rintro e w13 ⟨rfl, hb⟩; refine ⟨_, rfl, ?_⟩; have n0_ := Aside0.mk (below_step (by repeat (first | (with_reducible first | apply bA | apply bN | apply bD) | exact HB.out)) hb); clear HB; have HB := n0_; clear n0_; (try clear hb); (try clear hb2); (try clear hk); (try clear hi)))
    go_ret
    exact ⟨by first | rfl | (simp [errW_none, errW_some] <;> rfl) | (simp [*, errW_none, errW_some] <;> rfl), by repeat (first | (with_reducible first | apply bA | apply bN | apply bD) | exact HB.out)⟩
   ·replace c11 := Bool.eq_false_iff.mpr c11
    subst c11
    rw [if_neg (show ¬ (false = true) by decide)] at H
    replace H := Option.bind_eq_some_iff.mp H
    obtain ⟨t300, A140, H⟩ := H
    try dsimp only at H
    have A14 := Aside0.mk A140
    clear A140
    by_cases c15 : ([] : List Int).length + t300.length < 140737488355328
    ·rw [if_pos c15] at H
     have LMc15 := Aside0.mk c15
     clear c15
     obtain ⟨y303, hy303⟩ : ∃ y_ : List Int, y_ = (([] : List Int) ++ t300) := ⟨_, rfl⟩
     replace H : (if (y303.length : Int) = 0 then (none) else (if 0 ≤ (Int.tmod (wrap64 (a3)) (y303.length : Int)) then (if (Int.tmod (wrap64 (a3)) (y303.length : Int)) < (y303.length : Int) then ((wicketmanlaw09_parses.f kj6 l0).bind fun t307 => (if t307 = true then ((wicketmanlaw09_parses.f kj6 t300).bind fun t308 => (if t308 = true then ((wicketmanlaw09_parses.f kj6 (y303.set ((Int.tmod (wrap64 (a3)) (y303.length : Int)) : Int).toNat a4)).bind fun t309 => (if t309 = true then (if (t300.length : Int) = 0 then (none) else (if 0 ≤ (Int.tmod (wrap64 (a3)) (t300.length : Int)) then (if (Int.tmod (wrap64 (a3)) (t300.length : Int)) ≤ (t300.length : Int) then ((wicketmanlaw09_parses.f kj6 (t300.take ((Int.tmod (wrap64 (a3)) (t300.length : Int)) : Int).toNat)).bind fun t315 => (if t315 = true then ((http_Status.f a5).bind fun t316 => ((wicketmanref09_Status.f (wrap64 (a5))).bind fun t317 => (if t316 = t317 then ((http_Status.f (Int.tmod a5 16)).bind fun t318 => ((wicketmanref09_Status.f (wrap64 (Int.tmod a5 16))).bind fun t319 => (some (t318 == t319)))) else (some false)))) else (some false))) else (none)) else (none))) else (some false))) else (some false))) else (some false))) else (none)) else (none))) = some r := by first | (rw [hy303]; with_reducible exact H) | (have H2_ := (Option.bind_some _ _).symm.trans H; rw [hy303]; with_reducible exact H2_) | (have H2_ := (Option.bind_some _ _).symm.trans H; with_reducible exact H2_) | with_reducible exact H | (rw [hy303]; exact H) | exact H
     have Ny303 := Aside0.mk hy303
     clear hy303
     by_cases c16 : (y303.length : Int) = 0
     ·rw [if_pos c16] at H
      exact absurd H (by simp)
     ·rw [if_neg c16] at H
      have c16b0 : ((y303.length : Int) == 0) = false := beq_eq_false_iff_ne.mpr c16
      have c16b1 : ((y303.length : Int) != 0) = true := bne_iff_ne.mpr c16
      have c16b2 : ¬ (y303 = []) := fun h_ => c16 (by rw [h_]; rfl)
      obtain ⟨ji17, hji17⟩ : ∃ j_ : Int, (Int.tmod (wrap64 (a3)) (y303.length : Int)) = j_ := ⟨_, rfl⟩
      replace H : (if 0 ≤ (ji17) then (if (ji17) < (y303.length : Int) then ((wicketmanlaw09_parses.f kj6 l0).bind fun t307 => (if t307 = true then ((wicketmanlaw09_parses.f kj6 t300).bind fun t308 => (if t308 = true then ((wicketmanlaw09_parses.f kj6 (y303.set ((ji17) : Int).toNat a4)).bind fun t309 => (if t309 = true then (if (t300.length : Int) = 0 then (none) else (if 0 ≤ (Int.tmod (wrap64 (a3)) (t300.length : Int)) then (if (Int.tmod (wrap64 (a3)) (t300.length : Int)) ≤ (t300.length : Int) then ((wicketmanlaw09_parses.f kj6 (t300.take ((Int.tmod (wrap64 (a3)) (t300.length : Int)) : Int).toNat)).bind fun t315 => (if t315 = true then ((http_Status.f a5).bind fun t316 => ((wicketmanref09_Status.f (wrap64 (a5))).bind fun t317 => (if t316 = t317 then ((http_Status.f (Int.tmod a5 16)).bind fun t318 => ((wicketmanref09_Status.f (wrap64 (Int.tmod a5 16))).bind fun t319 => (some (t318 == t319)))) else (some false)))) else (some false))) else (none)) else (none))) else (some false))) else (some false))) else (some false))) else (none)) else (none)) = some r := by first | (rw [hji17] at H; exact H) | (simp only [hji17] at H ⊢; exact H)
      (try rw [hji17] at A14)
      by_cases c18 : 0 ≤ (ji17)
      ·rw [if_pos c18] at H
       have c18b0 : decide (0 ≤ (ji17)) = true := decide_eq_true c18
       clear c18
       by_cases c19 : (ji17) < (y303.length : Int)
       ·rw [if_pos c19] at H
        have c19b0 : decide ((ji17) < (y303.length : Int)) = true := decide_eq_true c19
        clear c19
        obtain ⟨y306, hy306⟩ : ∃ y_ : List Int, y_ = (y303.set ((ji17) : Int).toNat a4) := ⟨_, rfl⟩
        replace H : ((wicketmanlaw09_parses.f kj6 l0).bind fun t307 => (if t307 = true then ((wicketmanlaw09_parses.f kj6 t300).bind fun t308 => (if t308 = true then ((wicketmanlaw09_parses.f kj6 y306).bind fun t309 => (if t309 = true then (if (t300.length : Int) = 0 then (none) else (if 0 ≤ (Int.tmod (wrap64 (a3)) (t300.length : Int)) then (if (Int.tmod (wrap64 (a3)) (t300.length : Int)) ≤ (t300.length : Int) then ((wicketmanlaw09_parses.f kj6 (t300.take ((Int.tmod (wrap64 (a3)) (t300.length : Int)) : Int).toNat)).bind fun t315 => (if t315 = true then ((http_Status.f a5).bind fun t316 => ((wicketmanref09_Status.f (wrap64 (a5))).bind fun t317 => (if t316 = t317 then ((http_Status.f (Int.tmod a5 16)).bind fun t318 => ((wicketmanref09_Status.f (wrap64 (Int.tmod a5 16))).bind fun t319 => (some (t318 == t319)))) else (some false)))) else (some false))) else (none)) else (none))) else (some false))) else (some false))) else (some false))) = some r := by first | (rw [hy306]; with_reducible exact H) | (have H2_ := (Option.bind_some _ _).symm.trans H; rw [hy306]; with_reducible exact H2_) | (have H2_ := (Option.bind_some _ _).symm.trans H; with_reducible exact H2_) | with_reducible exact H | (rw [hy306]; exact H) | exact H
        have Ny306 := Aside0.mk hy306
        clear hy306
        replace H := Option.bind_eq_some_iff.mp H
        obtain ⟨t307, A210, H⟩ := H
        try dsimp only at H
        have A21 := Aside0.mk A210
        clear A210
        by_cases c22 : t307 = true
        ·subst c22
         rw [if_pos rfl] at H
         replace H := Option.bind_eq_some_iff.mp H
         obtain ⟨t308, A230, H⟩ := H
         try dsimp only at H
         have A23 := Aside0.mk A230
         clear A230
         by_cases c24 : t308 = true
         ·subst c24
          rw [if_pos rfl] at H
          replace H := Option.bind_eq_some_iff.mp H
          obtain ⟨t309, A250, H⟩ := H
          try dsimp only at H
          have A25 := Aside0.mk A250
          clear A250
          by_cases c26 : t309 = true
          ·subst c26
           rw [if_pos rfl] at H
           by_cases c27 : (t300.length : Int) = 0
           ·rw [if_pos c27] at H
            exact absurd H (by simp)
           ·rw [if_neg c27] at H
            have c27b0 : ((t300.length : Int) == 0) = false := beq_eq_false_iff_ne.mpr c27
            have c27b1 : ((t300.length : Int) != 0) = true := bne_iff_ne.mpr c27
            have c27b2 : ¬ (t300 = []) := fun h_ => c27 (by rw [h_]; rfl)
            obtain ⟨ji28, hji28⟩ : ∃ j_ : Int, (Int.tmod (wrap64 (a3)) (t300.length : Int)) = j_ := ⟨_, rfl⟩
            replace H : (if 0 ≤ (ji28) then (if (ji28) ≤ (t300.length : Int) then ((wicketmanlaw09_parses.f kj6 (t300.take ((ji28) : Int).toNat)).bind fun t315 => (if t315 = true then ((http_Status.f a5).bind fun t316 => ((wicketmanref09_Status.f (wrap64 (a5))).bind fun t317 => (if t316 = t317 then ((http_Status.f (Int.tmod a5 16)).bind fun t318 => ((wicketmanref09_Status.f (wrap64 (Int.tmod a5 16))).bind fun t319 => (some (t318 == t319)))) else (some false)))) else (some false))) else (none)) else (none)) = some r := by first | (rw [hji28] at H; exact H) | (simp only [hji28] at H ⊢; exact H)
            (try rw [hji28] at A14)
            (try rw [hji28] at A21)
            (try rw [hji28] at A23)
            (try rw [hji28] at A25)
            by_cases c29 : 0 ≤ (ji28)
            ·rw [if_pos c29] at H
             have c29b0 := eq_true c29
             have c29b1 : decide (0 ≤ (ji28)) = true := decide_eq_true c29
             clear c29
             by_cases c30 : (ji28) ≤ (t300.length : Int)
             ·rw [if_pos c30] at H
              have c30b0 := eq_true c30
              have c30b1 : decide ((ji28) ≤ (t300.length : Int)) = true := decide_eq_true c30
              clear c30
              obtain ⟨y310, hy310⟩ : ∃ y_ : List Int, y_ = (t300.take ((ji28) : Int).toNat) := ⟨_, rfl⟩
              replace H : ((wicketmanlaw09_parses.f kj6 y310).bind fun t315 => (if t315 = true then ((http_Status.f a5).bind fun t316 => ((wicketmanref09_Status.f (wrap64 (a5))).bind fun t317 => (if t316 = t317 then ((http_Status.f (Int.tmod a5 16)).bind fun t318 => ((wicketmanref09_Status.f (wrap64 (Int.tmod a5 16))).bind fun t319 => (some (t318 == t319)))) else (some false)))) else (some false))) = some r := by first | (rw [hy310]; with_reducible exact H) | (have H2_ := (Option.bind_some _ _).symm.trans H; rw [hy310]; with_reducible exact H2_) | (have H2_ := (Option.bind_some _ _).symm.trans H; with_reducible exact H2_) | with_reducible exact H | (rw [hy310]; exact H) | exact H
              have Ny310 := Aside0.mk hy310
              clear hy310
              replace H := Option.bind_eq_some_iff.mp H
              obtain ⟨t315, A310, H⟩ := H
              try dsimp only at H
              have A31 := Aside0.mk A310
              clear A310
              by_cases c32 : t315 = true
              ·subst c32
               rw [if_pos rfl] at H
               replace H := Option.bind_eq_some_iff.mp H
               obtain ⟨t316, A330, H⟩ := H
               try dsimp only at H
               have A33 := Aside0.mk A330
               clear A330
               replace H := Option.bind_eq_some_iff.mp H
               obtain ⟨t317, A340, H⟩ := H
               try dsimp only at H
               have A34 := Aside0.mk A340
               clear A340
               by_cases c35 : t316 = t317
               ·rw [if_pos c35] at H
                have c35b0 : (t316 == t317) = true := beq_iff_eq.mpr c35
                have c35b1 : (t316 != t317) = false := bne_eq_false_iff_eq.mpr c35
                clear c35
                replace H := Option.bind_eq_some_iff.mp H
                obtain ⟨t318, A360, H⟩ := H
                try dsimp only at H
                have A36 := Aside0.mk A360
                clear A360
                replace H := Option.bind_eq_some_iff.mp H
                obtain ⟨t319, A370, H⟩ := H
                try dsimp only at H
                have A37 := Aside0.mk A370
                clear A370
                obtain rfl := Option.some.inj H
                go_wp2_with (first | ((with_reducible refine gate_callee (f := 17) rfl ?_); refine goesL_ (some 25) rfl rfl Tryd.func17 (by kernel_rfl) rfl #[.slice A1 l1.length c1, .int .u8 a2] rfl (by (try simp only [List.map_toArray, List.map_cons, List.map_nil]); first | done | rfl | (simp only [List.length_drop, List.length_take]; rfl)) ?_; (with_reducible refine (wicketmanlaw09_Raw.calls kj6 _ _ l1 a2 t300 _ ?side1 ?side2 A14.out).mono ?_); (case side1 => repeat (first | exact (Kd.C_below HR1.out HB.out) | (with_reducible refine Kd.C_alloc ?_ _) | (with_reducible refine Kd.C_drewN ?_ _) | (with_reducible refine Kd.C_drew ?_))); (case side2 => exact HC1.out); rintro e w38 ⟨v301, rfl, ho0, hb⟩; refine ⟨_, rfl, ?_⟩; have n0_ := Aside0.mk (Kd.V_lower (Kd.V_mono (ok' := fun k_ => True) ho0 (fun k_ hk_ => trivial)) (below_size (by repeat (first | (with_reducible first | apply bA | apply bN | apply bD) | exact HB.out)))); have n1_ := Aside0.mk (below_step (by repeat (first | (with_reducible first | apply bA | apply bN | apply bD) | exact HB.out)) hb); clear HB; have HO302 := n0_; have HB := n1_; clear n0_ n1_; (try clear hb); (try clear hb2); (try clear hk); (try clear hi); (try clear ho0); obtain ⟨Ao40, co40, eo40⟩ := Kd.V_slice HO302.out; subst eo40) | ((with_reducible refine gate_builtin (b := .append) (xs := #[.tmp 26, .tmp 27]) rfl ?_); (try (refine gate_guard (by rfl) ?_; dsimp only)); at_builtin; refine Kd.R_append_rows (Kd.int .u8) (w0 := w) w.heap.size rfl (.tmp 26) (.tmp 27) 22 5 (.int .u8 0) 1 rfl Tryd.underlying22 info5 rfl (by decide) (by omega) (.slice none 0 0) ([] : List Int) t300 _ _ _ (fun _ => True) (fun _ => False) rfl rfl ?aO ?aR (fun _ _ h => h) (fun _ h => h.elim) ?aF ?aB ?aS ?aL ?_; (case aR => repeat (first | exact (Kd.V_reads' HO302.out).2.2 | (with_reducible refine Kd.C_alloc ?_ _) | (with_reducible refine Kd.C_drewN ?_ _) | (with_reducible refine Kd.C_drew ?_))); (case aB => exact (by repeat (first | (with_reducible first | apply bA | apply bN | apply bD) | exact HB.out))); (case aF => exact (fun _ _ => trivial)); (case aO => exact ((Kd.R_nil _ _ _ _ (fun _ => True)))); (case aS => exact (below_size (by repeat (first | (with_reducible first | apply bA | apply bN | apply bD) | exact HB.out)))); (case aL => have := LMc15.out; omega); intro v304 w39 ho hb hg hat; rw [← Ny303.out] at ho; have n0_ := Aside0.mk (Kd.V_afterv (Kd.V_apart_nil (by (with_reducible repeat (first | apply Kd.V_alloc | apply Kd.V_drewN | apply Kd.V_drew)); exact HO302.out)) hg hat); have n1_ := Aside0.mk (hb); have n2_ := Aside0.mk (ho); clear HO302; clear HB; have HO302 := n0_; have HB := n1_; have HO305 := n2_; clear n0_ n1_ n2_; clear ho hb hg hat; obtain ⟨Ao41, co41, eo41⟩ := Kd.R_slice HO305.out; subst eo41; have p20 : 0 ≤ ((ji17) : Int) := of_decide_eq_true (by first | (with_reducible assumption) | assumption); have q20 : ((ji17) : Int) < ((y303.length : Int) : Int) := of_decide_eq_true (by first | (with_reducible assumption) | assumption); obtain ⟨go20, co20, eo20, gb20, gl20, cl20, HG20⟩ := Kd.R_form HO305.out (by omega); (first | cases eo20 | (injection eo20 with ea_ en_ ec_; (first | subst ea_ | (injection ea_ with ea_; subst ea_)); subst ec_; clear en_)); have GB20 := Aside0.mk gb20; have GG20 := Aside0.mk HG20; clear gb20 gl20 HG20; obtain ⟨hx20_0, hf20_0⟩ := Kd.R_celln 0 HO305.out ((ji17) : Int) p20 q20; replace p20 := eq_true p20; replace q20 := eq_true q20; obtain ⟨hy42_, hz42_⟩ := Kd.R_celln 0 HO305.out ((ji17) : Int) (of_decide_eq_true (by first | (with_reducible assumption) | assumption)) (of_decide_eq_true (by first | (with_reducible assumption) | assumption)); have HP42 := Kd.R_putg HO305.out ((ji17) : Int) a4) | ((with_reducible refine gate_store (t := 5) (p := 36) rfl ?_); refine store_event (t := 5) (p := 36) (v := ?vo_w43) (w1 := (w39.setCell ⟨go20, ((ji17) : Int).toNat, none⟩ (.int .u8 a4))) ?hg ?ho ?hn ?hr ?_; (case ho => rfl); (case hg => rfl); (case hn => rfl); (case hr => first | (go_simp; done) | (go_simp; rfl)); intro w43 hw; have hg : w39.grownBy w43 (some go20) := (by rw [hw]; exact HP42.2); have hp_ : Kd.R (Kd.int .u8) 5 w43 w.heap.size (fun _ => True) (.slice (some ⟨go20, 0, none⟩) y303.length co41) y306 := (by rw [hw, Ny306.out]; exact HP42.1); clear HP42; have n0_ := Aside0.mk (Kd.V_afterv (v := (.slice (some ⟨go20, 0, none⟩) y303.length co41)) (v1 := (.slice (some ⟨go20, 0, none⟩) y303.length co41)) (ok := (fun _ => True)) (by (with_reducible repeat (first | apply Kd.V_alloc | apply Kd.V_drewN | apply Kd.V_drew)); exact HO302.out) hg (.inl rfl)); have n1_ := Aside0.mk (hp_); have n2_ := Aside0.mk ((by rw [hw]; exact below_set (HB.out) GB20.out : Below w.heap.size w w43)); clear HO302; clear HO305; clear HB; have HO302 := n0_; have HO305 := n1_; have HB := n2_; clear n0_ n1_ n2_; clear hg hw hp_) | ((with_reducible refine gate_callee (f := 18) rfl ?_); refine goesL_ (some 38) rfl rfl Tryd.func18 (by kernel_rfl) rfl #[.slice A0 l0.length c0] rfl (by (try simp only [List.map_toArray, List.map_cons, List.map_nil]); first | done | rfl | (simp only [List.length_drop, List.length_take]; rfl)) ?_; (with_reducible refine (wicketmanlaw09_parses.calls kj6 _ _ l0 true _ ?side1 ?side2 (by first | exact hS | (refine Sh.of_below hS ?_; repeat (first | (with_reducible first | apply bA | apply bN | apply bD) | exact HB.out | refine Below.setCell ?_ (Aside0.out (by assumption)) _)) | (refine Sh.of_below hS ?_; assumption)) (by first | exact hTR | exact Aside0.mk rfl | exact Aside0.mk (by assumption) | exact Aside0.mk (of_eq_true (by assumption)) | exact Aside0.mk (wicketmanlaw09_parses.true_ _ A21.out) | exact Aside0.mk (by simp_all)) A21.out).mono ?_); (case side1 => repeat (first | exact (Kd.C_below HR0.out HB.out) | (with_reducible refine Kd.C_alloc ?_ _) | (with_reducible refine Kd.C_drewN ?_ _) | (with_reducible refine Kd.C_drew ?_))); (case side2 => exact HC0.out); rintro e w44 ⟨rfl, hb⟩; refine ⟨_, rfl, ?_⟩; have n0_ := Aside0.mk (Kd.V_below (by (with_reducible repeat (first | apply Kd.V_alloc | apply Kd.V_drewN | apply Kd.V_drew)); exact HO302.out) hb); have n1_ := Aside0.mk (Kd.R_below (by (with_reducible repeat (first | apply Kd.R_alloc | apply Kd.R_drewN | apply Kd.R_drew)); exact HO305.out) hb); have n2_ := Aside0.mk (below_step (by repeat (first | (with_reducible first | apply bA | apply bN | apply bD) | exact HB.out)) hb); clear HO302; clear HO305; clear HB; have HO302 := n0_; have HO305 := n1_; have HB := n2_; clear n0_ n1_ n2_; (try clear hb); (try clear hb2); (try clear hk); (try clear hi)) | (go_at_call 18; (with_reducible refine (wicketmanlaw09_parses.calls kj6 _ _ t300 true _ ?side1 ?side2 (by first | exact hS | (refine Sh.of_below hS ?_; repeat (first | (with_reducible first | apply bA | apply bN | apply bD) | exact HB.out | refine Below.setCell ?_ (Aside0.out (by assumption)) _)) | (refine Sh.of_below hS ?_; assumption)) (by first | exact hTR | exact Aside0.mk rfl | exact Aside0.mk (by assumption) | exact Aside0.mk (of_eq_true (by assumption)) | exact Aside0.mk (wicketmanlaw09_parses.true_ _ A23.out) | exact Aside0.mk (by simp_all)) A23.out).mono ?_); (case side1 => repeat (first | exact (Kd.V_reads' HO302.out).2.2 | (with_reducible refine Kd.C_alloc ?_ _) | (with_reducible refine Kd.C_drewN ?_ _) | (with_reducible refine Kd.C_drew ?_))); (case side2 => exact (Kd.V_reads' HO302.out).2.1); rintro e w45 ⟨rfl, hb⟩; have n0_ := Aside0.mk (Kd.V_below (by (with_reducible repeat (first | apply Kd.V_alloc | apply Kd.V_drewN | apply Kd.V_drew)); exact HO302.out) hb); have n1_ := Aside0.mk (Kd.R_below (by (with_reducible repeat (first | apply Kd.R_alloc | apply Kd.R_drewN | apply Kd.R_drew)); exact HO305.out) hb); have n2_ := Aside0.mk (below_step (by repeat (first | (with_reducible first | apply bA | apply bN | apply bD) | exact HB.out)) hb); clear HO302; clear HO305; clear HB; have HO302 := n0_; have HO305 := n1_; have HB := n2_; clear n0_ n1_ n2_; (try clear hb); (try clear hb2); (try clear hk); (try clear hi)) | (go_at_call 18; refine calls_of_args (args' := #[.slice (some ⟨go20, 0, none⟩) y306.length co41]) (by first | (rw [show y306.length = y303.length from (Kd.R_reads' HO305.out).1.symm] <;> rfl) | rfl) ?_; (with_reducible refine (wicketmanlaw09_parses.calls kj6 _ _ y306 true _ ?side1 ?side2 (by first | exact hS | (refine Sh.of_below hS ?_; repeat (first | (with_reducible first | apply bA | apply bN | apply bD) | exact HB.out | refine Below.setCell ?_ (Aside0.out (by assumption)) _)) | (refine Sh.of_below hS ?_; assumption)) (by first | exact hTR | exact Aside0.mk rfl | exact Aside0.mk (by assumption) | exact Aside0.mk (of_eq_true (by assumption)) | exact Aside0.mk (wicketmanlaw09_parses.true_ _ A25.out) | exact Aside0.mk (by simp_all)) A25.out).mono ?_); (case side1 => repeat (first | exact (Kd.R_reads' HO305.out).2.2 | (with_reducible refine Kd.C_alloc ?_ _) | (with_reducible refine Kd.C_drewN ?_ _) | (with_reducible refine Kd.C_drew ?_))); (case side2 => rw [show y306.length = y303.length from (Kd.R_reads' HO305.out).1.symm]; exact (Kd.R_reads' HO305.out).2.1); rintro e w46 ⟨rfl, hb⟩; have n0_ := Aside0.mk (Kd.V_below (by (with_reducible repeat (first | apply Kd.V_alloc | apply Kd.V_drewN | apply Kd.V_drew)); exact HO302.out) hb); have n1_ := Aside0.mk (Kd.R_below (by (with_reducible repeat (first | apply Kd.R_alloc | apply Kd.R_drewN | apply Kd.R_drew)); exact HO305.out) hb); have n2_ := Aside0.mk (below_step (by repeat (first | (with_reducible first | apply bA | apply bN | apply bD) | exact HB.out)) hb); clear HO302; clear HO305; clear HB; have HO302 := n0_; have HO305 := n1_; have HB := n2_; clear n0_ n1_ n2_; (try clear hb); (try clear hb2); (try clear hk); (try clear hi); have q47 : ((ji28) : Int) ≤ ((t300.length : Int) : Int) := of_decide_eq_true (by first | (with_reducible assumption) | assumption); obtain ⟨i047, hi047, _, hsz47, _⟩ := info_parts info5; have hroom47 : t300.length ≤ co40 := (Kd.V_reads' HO302.out).2.1; have hC47 : Kd.F (Kd.int .u8) _ _ Ao40 t300.length t300 := (Kd.V_at (base := w.heap.size) HO302.out).2.2; have hcut47 := cut_to (P := Tryd.prog) 22 5 .i64 Tryd.underlying22 hi047 Ao40 t300.length co40 (ji28) (of_decide_eq_true (by first | (with_reducible assumption) | assumption)) q47 hroom47; have hr47 := Kd.F_take (m := ((ji28) : Int).toNat) hC47 (by omega); have hy47 : y310.length = ((ji28) : Int).toNat := (by rw [Ny310.out, List.length_take]; omega); rw [← Ny310.out] at hr47; rw [← hy47] at hcut47; have HO314 := Aside0.mk (show Kd.V (Kd.int .u8) 5 _ w.heap.size _ (.slice Ao40 y310.length co40) y310 from Kd.V_mk (by omega) hr47); have HC314 := Aside0.mk (show y310.length ≤ co40 from by omega); clear hr47 hC47 hroom47 hi047 hsz47; have KY47 := Aside0.mk hy47; clear hy47; replace q47 := eq_true q47) | (go_at_call 18; (with_reducible refine (wicketmanlaw09_parses.calls kj6 _ _ y310 true _ ?side1 ?side2 (by first | exact hS | (refine Sh.of_below hS ?_; repeat (first | (with_reducible first | apply bA | apply bN | apply bD) | exact HB.out | refine Below.setCell ?_ (Aside0.out (by assumption)) _)) | (refine Sh.of_below hS ?_; assumption)) (by first | exact hTR | exact Aside0.mk rfl | exact Aside0.mk (by assumption) | exact Aside0.mk (of_eq_true (by assumption)) | exact Aside0.mk (wicketmanlaw09_parses.true_ _ A31.out) | exact Aside0.mk (by simp_all)) A31.out).mono ?_); (case side1 => repeat (first | exact (Kd.V_reads' HO314.out).2.2 | (with_reducible refine Kd.C_alloc ?_ _) | (with_reducible refine Kd.C_drewN ?_ _) | (with_reducible refine Kd.C_drew ?_))); (case side2 => exact (Kd.V_reads' HO314.out).2.1); rintro e w48 ⟨rfl, hb⟩; have n0_ := Aside0.mk (Kd.V_below (by (with_reducible repeat (first | apply Kd.V_alloc | apply Kd.V_drewN | apply Kd.V_drew)); exact HO302.out) hb); have n1_ := Aside0.mk (Kd.R_below (by (with_reducible repeat (first | apply Kd.R_alloc | apply Kd.R_drewN | apply Kd.R_drew)); exact HO305.out) hb); have n2_ := Aside0.mk (Kd.V_below (by (with_reducible repeat (first | apply Kd.V_alloc | apply Kd.V_drewN | apply Kd.V_drew)); exact HO314.out) hb); have n3_ := Aside0.mk (below_step (by repeat (first | (with_reducible first | apply bA | apply bN | apply bD) | exact HB.out)) hb); clear HO302; clear HO305; clear HO314; clear HB; have HO302 := n0_; have HO305 := n1_; have HO314 := n2_; have HB := n3_; clear n0_ n1_ n2_ n3_; (try clear hb); (try clear hb2); (try clear hk); (try clear hi)) | (go_at_call 19; (with_reducible refine (http_Status.calls a5 t316 _ A33.out).mono ?_); rintro e w' ⟨rfl, ⟨nd, rfl⟩⟩) | (go_at_call 20; (with_reducible refine (wicketmanref09_Status.calls (wrap64 (a5)) t317 _ A34.out).mono ?_); rintro e w' ⟨rfl, ⟨nd, rfl⟩⟩) | (go_at_call 19; (with_reducible refine (http_Status.calls (Int.tmod a5 16) t318 _ A36.out).mono ?_); rintro e w' ⟨rfl, ⟨nd, rfl⟩⟩) | (go_at_call 20; (with_reducible refine (wicketmanref09_Status.calls (wrap64 (Int.tmod a5 16)) t319 _ A37.out).mono ?_); rintro e w' ⟨rfl, ⟨nd, rfl⟩⟩))
                go_ret
                exact ⟨by first | rfl | (simp [errW_none, errW_some] <;> rfl) | (simp only [← hji17, ← hji28]; first | rfl | (simp [errW_none, errW_some] <;> rfl)) | (simp [*, errW_none, errW_some] <;> rfl), by repeat (first | (with_reducible first | apply bA | apply bN | apply bD) | exact HB.out)⟩
               ·rw [if_neg c35] at H
                have c35b0 : (t316 == t317) = false := beq_eq_false_iff_ne.mpr c35
                have c35b1 : (t316 != t317) = true := bne_iff_ne.mpr c35
                exact absurd (Option.some.inj H) (by rw [hTR.out]; decide)
              ·replace c32 := Bool.eq_false_iff.mpr c32
               subst c32
               rw [if_neg (show ¬ (false = true) by decide)] at H
               exact absurd (Option.some.inj H) (by rw [hTR.out]; decide)
             ·rw [if_neg c30] at H
              exact absurd H (by simp)
            ·rw [if_neg c29] at H
             exact absurd H (by simp)
          ·replace c26 := Bool.eq_false_iff.mpr c26
           subst c26
           rw [if_neg (show ¬ (false = true) by decide)] at H
           exact absurd (Option.some.inj H) (by rw [hTR.out]; decide)
         ·replace c24 := Bool.eq_false_iff.mpr c24
          subst c24
          rw [if_neg (show ¬ (false = true) by decide)] at H
          exact absurd (Option.some.inj H) (by rw [hTR.out]; decide)
        ·replace c22 := Bool.eq_false_iff.mpr c22
         subst c22
         rw [if_neg (show ¬ (false = true) by decide)] at H
         exact absurd (Option.some.inj H) (by rw [hTR.out]; decide)
       ·rw [if_neg c19] at H
        exact absurd H (by simp)
      ·rw [if_neg c18] at H
       exact absurd H (by simp)
    ·rw [if_neg c15] at H
     exact absurd H (by simp)

end Go.Proofs.YtpfbemcoblganaaDoor.Pall

-- Written by a program of this session: the kit's print with given contracts. Not trusted: Lean checks it.
import Derived.Test.YtpfbemcoblganaaDoorPall0
import Derived.Test.YtpfbemcoblganaaDoorPall2
import Derived.Test.YtpfbemcoblganaaDoorPall3
import Derived.Test.YtpfbemcoblganaaDoorPall14
namespace Go.Proofs.YtpfbemcoblganaaDoor.Pall
open Go.RowKit Go.Proofs.YtpfbemcoblganaaDoorW.PrintWords Go.Proofs.YtpfbemcoblganaaDoorW.PrintLast Go.Proofs.YtpfbemcoblganaaDoorW.PrintMore
attribute [local go_sem] max2_int min2_int max_two min_two
set_option linter.unusedVariables false
set_option linter.unusedSimpArgs false

/-! ### wicketmanlaw09_HttpLines: function 7 -/
mutual
def wicketmanlaw09_HttpLines.j1 : Nat → List Int → ByteArray → List ByteArray → Option (Bool)
 | 0, _, _, _ => none
 | k + 1, x1, x5, x6 => if x5.size + 2 ≤ 9223372036854775807 then (if (x5 ++ (⟨#[13, 10]⟩ : ByteArray)).size + (strOfNums x1).size ≤ 9223372036854775807 then (if ((x5 ++ (⟨#[13, 10]⟩ : ByteArray)) ++ (strOfNums x1)).size ≤ 140737488351232 then ((http_Lines.f k (btsOf ((x5 ++ (⟨#[13, 10]⟩ : ByteArray)) ++ (strOfNums x1)))).bind fun bt454 => (if x5.size ≤ 140737488351232 then ((http_Lines.f k (btsOf x5)).bind fun bt462 => (if (bt454.1.length : Int) = (x6.length : Int) then (wicketmanlaw09_HttpLines.l1 k x5 x6 bt454.1 bt454.2.1 bt454.2.2 bt462.2.2 0) else (some false))) else (none))) else (none)) else (none)) else (none)
def wicketmanlaw09_HttpLines.l1 : Nat → ByteArray → List ByteArray → List ByteArray → Int → Bool → Bool → Int → Option (Bool)
 | 0, _, _, _, _, _, _, _ => none
 | k + 1, x5, x6, x9, x10, x11, x14, x15 => if x15 < (x9.length : Int) then (if 0 ≤ x15 then (if x15 < (x6.length : Int) then (if (rdOf ByteArray.empty x9 x15).toList = (rdOf ByteArray.empty x6 x15).toList then (wicketmanlaw09_HttpLines.l1 k x5 x6 x9 x10 x11 x14 (wrap64 (x15 + 1))) else (some false)) else (none)) else (none)) else ((wicketmanlaw09_known.f).bind fun t469 => (if t469 = true then (if x11 = true then (if x14 = true then (some false) else (some (x10 == (wrap64 ((x5.size : Int) + 2))))) else (some false)) else (some false)))
def wicketmanlaw09_HttpLines.l0 : Nat → List Int → List Int → ByteArray → List ByteArray → Int → Option (Bool)
 | 0, _, _, _, _, _ => none
 | k + 1, x0, x1, x5, x6, x7 => if x7 < (x0.length : Int) then (if x7 < 10 then (if 0 ≤ x7 then (if x7 ≤ (wrap64 (x7 + 1)) then (if (wrap64 (x7 + 1)) ≤ (x0.length : Int) then ((wicketmanlaw08_Line.f k ((x0.take ((wrap64 (x7 + 1)) : Int).toNat).drop (x7 : Int).toNat)).bind fun t447 => (if 1 + t447.size ≤ 9223372036854775807 then (if x6.length < 8796093022208 then (if x5.size + ((⟨#[108]⟩ : ByteArray) ++ t447).size ≤ 9223372036854775807 then (if (x5 ++ ((⟨#[108]⟩ : ByteArray) ++ t447)).size + 2 ≤ 9223372036854775807 then (wicketmanlaw09_HttpLines.l0 k x0 x1 ((x5 ++ ((⟨#[108]⟩ : ByteArray) ++ t447)) ++ (⟨#[13, 10]⟩ : ByteArray)) (x6 ++ [(⟨#[108]⟩ : ByteArray) ++ t447]) (wrap64 (x7 + 1))) else (none)) else (none)) else (none)) else (none))) else (none)) else (none)) else (none)) else (wicketmanlaw09_HttpLines.j1 k x1 x5 x6)) else (wicketmanlaw09_HttpLines.j1 k x1 x5 x6)
end
def wicketmanlaw09_HttpLines.f (k : Nat) (l0 : List Int) (l1 : List Int) : Option (Bool) := if (l1.length : Int) > 200 then ((wicketmanlaw09_known.f).bind fun t445 => (some t445)) else (wicketmanlaw09_HttpLines.l0 k l0 l1 (⟨#[]⟩ : ByteArray) ([] : List ByteArray) 0)
theorem wicketmanlaw09_HttpLines.mono_l : ∀ k, (∀ y0 y1 y2, LeO (wicketmanlaw09_HttpLines.j1 k y0 y1 y2) (wicketmanlaw09_HttpLines.j1 (k + 1) y0 y1 y2)) ∧ (∀ y0 y1 y2 y3 y4 y5 y6, LeO (wicketmanlaw09_HttpLines.l1 k y0 y1 y2 y3 y4 y5 y6) (wicketmanlaw09_HttpLines.l1 (k + 1) y0 y1 y2 y3 y4 y5 y6)) ∧ (∀ y0 y1 y2 y3 y4, LeO (wicketmanlaw09_HttpLines.l0 k y0 y1 y2 y3 y4) (wicketmanlaw09_HttpLines.l0 (k + 1) y0 y1 y2 y3 y4))
 | 0 => ⟨fun _ _ _ r h => by simp [wicketmanlaw09_HttpLines.j1] at h, fun _ _ _ _ _ _ _ r h => by simp [wicketmanlaw09_HttpLines.l1] at h, fun _ _ _ _ _ r h => by simp [wicketmanlaw09_HttpLines.l0] at h⟩
 | k + 1 => by
  obtain ⟨ih0, ih1, ih2⟩ := wicketmanlaw09_HttpLines.mono_l k
  refine ⟨?_, ?_, ?_⟩
  ·intro y0 y1 y2
   unfold wicketmanlaw09_HttpLines.j1
   repeat' first
   | (with_reducible exact ih0 _ _ _)
   | (with_reducible exact ih1 _ _ _ _ _ _ _)
   | (with_reducible exact ih2 _ _ _ _ _)
   | (with_reducible exact http_Lines.mono _ _)
   | (with_reducible exact wicketmanlaw08_Line.mono _ _)
   | (with_reducible exact LeO.refl _)
   | (with_reducible exact LeO.none _)
   | (with_reducible refine LeO.ite ?_ ?_)
   | (with_reducible refine LeO.bind ?_ (fun _ => ?_))
   | exact ih0 _ _ _
   | exact ih1 _ _ _ _ _ _ _
   | exact ih2 _ _ _ _ _
   | exact http_Lines.mono _ _
   | exact wicketmanlaw08_Line.mono _ _
   | exact LeO.none _
   | refine LeO.ite ?_ ?_
   | refine LeO.bind ?_ (fun _ => ?_)
  ·intro y0 y1 y2 y3 y4 y5 y6
   unfold wicketmanlaw09_HttpLines.l1
   repeat' first
   | (with_reducible exact ih0 _ _ _)
   | (with_reducible exact ih1 _ _ _ _ _ _ _)
   | (with_reducible exact ih2 _ _ _ _ _)
   | (with_reducible exact http_Lines.mono _ _)
   | (with_reducible exact wicketmanlaw08_Line.mono _ _)
   | (with_reducible exact LeO.refl _)
   | (with_reducible exact LeO.none _)
   | (with_reducible refine LeO.ite ?_ ?_)
   | (with_reducible refine LeO.bind ?_ (fun _ => ?_))
   | exact ih0 _ _ _
   | exact ih1 _ _ _ _ _ _ _
   | exact ih2 _ _ _ _ _
   | exact http_Lines.mono _ _
   | exact wicketmanlaw08_Line.mono _ _
   | exact LeO.none _
   | refine LeO.ite ?_ ?_
   | refine LeO.bind ?_ (fun _ => ?_)
  ·intro y0 y1 y2 y3 y4
   unfold wicketmanlaw09_HttpLines.l0
   repeat' first
   | (with_reducible exact ih0 _ _ _)
   | (with_reducible exact ih1 _ _ _ _ _ _ _)
   | (with_reducible exact ih2 _ _ _ _ _)
   | (with_reducible exact http_Lines.mono _ _)
   | (with_reducible exact wicketmanlaw08_Line.mono _ _)
   | (with_reducible exact LeO.refl _)
   | (with_reducible exact LeO.none _)
   | (with_reducible refine LeO.ite ?_ ?_)
   | (with_reducible refine LeO.bind ?_ (fun _ => ?_))
   | exact ih0 _ _ _
   | exact ih1 _ _ _ _ _ _ _
   | exact ih2 _ _ _ _ _
   | exact http_Lines.mono _ _
   | exact wicketmanlaw08_Line.mono _ _
   | exact LeO.none _
   | refine LeO.ite ?_ ?_
   | refine LeO.bind ?_ (fun _ => ?_)
theorem wicketmanlaw09_HttpLines.mono : ∀ a0 a1 k, LeO (wicketmanlaw09_HttpLines.f k a0 a1) (wicketmanlaw09_HttpLines.f (k + 1) a0 a1) := by
 intro a0 a1 k
 obtain ⟨ih0, ih1, ih2⟩ := wicketmanlaw09_HttpLines.mono_l k
 unfold wicketmanlaw09_HttpLines.f
 repeat' first
   | (with_reducible exact ih0 _ _ _)
   | (with_reducible exact ih1 _ _ _ _ _ _ _)
   | (with_reducible exact ih2 _ _ _ _ _)
   | (with_reducible exact http_Lines.mono _ _)
   | (with_reducible exact wicketmanlaw08_Line.mono _ _)
   | (with_reducible exact LeO.refl _)
   | (with_reducible exact LeO.none _)
   | (with_reducible refine LeO.ite ?_ ?_)
   | (with_reducible refine LeO.bind ?_ (fun _ => ?_))
   | exact ih0 _ _ _
   | exact ih1 _ _ _ _ _ _ _
   | exact ih2 _ _ _ _ _
   | exact http_Lines.mono _ _
   | exact wicketmanlaw08_Line.mono _ _
   | exact LeO.none _
   | refine LeO.ite ?_ ?_
   | refine LeO.bind ?_ (fun _ => ?_)
set_option maxHeartbeats 8000000 in
set_option maxRecDepth 100000 in
theorem wicketmanlaw09_HttpLines.calls (k : Nat) (A0 : Option Addr) (c0 : Nat) (l0 : List Int) (A1 : Option Addr) (c1 : Nat) (l1 : List Int) (r : Bool) (w : World) (hr0 : Kd.C (Kd.int .u8) w A0 l0.length l0) (hc0 : l0.length ≤ c0) (hr1 : Kd.C (Kd.int .u8) w A1 l1.length l1) (hc1 : l1.length ≤ c1) (hS : Sh w) (hTR : Aside0 (r = true)) (h : wicketmanlaw09_HttpLines.f k l0 l1 = some r) :
  Calls Tryd.prog 7 #[.slice A0 l0.length c0, .slice A1 l1.length c1] w fun e w' => e = .returned (.bool r) ∧ Below w.heap.size w w' := by
 have HR0 := Aside0.mk hr0
 have HC0 := Aside0.mk hc0
 clear hr0 hc0
 have HR1 := Aside0.mk hr1
 have HC1 := Aside0.mk hc1
 clear hr1 hc1
 have HB := Aside0.mk (Below.refl w.heap.size w)
 have H : (if (l1.length : Int) > 200 then ((wicketmanlaw09_known.f).bind fun t445 => (some t445)) else (wicketmanlaw09_HttpLines.l0 k l0 l1 (⟨#[]⟩ : ByteArray) ([] : List ByteArray) 0)) = some r := h
 clear h
 by_cases c3 : (l1.length : Int) > 200
 ·rw [if_pos c3] at H
  have c3b0 : decide (200 < (l1.length : Int)) = true := decide_eq_true c3
  have c3b1 : decide (200 < l1.length) = true := decide_eq_true (by omega)
  clear c3
  replace H := Option.bind_eq_some_iff.mp H
  obtain ⟨t445, A40, H⟩ := H
  try dsimp only at H
  have A4 := Aside0.mk A40
  clear A40
  obtain rfl := Option.some.inj H
  go_enter Tryd.func7, Tryd.ntmps7
  go_wp2_with (first | (go_at_call 16; (with_reducible refine (wicketmanlaw09_known.calls  t445 _ (by first | exact hS | (refine Sh.of_below hS ?_; repeat (first | (with_reducible first | apply bA | apply bN | apply bD) | exact HB.out | refine Below.setCell ?_ (Aside0.out (by assumption)) _)) | (refine Sh.of_below hS ?_; assumption)) (by first | exact hTR | exact Aside0.mk rfl | exact Aside0.mk (by assumption) | exact Aside0.mk (of_eq_true (by assumption)) | exact Aside0.mk (wicketmanlaw09_known.true_ _ A4.out) | exact Aside0.mk (by simp_all)) A4.out).mono ?_); rintro e w5 ⟨rfl, hb⟩; have n0_ := Aside0.mk (below_step (by repeat (first | (with_reducible first | apply bA | apply bN | apply bD) | exact HB.out)) hb); clear HB; have HB := n0_; clear n0_; (try clear hb); (try clear hb2); (try clear hk); (try clear hi)))
  repeat (go_quiet (first | (go_at_call 16; (with_reducible refine (wicketmanlaw09_known.calls  t445 _ (by first | exact hS | (refine Sh.of_below hS ?_; repeat (first | (with_reducible first | apply bA | apply bN | apply bD) | exact HB.out | refine Below.setCell ?_ (Aside0.out (by assumption)) _)) | (refine Sh.of_below hS ?_; assumption)) (by first | exact hTR | exact Aside0.mk rfl | exact Aside0.mk (by assumption) | exact Aside0.mk (of_eq_true (by assumption)) | exact Aside0.mk (wicketmanlaw09_known.true_ _ A4.out) | exact Aside0.mk (by simp_all)) A4.out).mono ?_); rintro e w5 ⟨rfl, hb⟩; have n0_ := Aside0.mk (below_step (by repeat (first | (with_reducible first | apply bA | apply bN | apply bD) | exact HB.out)) hb); clear HB; have HB := n0_; clear n0_; (try clear hb); (try clear hb2); (try clear hk); (try clear hi))); try go_wp2_with (first | (go_at_call 16; (with_reducible refine (wicketmanlaw09_known.calls  t445 _ (by first | exact hS | (refine Sh.of_below hS ?_; repeat (first | (with_reducible first | apply bA | apply bN | apply bD) | exact HB.out | refine Below.setCell ?_ (Aside0.out (by assumption)) _)) | (refine Sh.of_below hS ?_; assumption)) (by first | exact hTR | exact Aside0.mk rfl | exact Aside0.mk (by assumption) | exact Aside0.mk (of_eq_true (by assumption)) | exact Aside0.mk (wicketmanlaw09_known.true_ _ A4.out) | exact Aside0.mk (by simp_all)) A4.out).mono ?_); rintro e w5 ⟨rfl, hb⟩; have n0_ := Aside0.mk (below_step (by repeat (first | (with_reducible first | apply bA | apply bN | apply bD) | exact HB.out)) hb); clear HB; have HB := n0_; clear n0_; (try clear hb); (try clear hb2); (try clear hk); (try clear hi))))
  go_ret
  exact ⟨by first | rfl | (simp [errW_none, errW_some] <;> rfl) | (simp [*, errW_none, errW_some] <;> rfl), by repeat (first | (with_reducible first | apply bA | apply bN | apply bD) | exact HB.out)⟩
 ·rw [if_neg c3] at H
  have c3b0 : decide (200 < (l1.length : Int)) = false := decide_eq_false c3
  have c3b1 : decide (200 < l1.length) = false := decide_eq_false (by omega)
  clear c3
  have HC6 := Aside0.mk H
  clear H
  go_enter Tryd.func7, Tryd.ntmps7
  go_upto_block 0 with (fail)
  repeat (go_quiet (fail); go_upto_block 0 with (fail))
  go_cut [5, 6] (fun v5 v6 wc => ∃ (kq : Nat) (x5_5 : ByteArray) (x6_5 : List ByteArray), v5 = .string x5_5 ∧ Aside0 (wicketmanlaw09_HttpLines.j1 kq l1 x5_5 x6_5 = some r) ∧ Aside0 (kq ≤ k) ∧ Aside0 (Kd.R Kd.string 9 wc w.heap.size (fun _ => True) v6 x6_5) ∧ Aside0 (Below w.heap.size w wc))
  case first =>
   have H := HC6.out
   clear HC6
   have H' := Aside0.mk H
   clear H
   go_wp2
   repeat (go_quiet (fail); try go_wp2)
   go_loopg [5, 6, 7] k (fun kq v5 v6 v7 w' => ∃ (x5_1 : ByteArray) (x6_1 : List ByteArray) (x7_1 : Int), v5 = .string x5_1 ∧ v7 = .int .i64 x7_1 ∧ Aside0 (wicketmanlaw09_HttpLines.l0 kq l0 l1 x5_1 x6_1 x7_1 = some r) ∧ Aside0 (kq ≤ k) ∧ Aside0 (Kd.R Kd.string 9 w' w.heap.size (fun _ => True) v6 x6_1) ∧ Aside0 (Below w.heap.size w w'))
   case atStart => exact ⟨((⟨#[]⟩ : ByteArray)), (([] : List ByteArray)), (0), (by first | rfl | (simp; done) | (simp [*]; done)), (by first | rfl | (simp; done) | (simp [*]; done)), H', ⟨Nat.le_refl _⟩, ⟨by first | exact Kd.R_nil _ _ _ _ _ | exact Kd.N_nil _ _ _ _ _ | exact Kd.V_nil _ _ _ _ _ | exact Kd.Q_nil _ _ _ _ _ | exact Kd.S_nil _ _ _ _ _⟩, ⟨by repeat (first | (with_reducible first | apply bA | apply bN | apply bD) | exact HB.out)⟩⟩
   case round =>
    clear H'
    try clear c1
    try clear p2
    try clear c3
    try clear c3b0
    try clear c3b1
    obtain ⟨x5_1, x6_1, x7_1, rfl, rfl, HA, HK1, HO_6, HB⟩ := hrel
    cases gk with
    | zero => exact absurd HA.out (by simp [wicketmanlaw09_HttpLines.l0])
    | succ k1 =>
     have H := HA.out
     clear HA
     simp only [wicketmanlaw09_HttpLines.l0] at H
     by_cases c7 : x7_1 < (l0.length : Int)
     ·rw [if_pos c7] at H
      have c7b0 : decide (x7_1 < (l0.length : Int)) = true := decide_eq_true c7
      clear c7
      (first | rw [c7b0] | (simp only [i64_w, i32_w]; rw [c7b0]) | skip)
      by_cases c8 : x7_1 < 10
      ·rw [if_pos c8] at H
       have c8b0 : decide (x7_1 < 10) = true := decide_eq_true c8
       clear c8
       by_cases c9 : 0 ≤ x7_1
       ·rw [if_pos c9] at H
        have c9b0 := eq_true c9
        have c9b1 : decide (0 ≤ x7_1) = true := decide_eq_true c9
        clear c9
        by_cases c10 : x7_1 ≤ (wrap64 (x7_1 + 1))
        ·rw [if_pos c10] at H
         have c10b0 := eq_true c10
         have c10b1 : decide (x7_1 ≤ (wrap64 (x7_1 + 1))) = true := decide_eq_true c10
         by_cases c11 : (wrap64 (x7_1 + 1)) ≤ (l0.length : Int)
         ·rw [if_pos c11] at H
          have c11b0 := eq_true c11
          have c11b1 : decide ((wrap64 (x7_1 + 1)) ≤ (l0.length : Int)) = true := decide_eq_true c11
          replace H := Option.bind_eq_some_iff.mp H
          obtain ⟨t447, A120, H⟩ := H
          try dsimp only at H
          have A12 := Aside0.mk A120
          clear A120
          by_cases c13 : 1 + t447.size ≤ 9223372036854775807
          ·rw [if_pos c13] at H
           have c13b0 := eq_true c13
           have c13b1 : decide (1 + t447.size ≤ 9223372036854775807) = true := decide_eq_true c13
           try have c13b2 : (9223372036854775807 < 1 + t447.size) = False := eq_false (Nat.not_lt.2 c13)
           by_cases c14 : x6_1.length < 8796093022208
           ·rw [if_pos c14] at H
            have LMc14 := Aside0.mk c14
            clear c14
            obtain ⟨y448, hy448⟩ : ∃ y_ : List ByteArray, y_ = (x6_1 ++ [(⟨#[108]⟩ : ByteArray) ++ t447]) := ⟨_, rfl⟩
            replace H : (if x5_1.size + ((⟨#[108]⟩ : ByteArray) ++ t447).size ≤ 9223372036854775807 then (if (x5_1 ++ ((⟨#[108]⟩ : ByteArray) ++ t447)).size + 2 ≤ 9223372036854775807 then (wicketmanlaw09_HttpLines.l0 k1 l0 l1 ((x5_1 ++ ((⟨#[108]⟩ : ByteArray) ++ t447)) ++ (⟨#[13, 10]⟩ : ByteArray)) y448 (wrap64 (x7_1 + 1))) else (none)) else (none)) = some r := by first | (rw [hy448]; with_reducible exact H) | (have H2_ := (Option.bind_some _ _).symm.trans H; rw [hy448]; with_reducible exact H2_) | (have H2_ := (Option.bind_some _ _).symm.trans H; with_reducible exact H2_) | with_reducible exact H | (rw [hy448]; exact H) | exact H
            have Ny448 := Aside0.mk hy448
            clear hy448
            by_cases c15 : x5_1.size + ((⟨#[108]⟩ : ByteArray) ++ t447).size ≤ 9223372036854775807
            ·rw [if_pos c15] at H
             have c15b0 := eq_true c15
             have c15b1 : decide (x5_1.size + ((⟨#[108]⟩ : ByteArray) ++ t447).size ≤ 9223372036854775807) = true := decide_eq_true c15
             try have c15b2 : (9223372036854775807 < x5_1.size + ((⟨#[108]⟩ : ByteArray) ++ t447).size) = False := eq_false (Nat.not_lt.2 c15)
             try (have c15b8 := c15b2; simp only [ByteArray.size_append, show ((⟨#[108]⟩ : ByteArray) : ByteArray).size = 1 from rfl] at c15b8)
             by_cases c16 : (x5_1 ++ ((⟨#[108]⟩ : ByteArray) ++ t447)).size + 2 ≤ 9223372036854775807
             ·rw [if_pos c16] at H
              have c16b0 := eq_true c16
              have c16b1 : decide ((x5_1 ++ ((⟨#[108]⟩ : ByteArray) ++ t447)).size + 2 ≤ 9223372036854775807) = true := decide_eq_true c16
              try have c16b2 : (9223372036854775807 < (x5_1 ++ ((⟨#[108]⟩ : ByteArray) ++ t447)).size + 2) = False := eq_false (Nat.not_lt.2 c16)
              try (have c16b8 := c16b2; simp only [ByteArray.size_append, show ((⟨#[108]⟩ : ByteArray) : ByteArray).size = 1 from rfl] at c16b8)
              have H' := Aside0.mk H
              clear H
              obtain ⟨i017, hi017, _, hsz17, _⟩ := info_parts info5
              obtain ⟨A17, hcut17, hA17, hC17⟩ := print_mid_of (P := Tryd.prog) (Value.int .u8) 0 22 5 .i64 .i64 Tryd.underlying22 hi017 hsz17 A0 c0 l0 x7_1 (wrap64 (x7_1 + 1)) (of_decide_eq_true (by first | (with_reducible assumption) | assumption)) (by first | omega | exact of_decide_eq_true (by first | (with_reducible assumption) | assumption)) (of_decide_eq_true (by first | (with_reducible assumption) | assumption)) HC0.out
              have HR446 := Aside0.mk (Kd.C_of_reads (h1 := fun _ => rfl) (hA17 _ (Kd.reads_of_C HR0.out)))
              have HC446 := Aside0.mk hC17
              clear hA17 hC17 hi017 hsz17
              have hLn_ : ((l0.take ((wrap64 (x7_1 + 1)) : Int).toNat).drop (x7_1 : Int).toNat).length = (wrap64 (x7_1 + 1)).toNat - x7_1.toNat := by rw [List.length_drop, List.length_take]; have h1_ : (wrap64 (x7_1 + 1) : Int) ≤ (l0.length : Int) := of_decide_eq_true (by first | (with_reducible assumption) | assumption); omega
              have HLn_ := Aside0.mk hLn_
              clear hLn_
              go_wp2_with (first | (go_at_call 22; refine calls_of_args (args' := #[.slice _ ((l0.take ((wrap64 (x7_1 + 1)) : Int).toNat).drop (x7_1 : Int).toNat).length _]) (by rw [HLn_.out]) ?_; (with_reducible refine (wicketmanlaw08_Line.calls k1 _ _ ((l0.take ((wrap64 (x7_1 + 1)) : Int).toNat).drop (x7_1 : Int).toNat) t447 _ ?side1 ?side2 A12.out).mono ?_); (case side1 => repeat (first | exact (Kd.C_below HR446.out HB.out) | (with_reducible refine Kd.C_alloc ?_ _) | (with_reducible refine Kd.C_drewN ?_ _) | (with_reducible refine Kd.C_drew ?_))); (case side2 => exact HC446.out); rintro e w18 ⟨rfl, hb⟩; have n0_ := Aside0.mk (Kd.R_below (by (with_reducible repeat (first | apply Kd.R_alloc | apply Kd.R_drewN | apply Kd.R_drew)); exact HO_6.out) hb); have n1_ := Aside0.mk (below_step (by repeat (first | (with_reducible first | apply bA | apply bN | apply bD) | exact HB.out)) hb); clear HO_6; clear HB; have HO_6 := n0_; have HB := n1_; clear n0_ n1_; (try clear hb); (try clear hb2); (try clear hk); (try clear hi)) | ((with_reducible refine gate_builtin (b := .append) (xs := #[.tmp 37, .tmp 39]) rfl ?_); (try (refine gate_guard (by rfl) ?_; dsimp only)); at_builtin; refine Kd.R_append Kd.string (w0 := w) w.heap.size rfl (.tmp 37) (.tmp 39) 31 9 (.string ⟨#[]⟩) 16 rfl Tryd.underlying31 info9 rfl (by decide) (by omega) u6 x6_1 ((⟨#[108]⟩ : ByteArray) ++ t447) [.string ((⟨#[108]⟩ : ByteArray) ++ t447)] (fun _ => True) (fun _ => False) rfl rfl ?aP (fun _ hk => hk.elim) ?aF ?aO ?aB ?aS ?aL ?_; (case aP => exact rfl); (case aB => exact (by repeat (first | (with_reducible first | apply bA | apply bN | apply bD) | exact HB.out))); (case aF => exact (fun _ _ => trivial)); (case aO => exact (by (with_reducible repeat (first | apply Kd.R_alloc | apply Kd.R_drewN | apply Kd.R_drew)); exact HO_6.out)); (case aS => exact (below_size (by repeat (first | (with_reducible first | apply bA | apply bN | apply bD) | exact HB.out)))); (case aL => have := LMc14.out; omega); intro v449 w19 ho hb hg hat; rw [← Ny448.out] at ho; have n0_ := Aside0.mk (hb); have n1_ := Aside0.mk (ho); clear HB; clear HO_6; have HB := n0_; have HO450 := n1_; clear n0_ n1_; clear ho hb hg hat))
              repeat (go_quiet (first | (go_at_call 22; refine calls_of_args (args' := #[.slice _ ((l0.take ((wrap64 (x7_1 + 1)) : Int).toNat).drop (x7_1 : Int).toNat).length _]) (by rw [HLn_.out]) ?_; (with_reducible refine (wicketmanlaw08_Line.calls k1 _ _ ((l0.take ((wrap64 (x7_1 + 1)) : Int).toNat).drop (x7_1 : Int).toNat) t447 _ ?side1 ?side2 A12.out).mono ?_); (case side1 => repeat (first | exact (Kd.C_below HR446.out HB.out) | (with_reducible refine Kd.C_alloc ?_ _) | (with_reducible refine Kd.C_drewN ?_ _) | (with_reducible refine Kd.C_drew ?_))); (case side2 => exact HC446.out); rintro e w18 ⟨rfl, hb⟩; have n0_ := Aside0.mk (Kd.R_below (by (with_reducible repeat (first | apply Kd.R_alloc | apply Kd.R_drewN | apply Kd.R_drew)); exact HO_6.out) hb); have n1_ := Aside0.mk (below_step (by repeat (first | (with_reducible first | apply bA | apply bN | apply bD) | exact HB.out)) hb); clear HO_6; clear HB; have HO_6 := n0_; have HB := n1_; clear n0_ n1_; (try clear hb); (try clear hb2); (try clear hk); (try clear hi)) | ((with_reducible refine gate_builtin (b := .append) (xs := #[.tmp 37, .tmp 39]) rfl ?_); (try (refine gate_guard (by rfl) ?_; dsimp only)); at_builtin; refine Kd.R_append Kd.string (w0 := w) w.heap.size rfl (.tmp 37) (.tmp 39) 31 9 (.string ⟨#[]⟩) 16 rfl Tryd.underlying31 info9 rfl (by decide) (by omega) u6 x6_1 ((⟨#[108]⟩ : ByteArray) ++ t447) [.string ((⟨#[108]⟩ : ByteArray) ++ t447)] (fun _ => True) (fun _ => False) rfl rfl ?aP (fun _ hk => hk.elim) ?aF ?aO ?aB ?aS ?aL ?_; (case aP => exact rfl); (case aB => exact (by repeat (first | (with_reducible first | apply bA | apply bN | apply bD) | exact HB.out))); (case aF => exact (fun _ _ => trivial)); (case aO => exact (by (with_reducible repeat (first | apply Kd.R_alloc | apply Kd.R_drewN | apply Kd.R_drew)); exact HO_6.out)); (case aS => exact (below_size (by repeat (first | (with_reducible first | apply bA | apply bN | apply bD) | exact HB.out)))); (case aL => have := LMc14.out; omega); intro v449 w19 ho hb hg hat; rw [← Ny448.out] at ho; have n0_ := Aside0.mk (hb); have n1_ := Aside0.mk (ho); clear HB; clear HO_6; have HB := n0_; have HO450 := n1_; clear n0_ n1_; clear ho hb hg hat)); try go_wp2_with (first | (go_at_call 22; refine calls_of_args (args' := #[.slice _ ((l0.take ((wrap64 (x7_1 + 1)) : Int).toNat).drop (x7_1 : Int).toNat).length _]) (by rw [HLn_.out]) ?_; (with_reducible refine (wicketmanlaw08_Line.calls k1 _ _ ((l0.take ((wrap64 (x7_1 + 1)) : Int).toNat).drop (x7_1 : Int).toNat) t447 _ ?side1 ?side2 A12.out).mono ?_); (case side1 => repeat (first | exact (Kd.C_below HR446.out HB.out) | (with_reducible refine Kd.C_alloc ?_ _) | (with_reducible refine Kd.C_drewN ?_ _) | (with_reducible refine Kd.C_drew ?_))); (case side2 => exact HC446.out); rintro e w18 ⟨rfl, hb⟩; have n0_ := Aside0.mk (Kd.R_below (by (with_reducible repeat (first | apply Kd.R_alloc | apply Kd.R_drewN | apply Kd.R_drew)); exact HO_6.out) hb); have n1_ := Aside0.mk (below_step (by repeat (first | (with_reducible first | apply bA | apply bN | apply bD) | exact HB.out)) hb); clear HO_6; clear HB; have HO_6 := n0_; have HB := n1_; clear n0_ n1_; (try clear hb); (try clear hb2); (try clear hk); (try clear hi)) | ((with_reducible refine gate_builtin (b := .append) (xs := #[.tmp 37, .tmp 39]) rfl ?_); (try (refine gate_guard (by rfl) ?_; dsimp only)); at_builtin; refine Kd.R_append Kd.string (w0 := w) w.heap.size rfl (.tmp 37) (.tmp 39) 31 9 (.string ⟨#[]⟩) 16 rfl Tryd.underlying31 info9 rfl (by decide) (by omega) u6 x6_1 ((⟨#[108]⟩ : ByteArray) ++ t447) [.string ((⟨#[108]⟩ : ByteArray) ++ t447)] (fun _ => True) (fun _ => False) rfl rfl ?aP (fun _ hk => hk.elim) ?aF ?aO ?aB ?aS ?aL ?_; (case aP => exact rfl); (case aB => exact (by repeat (first | (with_reducible first | apply bA | apply bN | apply bD) | exact HB.out))); (case aF => exact (fun _ _ => trivial)); (case aO => exact (by (with_reducible repeat (first | apply Kd.R_alloc | apply Kd.R_drewN | apply Kd.R_drew)); exact HO_6.out)); (case aS => exact (below_size (by repeat (first | (with_reducible first | apply bA | apply bN | apply bD) | exact HB.out)))); (case aL => have := LMc14.out; omega); intro v449 w19 ho hb hg hat; rw [← Ny448.out] at ho; have n0_ := Aside0.mk (hb); have n1_ := Aside0.mk (ho); clear HB; clear HO_6; have HB := n0_; have HO450 := n1_; clear n0_ n1_; clear ho hb hg hat)))
              go_roundg k1
              case measure => have := HK1.out; omega
              case rel => exact ⟨((x5_1 ++ ((⟨#[108]⟩ : ByteArray) ++ t447)) ++ (⟨#[13, 10]⟩ : ByteArray)), (y448), (wrap64 (x7_1 + 1)), (by first | rfl | (simp; done) | (simp [*]; done)), (by first | rfl | (simp; done) | (simp [*]; done)), H', ⟨by have := HK1.out; omega⟩, ⟨by (with_reducible repeat (first | apply Kd.R_alloc | apply Kd.R_drewN | apply Kd.R_drew)); exact HO450.out⟩, ⟨by repeat (first | (with_reducible first | apply bA | apply bN | apply bD) | exact HB.out)⟩⟩
             ·rw [if_neg c16] at H
              exact absurd H (by simp)
            ·rw [if_neg c15] at H
             exact absurd H (by simp)
           ·rw [if_neg c14] at H
            exact absurd H (by simp)
          ·rw [if_neg c13] at H
           exact absurd H (by simp)
         ·rw [if_neg c11] at H
          exact absurd H (by simp)
        ·rw [if_neg c10] at H
         exact absurd H (by simp)
       ·rw [if_neg c9] at H
        exact absurd H (by simp)
      ·rw [if_neg c8] at H
       have c8b0 : decide (x7_1 < 10) = false := decide_eq_false c8
       clear c8
       have H' := Aside0.mk H
       clear H
       go_wp2
       repeat (go_quiet (fail); try go_wp2)
       go_meet
       case rel => exact ⟨_, (x5_1), (x6_1), (by first | rfl | (simp; done) | (simp [*]; done)), H', ⟨by have := HK1.out; first | omega | exact Nat.le_refl _⟩, ⟨by (with_reducible repeat (first | apply Kd.R_alloc | apply Kd.R_drewN | apply Kd.R_drew)); exact HO_6.out⟩, ⟨by repeat (first | (with_reducible first | apply bA | apply bN | apply bD) | exact HB.out)⟩⟩
     ·rw [if_neg c7] at H
      have c7b0 : decide (x7_1 < (l0.length : Int)) = false := decide_eq_false c7
      clear c7
      (first | rw [c7b0] | (simp only [i64_w, i32_w]; rw [c7b0]) | skip)
      have H' := Aside0.mk H
      clear H
      go_wp2
      repeat (go_quiet (fail); try go_wp2)
      go_meet
      case rel => exact ⟨_, (x5_1), (x6_1), (by first | rfl | (simp; done) | (simp [*]; done)), H', ⟨by have := HK1.out; first | omega | exact Nat.le_refl _⟩, ⟨by (with_reducible repeat (first | apply Kd.R_alloc | apply Kd.R_drewN | apply Kd.R_drew)); exact HO_6.out⟩, ⟨by repeat (first | (with_reducible first | apply bA | apply bN | apply bD) | exact HB.out)⟩⟩
  case rest =>
   clear HC6
   try clear c1
   try clear p2
   try clear c3
   try clear c3b0
   try clear c3b1
   try clear p6
   try clear c7
   try clear c7b0
   try clear c8
   try clear c8b0
   try clear c9
   try clear c9b0
   try clear c9b1
   try clear c10
   try clear c10b0
   try clear c10b1
   try clear c11
   try clear c11b0
   try clear c11b1
   try clear c13
   try clear c13b0
   try clear c13b1
   try clear c13b2
   try clear c14
   try clear c15
   try clear c15b0
   try clear c15b1
   try clear c15b2
   try clear c16
   try clear c16b0
   try clear c16b1
   try clear c16b2
   try clear p2
   obtain ⟨kq, x5_5, x6_5, rfl, HA, HJ5, HO_6, HB⟩ := hcut
   cases kq with
   | zero => exact absurd HA.out (by simp [wicketmanlaw09_HttpLines.j1])
   | succ kj5 =>
    have H := HA.out
    clear HA
    simp only [wicketmanlaw09_HttpLines.j1] at H
    by_cases c20 : x5_5.size + 2 ≤ 9223372036854775807
    ·rw [if_pos c20] at H
     have c20b0 := eq_true c20
     have c20b1 : decide (x5_5.size + 2 ≤ 9223372036854775807) = true := decide_eq_true c20
     try have c20b2 : (9223372036854775807 < x5_5.size + 2) = False := eq_false (Nat.not_lt.2 c20)
     by_cases c21 : (x5_5 ++ (⟨#[13, 10]⟩ : ByteArray)).size + (strOfNums l1).size ≤ 9223372036854775807
     ·rw [if_pos c21] at H
      have c21b0 := eq_true c21
      have c21b1 : decide ((x5_5 ++ (⟨#[13, 10]⟩ : ByteArray)).size + (strOfNums l1).size ≤ 9223372036854775807) = true := decide_eq_true c21
      try have c21b2 : (9223372036854775807 < (x5_5 ++ (⟨#[13, 10]⟩ : ByteArray)).size + (strOfNums l1).size) = False := eq_false (Nat.not_lt.2 c21)
      try (have c21b8 := c21b2; simp only [ByteArray.size_append, show ((⟨#[13, 10]⟩ : ByteArray) : ByteArray).size = 2 from rfl] at c21b8)
      by_cases c22 : ((x5_5 ++ (⟨#[13, 10]⟩ : ByteArray)) ++ (strOfNums l1)).size ≤ 140737488351232
      ·rw [if_pos c22] at H
       have c22b0 := eq_true c22
       have c22b1 : decide (((x5_5 ++ (⟨#[13, 10]⟩ : ByteArray)) ++ (strOfNums l1)).size ≤ 140737488351232) = true := decide_eq_true c22
       obtain ⟨y451, hy451⟩ : ∃ y_ : List Int, y_ = (btsOf ((x5_5 ++ (⟨#[13, 10]⟩ : ByteArray)) ++ (strOfNums l1))) := ⟨_, rfl⟩
       replace H : ((http_Lines.f kj5 y451).bind fun bt454 => (if x5_5.size ≤ 140737488351232 then ((http_Lines.f kj5 (btsOf x5_5)).bind fun bt462 => (if (bt454.1.length : Int) = (x6_5.length : Int) then (wicketmanlaw09_HttpLines.l1 kj5 x5_5 x6_5 bt454.1 bt454.2.1 bt454.2.2 bt462.2.2 0) else (some false))) else (none))) = some r := by first | (rw [hy451]; with_reducible exact H) | (have H2_ := (Option.bind_some _ _).symm.trans H; rw [hy451]; with_reducible exact H2_) | (have H2_ := (Option.bind_some _ _).symm.trans H; with_reducible exact H2_) | with_reducible exact H | (rw [hy451]; exact H) | exact H
       have Ny451 := Aside0.mk hy451
       clear hy451
       replace H := Option.bind_eq_some_iff.mp H
       obtain ⟨⟨t454, t455, t456⟩, A230, H⟩ := H
       try dsimp only at H
       have A23 := Aside0.mk A230
       clear A230
       by_cases c24 : x5_5.size ≤ 140737488351232
       ·rw [if_pos c24] at H
        have c24b0 := eq_true c24
        have c24b1 : decide (x5_5.size ≤ 140737488351232) = true := decide_eq_true c24
        clear c24
        obtain ⟨y459, hy459⟩ : ∃ y_ : List Int, y_ = (btsOf x5_5) := ⟨_, rfl⟩
        replace H : ((http_Lines.f kj5 y459).bind fun bt462 => (if (t454.length : Int) = (x6_5.length : Int) then (wicketmanlaw09_HttpLines.l1 kj5 x5_5 x6_5 t454 t455 t456 bt462.2.2 0) else (some false))) = some r := by first | (rw [hy459]; with_reducible exact H) | (have H2_ := (Option.bind_some _ _).symm.trans H; rw [hy459]; with_reducible exact H2_) | (have H2_ := (Option.bind_some _ _).symm.trans H; with_reducible exact H2_) | with_reducible exact H | (rw [hy459]; exact H) | exact H
        have Ny459 := Aside0.mk hy459
        clear hy459
        replace H := Option.bind_eq_some_iff.mp H
        obtain ⟨⟨t462, t463, t464⟩, A250, H⟩ := H
        try dsimp only at H
        have A25 := Aside0.mk A250
        clear A250
        by_cases c26 : (t454.length : Int) = (x6_5.length : Int)
        ·rw [if_pos c26] at H
         have c26b0 : ((t454.length : Int) == (x6_5.length : Int)) = true := beq_iff_eq.mpr c26
         have c26b1 : ((t454.length : Int) != (x6_5.length : Int)) = false := bne_eq_false_iff_eq.mpr c26
         have c26b2 : (t454.length == x6_5.length) = true := by first | simpa using c26 | (simp at c26 ⊢; omega)
         clear c26
         have H' := Aside0.mk H
         clear H
         have hcv27 := Kd.C_string (P := Tryd.prog) (A := A1) (c := c1) Tryd.underlying22 Tryd.underlying5 Tryd.underlying9 (Kd.C_below HR1.out HB.out)
         have hcv27n := fun n_ : Nat => Kd.C_string (P := Tryd.prog) (A := A1) (c := c1) Tryd.underlying22 Tryd.underlying5 Tryd.underlying9 (Kd.C_drewN (Kd.C_below HR1.out HB.out) n_)
         go_wp2_with (first | ((with_reducible refine gate_dst (N := 51) rfl ?_); (try (refine gate_guard (by rfl) ?_; dsimp only)); refine conv_own rfl (N := 51) rfl (ts := 9) (td := 22) ((x5_5 ++ (⟨#[13, 10]⟩ : ByteArray)) ++ (strOfNums l1)) rfl ?hx Tryd.underlying9 Tryd.underlying22 Tryd.underlying5 ?hs ?_; (case hx => first | rfl | (go_simp; done) | (go_simp; rfl)); (case hs => first | (with_reducible assumption) | exact of_decide_eq_true (by first | (with_reducible assumption) | assumption) | decide | (simp only [ByteArray.size_append] at *; omega)); intro v452 w28 ho29 hb; (first | rw [← Ny451.out] at ho29 | simp only [← Ny451.out] at ho29); have n0_ := Aside0.mk (Kd.R_below (by (with_reducible repeat (first | apply Kd.R_alloc | apply Kd.R_drewN | apply Kd.R_drew)); exact HO_6.out) hb); have n1_ := Aside0.mk (Kd.V_lower (Kd.V_mono (ok' := fun k_ => some k_ ≠ (u6 : Value).ownBlock) ho29 (fun k_ hk_ => (Kd.fresh' (Kd.R_lt (by (with_reducible repeat (first | apply Kd.R_alloc | apply Kd.R_drewN | apply Kd.R_drew)); exact HO_6.out)) k_ hk_))) (below_size (by repeat (first | (with_reducible first | apply bA | apply bN | apply bD) | exact HB.out)))); have n2_ := Aside0.mk (below_step (by repeat (first | (with_reducible first | apply bA | apply bN | apply bD) | exact HB.out)) hb); clear HO_6; clear HB; have HO_6 := n0_; have HO453 := n1_; have HB := n2_; clear n0_ n1_ n2_; clear hb ho29; obtain ⟨Ao30, co30, eo30⟩ := Kd.V_slice HO453.out; subst eo30) | (go_at_call 25; (with_reducible refine (http_Lines.calls kj5 _ _ y451 t454 t455 t456 _ ?side1 ?side2 (by first | exact hS | (refine Sh.of_below hS ?_; repeat (first | (with_reducible first | apply bA | apply bN | apply bD) | exact HB.out | refine Below.setCell ?_ (Aside0.out (by assumption)) _)) | (refine Sh.of_below hS ?_; assumption)) A23.out).mono ?_); (case side1 => repeat (first | exact (Kd.V_reads' HO453.out).2.2 | (with_reducible refine Kd.C_alloc ?_ _) | (with_reducible refine Kd.C_drewN ?_ _) | (with_reducible refine Kd.C_drew ?_))); (case side2 => exact (Kd.V_reads' HO453.out).2.1); rintro e w31 ⟨v457, rfl, ho0, hb⟩; have n0_ := Aside0.mk (Kd.R_elder' (by (with_reducible repeat (first | apply Kd.R_alloc | apply Kd.R_drewN | apply Kd.R_drew)); exact HO_6.out) (Kd.R_base ho0) hb); have n1_ := Aside0.mk (Kd.V_elder' (by (with_reducible repeat (first | apply Kd.V_alloc | apply Kd.V_drewN | apply Kd.V_drew)); exact HO453.out) (Kd.R_base ho0) hb); have n2_ := Aside0.mk (Kd.R_lower (Kd.R_new' ho0 (Kd.R_lt (by (with_reducible repeat (first | apply Kd.R_alloc | apply Kd.R_drewN | apply Kd.R_drew)); exact HO_6.out))) (below_size (by repeat (first | (with_reducible first | apply bA | apply bN | apply bD) | exact HB.out)))); have n3_ := Aside0.mk (below_step (by repeat (first | (with_reducible first | apply bA | apply bN | apply bD) | exact HB.out)) hb); clear HO_6; clear HO453; clear HB; have HO_6 := n0_; have HO453 := n1_; have HO458 := n2_; have HB := n3_; clear n0_ n1_ n2_ n3_; (try clear hb); (try clear hb2); (try clear hk); (try clear hi); (try clear ho0)) | ((with_reducible refine gate_dst (N := 58) rfl ?_); (try (refine gate_guard (by rfl) ?_; dsimp only)); refine conv_own rfl (N := 58) rfl (ts := 9) (td := 22) x5_5 rfl ?hx Tryd.underlying9 Tryd.underlying22 Tryd.underlying5 ?hs ?_; (case hx => first | rfl | (go_simp; done) | (go_simp; rfl)); (case hs => first | (with_reducible assumption) | exact of_decide_eq_true (by first | (with_reducible assumption) | assumption) | decide | (simp only [ByteArray.size_append] at *; omega)); intro v460 w32 ho33 hb; (first | rw [← Ny459.out] at ho33 | simp only [← Ny459.out] at ho33); have n0_ := Aside0.mk (Kd.R_below (by (with_reducible repeat (first | apply Kd.R_alloc | apply Kd.R_drewN | apply Kd.R_drew)); exact HO_6.out) hb); have n1_ := Aside0.mk (Kd.V_below (by (with_reducible repeat (first | apply Kd.V_alloc | apply Kd.V_drewN | apply Kd.V_drew)); exact HO453.out) hb); have n2_ := Aside0.mk (Kd.R_below (by (with_reducible repeat (first | apply Kd.R_alloc | apply Kd.R_drewN | apply Kd.R_drew)); exact HO458.out) hb); have n3_ := Aside0.mk (Kd.V_lower (Kd.V_mono (ok' := fun k_ => some k_ ≠ (u6 : Value).ownBlock ∧ some k_ ≠ (v457 : Value).ownBlock) ho33 (fun k_ hk_ => ⟨(Kd.fresh' (Kd.R_lt (by (with_reducible repeat (first | apply Kd.R_alloc | apply Kd.R_drewN | apply Kd.R_drew)); exact HO_6.out)) k_ hk_), (Kd.fresh' (Kd.R_lt (by (with_reducible repeat (first | apply Kd.R_alloc | apply Kd.R_drewN | apply Kd.R_drew)); exact HO458.out)) k_ hk_)⟩)) (below_size (by repeat (first | (with_reducible first | apply bA | apply bN | apply bD) | exact HB.out)))); have n4_ := Aside0.mk (below_step (by repeat (first | (with_reducible first | apply bA | apply bN | apply bD) | exact HB.out)) hb); clear HO_6; clear HO453; clear HO458; clear HB; have HO_6 := n0_; have HO453 := n1_; have HO458 := n2_; have HO461 := n3_; have HB := n4_; clear n0_ n1_ n2_ n3_ n4_; clear hb ho33; obtain ⟨Ao34, co34, eo34⟩ := Kd.V_slice HO461.out; subst eo34) | (go_at_call 25; (with_reducible refine (http_Lines.calls kj5 _ _ y459 t462 t463 t464 _ ?side1 ?side2 (by first | exact hS | (refine Sh.of_below hS ?_; repeat (first | (with_reducible first | apply bA | apply bN | apply bD) | exact HB.out | refine Below.setCell ?_ (Aside0.out (by assumption)) _)) | (refine Sh.of_below hS ?_; assumption)) A25.out).mono ?_); (case side1 => repeat (first | exact (Kd.V_reads' HO461.out).2.2 | (with_reducible refine Kd.C_alloc ?_ _) | (with_reducible refine Kd.C_drewN ?_ _) | (with_reducible refine Kd.C_drew ?_))); (case side2 => exact (Kd.V_reads' HO461.out).2.1); rintro e w35 ⟨v465, rfl, ho0, hb⟩; have n0_ := Aside0.mk (Kd.R_elder' (by (with_reducible repeat (first | apply Kd.R_alloc | apply Kd.R_drewN | apply Kd.R_drew)); exact HO_6.out) (Kd.R_base ho0) hb); have n1_ := Aside0.mk (Kd.V_elder' (by (with_reducible repeat (first | apply Kd.V_alloc | apply Kd.V_drewN | apply Kd.V_drew)); exact HO453.out) (Kd.R_base ho0) hb); have n2_ := Aside0.mk (Kd.R_elder' (by (with_reducible repeat (first | apply Kd.R_alloc | apply Kd.R_drewN | apply Kd.R_drew)); exact HO458.out) (Kd.R_base ho0) hb); have n3_ := Aside0.mk (Kd.V_elder' (by (with_reducible repeat (first | apply Kd.V_alloc | apply Kd.V_drewN | apply Kd.V_drew)); exact HO461.out) (Kd.R_base ho0) hb); have n4_ := Aside0.mk (Kd.R_lower (Kd.R_new' (Kd.R_new' ho0 (Kd.R_lt (by (with_reducible repeat (first | apply Kd.R_alloc | apply Kd.R_drewN | apply Kd.R_drew)); exact HO_6.out))) (Kd.R_lt (by (with_reducible repeat (first | apply Kd.R_alloc | apply Kd.R_drewN | apply Kd.R_drew)); exact HO458.out))) (below_size (by repeat (first | (with_reducible first | apply bA | apply bN | apply bD) | exact HB.out)))); have n5_ := Aside0.mk (below_step (by repeat (first | (with_reducible first | apply bA | apply bN | apply bD) | exact HB.out)) hb); clear HO_6; clear HO453; clear HO458; clear HO461; clear HB; have HO_6 := n0_; have HO453 := n1_; have HO458 := n2_; have HO461 := n3_; have HO466 := n4_; have HB := n5_; clear n0_ n1_ n2_ n3_ n4_ n5_; (try clear hb); (try clear hb2); (try clear hk); (try clear hi); (try clear ho0); obtain ⟨Ao36, co36, eo36⟩ := Kd.R_slice HO458.out; subst eo36; obtain ⟨Ao37, co37, eo37⟩ := Kd.R_slice HO_6.out; subst eo37))
         repeat (go_quiet (first | ((with_reducible refine gate_dst (N := 51) rfl ?_); (try (refine gate_guard (by rfl) ?_; dsimp only)); refine conv_own rfl (N := 51) rfl (ts := 9) (td := 22) ((x5_5 ++ (⟨#[13, 10]⟩ : ByteArray)) ++ (strOfNums l1)) rfl ?hx Tryd.underlying9 Tryd.underlying22 Tryd.underlying5 ?hs ?_; (case hx => first | rfl | (go_simp; done) | (go_simp; rfl)); (case hs => first | (with_reducible assumption) | exact of_decide_eq_true (by first | (with_reducible assumption) | assumption) | decide | (simp only [ByteArray.size_append] at *; omega)); intro v452 w28 ho29 hb; (first | rw [← Ny451.out] at ho29 | simp only [← Ny451.out] at ho29); have n0_ := Aside0.mk (Kd.R_below (by (with_reducible repeat (first | apply Kd.R_alloc | apply Kd.R_drewN | apply Kd.R_drew)); exact HO_6.out) hb); have n1_ := Aside0.mk (Kd.V_lower (Kd.V_mono (ok' := fun k_ => some k_ ≠ (u6 : Value).ownBlock) ho29 (fun k_ hk_ => (Kd.fresh' (Kd.R_lt (by (with_reducible repeat (first | apply Kd.R_alloc | apply Kd.R_drewN | apply Kd.R_drew)); exact HO_6.out)) k_ hk_))) (below_size (by repeat (first | (with_reducible first | apply bA | apply bN | apply bD) | exact HB.out)))); have n2_ := Aside0.mk (below_step (by repeat (first | (with_reducible first | apply bA | apply bN | apply bD) | exact HB.out)) hb); clear HO_6; clear HB; have HO_6 := n0_; have HO453 := n1_; have HB := n2_; clear n0_ n1_ n2_; clear hb ho29; obtain ⟨Ao30, co30, eo30⟩ := Kd.V_slice HO453.out; subst eo30) | (go_at_call 25; (with_reducible refine (http_Lines.calls kj5 _ _ y451 t454 t455 t456 _ ?side1 ?side2 (by first | exact hS | (refine Sh.of_below hS ?_; repeat (first | (with_reducible first | apply bA | apply bN | apply bD) | exact HB.out | refine Below.setCell ?_ (Aside0.out (by assumption)) _)) | (refine Sh.of_below hS ?_; assumption)) A23.out).mono ?_); (case side1 => repeat (first | exact (Kd.V_reads' HO453.out).2.2 | (with_reducible refine Kd.C_alloc ?_ _) | (with_reducible refine Kd.C_drewN ?_ _) | (with_reducible refine Kd.C_drew ?_))); (case side2 => exact (Kd.V_reads' HO453.out).2.1); rintro e w31 ⟨v457, rfl, ho0, hb⟩; have n0_ := Aside0.mk (Kd.R_elder' (by (with_reducible repeat (first | apply Kd.R_alloc | apply Kd.R_drewN | apply Kd.R_drew)); exact HO_6.out) (Kd.R_base ho0) hb); have n1_ := Aside0.mk (Kd.V_elder' (by (with_reducible repeat (first | apply Kd.V_alloc | apply Kd.V_drewN | apply Kd.V_drew)); exact HO453.out) (Kd.R_base ho0) hb); have n2_ := Aside0.mk (Kd.R_lower (Kd.R_new' ho0 (Kd.R_lt (by (with_reducible repeat (first | apply Kd.R_alloc | apply Kd.R_drewN | apply Kd.R_drew)); exact HO_6.out))) (below_size (by repeat (first | (with_reducible first | apply bA | apply bN | apply bD) | exact HB.out)))); have n3_ := Aside0.mk (below_step (by repeat (first | (with_reducible first | apply bA | apply bN | apply bD) | exact HB.out)) hb); clear HO_6; clear HO453; clear HB; have HO_6 := n0_; have HO453 := n1_; have HO458 := n2_; have HB := n3_; clear n0_ n1_ n2_ n3_; (try clear hb); (try clear hb2); (try clear hk); (try clear hi); (try clear ho0)) | ((with_reducible refine gate_dst (N := 58) rfl ?_); (try (refine gate_guard (by rfl) ?_; dsimp only)); refine conv_own rfl (N := 58) rfl (ts := 9) (td := 22) x5_5 rfl ?hx Tryd.underlying9 Tryd.underlying22 Tryd.underlying5 ?hs ?_; (case hx => first | rfl | (go_simp; done) | (go_simp; rfl)); (case hs => first | (with_reducible assumption) | exact of_decide_eq_true (by first | (with_reducible assumption) | assumption) | decide | (simp only [ByteArray.size_append] at *; omega)); intro v460 w32 ho33 hb; (first | rw [← Ny459.out] at ho33 | simp only [← Ny459.out] at ho33); have n0_ := Aside0.mk (Kd.R_below (by (with_reducible repeat (first | apply Kd.R_alloc | apply Kd.R_drewN | apply Kd.R_drew)); exact HO_6.out) hb); have n1_ := Aside0.mk (Kd.V_below (by (with_reducible repeat (first | apply Kd.V_alloc | apply Kd.V_drewN | apply Kd.V_drew)); exact HO453.out) hb); have n2_ := Aside0.mk (Kd.R_below (by (with_reducible repeat (first | apply Kd.R_alloc | apply Kd.R_drewN | apply Kd.R_drew)); exact HO458.out) hb); have n3_ := Aside0.mk (Kd.V_lower (Kd.V_mono (ok' := fun k_ => some k_ ≠ (u6 : Value).ownBlock ∧ some k_ ≠ (v457 : Value).ownBlock) ho33 (fun k_ hk_ => ⟨(Kd.fresh' (Kd.R_lt (by (with_reducible repeat (first | apply Kd.R_alloc | apply Kd.R_drewN | apply Kd.R_drew)); exact HO_6.out)) k_ hk_), (Kd.fresh' (Kd.R_lt (by (with_reducible repeat (first | apply Kd.R_alloc | apply Kd.R_drewN | apply Kd.R_drew)); exact HO458.out)) k_ hk_)⟩)) (below_size (by repeat (first | (with_reducible first | apply bA | apply bN | apply bD) | exact HB.out)))); have n4_ := Aside0.mk (below_step (by repeat (first | (with_reducible first | apply bA | apply bN | apply bD) | exact HB.out)) hb); clear HO_6; clear HO453; clear HO458; clear HB; have HO_6 := n0_; have HO453 := n1_; have HO458 := n2_; have HO461 := n3_; have HB := n4_; clear n0_ n1_ n2_ n3_ n4_; clear hb ho33; obtain ⟨Ao34, co34, eo34⟩ := Kd.V_slice HO461.out; subst eo34) | (go_at_call 25; (with_reducible refine (http_Lines.calls kj5 _ _ y459 t462 t463 t464 _ ?side1 ?side2 (by first | exact hS | (refine Sh.of_below hS ?_; repeat (first | (with_reducible first | apply bA | apply bN | apply bD) | exact HB.out | refine Below.setCell ?_ (Aside0.out (by assumption)) _)) | (refine Sh.of_below hS ?_; assumption)) A25.out).mono ?_); (case side1 => repeat (first | exact (Kd.V_reads' HO461.out).2.2 | (with_reducible refine Kd.C_alloc ?_ _) | (with_reducible refine Kd.C_drewN ?_ _) | (with_reducible refine Kd.C_drew ?_))); (case side2 => exact (Kd.V_reads' HO461.out).2.1); rintro e w35 ⟨v465, rfl, ho0, hb⟩; have n0_ := Aside0.mk (Kd.R_elder' (by (with_reducible repeat (first | apply Kd.R_alloc | apply Kd.R_drewN | apply Kd.R_drew)); exact HO_6.out) (Kd.R_base ho0) hb); have n1_ := Aside0.mk (Kd.V_elder' (by (with_reducible repeat (first | apply Kd.V_alloc | apply Kd.V_drewN | apply Kd.V_drew)); exact HO453.out) (Kd.R_base ho0) hb); have n2_ := Aside0.mk (Kd.R_elder' (by (with_reducible repeat (first | apply Kd.R_alloc | apply Kd.R_drewN | apply Kd.R_drew)); exact HO458.out) (Kd.R_base ho0) hb); have n3_ := Aside0.mk (Kd.V_elder' (by (with_reducible repeat (first | apply Kd.V_alloc | apply Kd.V_drewN | apply Kd.V_drew)); exact HO461.out) (Kd.R_base ho0) hb); have n4_ := Aside0.mk (Kd.R_lower (Kd.R_new' (Kd.R_new' ho0 (Kd.R_lt (by (with_reducible repeat (first | apply Kd.R_alloc | apply Kd.R_drewN | apply Kd.R_drew)); exact HO_6.out))) (Kd.R_lt (by (with_reducible repeat (first | apply Kd.R_alloc | apply Kd.R_drewN | apply Kd.R_drew)); exact HO458.out))) (below_size (by repeat (first | (with_reducible first | apply bA | apply bN | apply bD) | exact HB.out)))); have n5_ := Aside0.mk (below_step (by repeat (first | (with_reducible first | apply bA | apply bN | apply bD) | exact HB.out)) hb); clear HO_6; clear HO453; clear HO458; clear HO461; clear HB; have HO_6 := n0_; have HO453 := n1_; have HO458 := n2_; have HO461 := n3_; have HO466 := n4_; have HB := n5_; clear n0_ n1_ n2_ n3_ n4_ n5_; (try clear hb); (try clear hb2); (try clear hk); (try clear hi); (try clear ho0); obtain ⟨Ao36, co36, eo36⟩ := Kd.R_slice HO458.out; subst eo36; obtain ⟨Ao37, co37, eo37⟩ := Kd.R_slice HO_6.out; subst eo37)); try go_wp2_with (first | ((with_reducible refine gate_dst (N := 51) rfl ?_); (try (refine gate_guard (by rfl) ?_; dsimp only)); refine conv_own rfl (N := 51) rfl (ts := 9) (td := 22) ((x5_5 ++ (⟨#[13, 10]⟩ : ByteArray)) ++ (strOfNums l1)) rfl ?hx Tryd.underlying9 Tryd.underlying22 Tryd.underlying5 ?hs ?_; (case hx => first | rfl | (go_simp; done) | (go_simp; rfl)); (case hs => first | (with_reducible assumption) | exact of_decide_eq_true (by first | (with_reducible assumption) | assumption) | decide | (simp only [ByteArray.size_append] at *; omega)); intro v452 w28 ho29 hb; (first | rw [← Ny451.out] at ho29 | simp only [← Ny451.out] at ho29); have n0_ := Aside0.mk (Kd.R_below (by (with_reducible repeat (first | apply Kd.R_alloc | apply Kd.R_drewN | apply Kd.R_drew)); exact HO_6.out) hb); have n1_ := Aside0.mk (Kd.V_lower (Kd.V_mono (ok' := fun k_ => some k_ ≠ (u6 : Value).ownBlock) ho29 (fun k_ hk_ => (Kd.fresh' (Kd.R_lt (by (with_reducible repeat (first | apply Kd.R_alloc | apply Kd.R_drewN | apply Kd.R_drew)); exact HO_6.out)) k_ hk_))) (below_size (by repeat (first | (with_reducible first | apply bA | apply bN | apply bD) | exact HB.out)))); have n2_ := Aside0.mk (below_step (by repeat (first | (with_reducible first | apply bA | apply bN | apply bD) | exact HB.out)) hb); clear HO_6; clear HB; have HO_6 := n0_; have HO453 := n1_; have HB := n2_; clear n0_ n1_ n2_; clear hb ho29; obtain ⟨Ao30, co30, eo30⟩ := Kd.V_slice HO453.out; subst eo30) | (go_at_call 25; (with_reducible refine (http_Lines.calls kj5 _ _ y451 t454 t455 t456 _ ?side1 ?side2 (by first | exact hS | (refine Sh.of_below hS ?_; repeat (first | (with_reducible first | apply bA | apply bN | apply bD) | exact HB.out | refine Below.setCell ?_ (Aside0.out (by assumption)) _)) | (refine Sh.of_below hS ?_; assumption)) A23.out).mono ?_); (case side1 => repeat (first | exact (Kd.V_reads' HO453.out).2.2 | (with_reducible refine Kd.C_alloc ?_ _) | (with_reducible refine Kd.C_drewN ?_ _) | (with_reducible refine Kd.C_drew ?_))); (case side2 => exact (Kd.V_reads' HO453.out).2.1); rintro e w31 ⟨v457, rfl, ho0, hb⟩; have n0_ := Aside0.mk (Kd.R_elder' (by (with_reducible repeat (first | apply Kd.R_alloc | apply Kd.R_drewN | apply Kd.R_drew)); exact HO_6.out) (Kd.R_base ho0) hb); have n1_ := Aside0.mk (Kd.V_elder' (by (with_reducible repeat (first | apply Kd.V_alloc | apply Kd.V_drewN | apply Kd.V_drew)); exact HO453.out) (Kd.R_base ho0) hb); have n2_ := Aside0.mk (Kd.R_lower (Kd.R_new' ho0 (Kd.R_lt (by (with_reducible repeat (first | apply Kd.R_alloc | apply Kd.R_drewN | apply Kd.R_drew)); exact HO_6.out))) (below_size (by repeat (first | (with_reducible first | apply bA | apply bN | apply bD) | exact HB.out)))); have n3_ := Aside0.mk (below_step (by repeat (first | (with_reducible first | apply bA | apply bN | apply bD) | exact HB.out)) hb); clear HO_6; clear HO453; clear HB; have HO_6 := n0_; have HO453 := n1_; have HO458 := n2_; have HB := n3_; clear n0_ n1_ n2_ n3_; (try clear hb); (try clear hb2); (try clear hk); (try clear hi); (try clear ho0)) | ((with_reducible refine gate_dst (N := 58) rfl ?_); (try (refine gate_guard (by rfl) ?_; dsimp only)); refine conv_own rfl (N := 58) rfl (ts := 9) (td := 22) x5_5 rfl ?hx Tryd.underlying9 Tryd.underlying22 Tryd.underlying5 ?hs ?_; (case hx => first | rfl | (go_simp; done) | (go_simp; rfl)); (case hs => first | (with_reducible assumption) | exact of_decide_eq_true (by first | (with_reducible assumption) | assumption) | decide | (simp only [ByteArray.size_append] at *; omega)); intro v460 w32 ho33 hb; (first | rw [← Ny459.out] at ho33 | simp only [← Ny459.out] at ho33); have n0_ := Aside0.mk (Kd.R_below (by (with_reducible repeat (first | apply Kd.R_alloc | apply Kd.R_drewN | apply Kd.R_drew)); exact HO_6.out) hb); have n1_ := Aside0.mk (Kd.V_below (by (with_reducible repeat (first | apply Kd.V_alloc | apply Kd.V_drewN | apply Kd.V_drew)); exact HO453.out) hb); have n2_ := Aside0.mk (Kd.R_below (by (with_reducible repeat (first | apply Kd.R_alloc | apply Kd.R_drewN | apply Kd.R_drew)); exact HO458.out) hb); have n3_ := Aside0.mk (Kd.V_lower (Kd.V_mono (ok' := fun k_ => some k_ ≠ (u6 : Value).ownBlock ∧ some k_ ≠ (v457 : Value).ownBlock) ho33 (fun k_ hk_ => ⟨(Kd.fresh' (Kd.R_lt (by (with_reducible repeat (first | apply Kd.R_alloc | apply Kd.R_drewN | apply Kd.R_drew)); exact HO_6.out)) k_ hk_), (Kd.fresh' (Kd.R_lt (by (with_reducible repeat (first | apply Kd.R_alloc | apply Kd.R_drewN | apply Kd.R_drew)); exact HO458.out)) k_ hk_)⟩)) (below_size (by repeat (first | (with_reducible first | apply bA | apply bN | apply bD) | exact HB.out)))); have n4_ := Aside0.mk (below_step (by repeat (first | (with_reducible first | apply bA | apply bN | apply bD) | exact HB.out)) hb); clear HO_6; clear HO453; clear HO458; clear HB; have HO_6 := n0_; have HO453 := n1_; have HO458 := n2_; have HO461 := n3_; have HB := n4_; clear n0_ n1_ n2_ n3_ n4_; clear hb ho33; obtain ⟨Ao34, co34, eo34⟩ := Kd.V_slice HO461.out; subst eo34) | (go_at_call 25; (with_reducible refine (http_Lines.calls kj5 _ _ y459 t462 t463 t464 _ ?side1 ?side2 (by first | exact hS | (refine Sh.of_below hS ?_; repeat (first | (with_reducible first | apply bA | apply bN | apply bD) | exact HB.out | refine Below.setCell ?_ (Aside0.out (by assumption)) _)) | (refine Sh.of_below hS ?_; assumption)) A25.out).mono ?_); (case side1 => repeat (first | exact (Kd.V_reads' HO461.out).2.2 | (with_reducible refine Kd.C_alloc ?_ _) | (with_reducible refine Kd.C_drewN ?_ _) | (with_reducible refine Kd.C_drew ?_))); (case side2 => exact (Kd.V_reads' HO461.out).2.1); rintro e w35 ⟨v465, rfl, ho0, hb⟩; have n0_ := Aside0.mk (Kd.R_elder' (by (with_reducible repeat (first | apply Kd.R_alloc | apply Kd.R_drewN | apply Kd.R_drew)); exact HO_6.out) (Kd.R_base ho0) hb); have n1_ := Aside0.mk (Kd.V_elder' (by (with_reducible repeat (first | apply Kd.V_alloc | apply Kd.V_drewN | apply Kd.V_drew)); exact HO453.out) (Kd.R_base ho0) hb); have n2_ := Aside0.mk (Kd.R_elder' (by (with_reducible repeat (first | apply Kd.R_alloc | apply Kd.R_drewN | apply Kd.R_drew)); exact HO458.out) (Kd.R_base ho0) hb); have n3_ := Aside0.mk (Kd.V_elder' (by (with_reducible repeat (first | apply Kd.V_alloc | apply Kd.V_drewN | apply Kd.V_drew)); exact HO461.out) (Kd.R_base ho0) hb); have n4_ := Aside0.mk (Kd.R_lower (Kd.R_new' (Kd.R_new' ho0 (Kd.R_lt (by (with_reducible repeat (first | apply Kd.R_alloc | apply Kd.R_drewN | apply Kd.R_drew)); exact HO_6.out))) (Kd.R_lt (by (with_reducible repeat (first | apply Kd.R_alloc | apply Kd.R_drewN | apply Kd.R_drew)); exact HO458.out))) (below_size (by repeat (first | (with_reducible first | apply bA | apply bN | apply bD) | exact HB.out)))); have n5_ := Aside0.mk (below_step (by repeat (first | (with_reducible first | apply bA | apply bN | apply bD) | exact HB.out)) hb); clear HO_6; clear HO453; clear HO458; clear HO461; clear HB; have HO_6 := n0_; have HO453 := n1_; have HO458 := n2_; have HO461 := n3_; have HO466 := n4_; have HB := n5_; clear n0_ n1_ n2_ n3_ n4_ n5_; (try clear hb); (try clear hb2); (try clear hk); (try clear hi); (try clear ho0); obtain ⟨Ao36, co36, eo36⟩ := Kd.R_slice HO458.out; subst eo36; obtain ⟨Ao37, co37, eo37⟩ := Kd.R_slice HO_6.out; subst eo37)))
         go_loopg [15] kj5 (fun kq v15 w' => ∃ (x15_2 : Int), v15 = .int .i64 x15_2 ∧ Aside0 (wicketmanlaw09_HttpLines.l1 kq x5_5 x6_5 t454 t455 t456 t464 x15_2 = some r) ∧ Aside0 (kq ≤ kj5) ∧ Aside0 (Kd.R Kd.string 9 w' w.heap.size (fun k_ => some k_ ≠ ((.slice Ao36 t454.length co36) : Value).ownBlock) (.slice Ao37 x6_5.length co37) x6_5) ∧ Aside0 (Kd.R Kd.string 9 w' w.heap.size (fun k_ => some k_ ≠ ((.slice Ao37 x6_5.length co37) : Value).ownBlock) (.slice Ao36 t454.length co36) t454) ∧ Aside0 (Below w.heap.size w w'))
         case atStart => exact ⟨(0), (by first | rfl | (simp; done) | (simp [*]; done)), H', ⟨Nat.le_refl _⟩, ⟨by (with_reducible repeat (first | apply Kd.R_alloc | apply Kd.R_drewN | apply Kd.R_drew)); exact Kd.R_mono HO_6.out (fun _ hk => hk.1.2)⟩, ⟨by (with_reducible repeat (first | apply Kd.R_alloc | apply Kd.R_drewN | apply Kd.R_drew)); exact Kd.R_mono HO458.out (fun _ hk => hk.1.2)⟩, ⟨by repeat (first | (with_reducible first | apply bA | apply bN | apply bD) | exact HB.out)⟩⟩
         case round =>
          clear H'
          try clear c1
          try clear c2
          try clear p2
          try clear hcv2
          try clear c3
          try clear c3b0
          try clear c3b1
          try clear p6
          try clear c7
          try clear c7b0
          try clear c8
          try clear c8b0
          try clear c9
          try clear c9b0
          try clear c9b1
          try clear c10
          try clear c10b0
          try clear c10b1
          try clear c11
          try clear c11b0
          try clear c11b1
          try clear c13
          try clear c13b0
          try clear c13b1
          try clear c13b2
          try clear c14
          try clear c15
          try clear c15b0
          try clear c15b1
          try clear c15b2
          try clear c16
          try clear c16b0
          try clear c16b1
          try clear c16b2
          try clear c20
          try clear c20b0
          try clear c20b1
          try clear c20b2
          try clear c21
          try clear c21b0
          try clear c21b1
          try clear c21b2
          try clear c22
          try clear c22b0
          try clear c22b1
          try clear c24
          try clear c24b0
          try clear c24b1
          try clear c26
          try clear c26b0
          try clear c26b1
          try clear c26b2
          try clear hcv27
          try clear p2
          try clear p6
          obtain ⟨x15_2, rfl, HA, HK2, HO_6, HO_9, HB⟩ := hrel
          cases gk with
          | zero => exact absurd HA.out (by simp [wicketmanlaw09_HttpLines.l1])
          | succ k2 =>
           have H := HA.out
           clear HA
           simp only [wicketmanlaw09_HttpLines.l1] at H
           by_cases c38 : x15_2 < (t454.length : Int)
           ·rw [if_pos c38] at H
            have c38b0 : decide (x15_2 < (t454.length : Int)) = true := decide_eq_true c38
            clear c38
            by_cases c39 : 0 ≤ x15_2
            ·rw [if_pos c39] at H
             have c39b0 : decide (0 ≤ x15_2) = true := decide_eq_true c39
             clear c39
             by_cases c40 : x15_2 < (x6_5.length : Int)
             ·rw [if_pos c40] at H
              have c40b0 : decide (x15_2 < (x6_5.length : Int)) = true := decide_eq_true c40
              clear c40
              by_cases c41 : (rdOf ByteArray.empty t454 x15_2).toList = (rdOf ByteArray.empty x6_5 x15_2).toList
              ·rw [if_pos c41] at H
               have c41b0 : ((rdOf ByteArray.empty t454 x15_2).toList == (rdOf ByteArray.empty x6_5 x15_2).toList) = true := beq_iff_eq.mpr c41
               have c41b1 : ((rdOf ByteArray.empty t454 x15_2).toList != (rdOf ByteArray.empty x6_5 x15_2).toList) = false := bne_eq_false_iff_eq.mpr c41
               clear c41
               have H' := Aside0.mk H
               clear H
               have p467 : 0 ≤ (x15_2 : Int) := of_decide_eq_true (by first | (with_reducible assumption) | assumption)
               have q467 : x15_2 < (t454.length : Int) := of_decide_eq_true (by first | (with_reducible assumption) | assumption)
               obtain ⟨ad467, e467, hx467_0⟩ := Kd.at_string (Kd.R_reads' HO_9.out).2.2 x15_2 p467 q467
               cases e467
               replace p467 := eq_true p467
               replace q467 := eq_true q467
               have p468 : 0 ≤ (x15_2 : Int) := of_decide_eq_true (by first | (with_reducible assumption) | assumption)
               have q468 : x15_2 < (x6_5.length : Int) := of_decide_eq_true (by first | (with_reducible assumption) | assumption)
               obtain ⟨ad468, e468, hx468_0⟩ := Kd.at_string (Kd.R_reads' HO_6.out).2.2 x15_2 p468 q468
               cases e468
               replace p468 := eq_true p468
               replace q468 := eq_true q468
               go_wp2
               repeat (go_quiet (fail); try go_wp2)
               go_roundg k2
               case measure => have := HJ5.out; have := HK2.out; omega
               case rel => exact ⟨(wrap64 (x15_2 + 1)), (by first | rfl | (simp; done) | (simp [*]; done)), H', ⟨by have := HJ5.out; have := HK2.out; omega⟩, ⟨by (with_reducible repeat (first | apply Kd.R_alloc | apply Kd.R_drewN | apply Kd.R_drew)); exact HO_6.out⟩, ⟨by (with_reducible repeat (first | apply Kd.R_alloc | apply Kd.R_drewN | apply Kd.R_drew)); exact HO_9.out⟩, ⟨by repeat (first | (with_reducible first | apply bA | apply bN | apply bD) | exact HB.out)⟩⟩
              ·rw [if_neg c41] at H
               have c41b0 : ((rdOf ByteArray.empty t454 x15_2).toList == (rdOf ByteArray.empty x6_5 x15_2).toList) = false := beq_eq_false_iff_ne.mpr c41
               have c41b1 : ((rdOf ByteArray.empty t454 x15_2).toList != (rdOf ByteArray.empty x6_5 x15_2).toList) = true := bne_iff_ne.mpr c41
               exact absurd (Option.some.inj H) (by rw [hTR.out]; decide)
             ·rw [if_neg c40] at H
              exact absurd H (by simp)
            ·rw [if_neg c39] at H
             exact absurd H (by simp)
           ·rw [if_neg c38] at H
            have c38b0 : decide (x15_2 < (t454.length : Int)) = false := decide_eq_false c38
            clear c38
            replace H := Option.bind_eq_some_iff.mp H
            obtain ⟨t469, A420, H⟩ := H
            try dsimp only at H
            have A42 := Aside0.mk A420
            clear A420
            by_cases c43 : t469 = true
            ·subst c43
             rw [if_pos rfl] at H
             by_cases c44 : t456 = true
             ·subst c44
              rw [if_pos rfl] at H
              by_cases c45 : t464 = true
              ·subst c45
               rw [if_pos rfl] at H
               exact absurd (Option.some.inj H) (by rw [hTR.out]; decide)
              ·replace c45 := Bool.eq_false_iff.mpr c45
               subst c45
               rw [if_neg (show ¬ (false = true) by decide)] at H
               obtain rfl := Option.some.inj H
               go_wp2_with (first | (go_at_call 16; (with_reducible refine (wicketmanlaw09_known.calls  true _ (by first | exact hS | (refine Sh.of_below hS ?_; repeat (first | (with_reducible first | apply bA | apply bN | apply bD) | exact HB.out | refine Below.setCell ?_ (Aside0.out (by assumption)) _)) | (refine Sh.of_below hS ?_; assumption)) (by first | exact hTR | exact Aside0.mk rfl | exact Aside0.mk (by assumption) | exact Aside0.mk (of_eq_true (by assumption)) | exact Aside0.mk (wicketmanlaw09_known.true_ _ A42.out) | exact Aside0.mk (by simp_all)) A42.out).mono ?_); rintro e w46 ⟨rfl, hb⟩; have n0_ := Aside0.mk (Kd.R_below (by (with_reducible repeat (first | apply Kd.R_alloc | apply Kd.R_drewN | apply Kd.R_drew)); exact HO_6.out) hb); have n1_ := Aside0.mk (Kd.R_below (by (with_reducible repeat (first | apply Kd.R_alloc | apply Kd.R_drewN | apply Kd.R_drew)); exact HO_9.out) hb); have n2_ := Aside0.mk (below_step (by repeat (first | (with_reducible first | apply bA | apply bN | apply bD) | exact HB.out)) hb); clear HO_6; clear HO_9; clear HB; have HO_6 := n0_; have HO_9 := n1_; have HB := n2_; clear n0_ n1_ n2_; (try clear hb); (try clear hb2); (try clear hk); (try clear hi)))
               repeat (go_quiet (first | (go_at_call 16; (with_reducible refine (wicketmanlaw09_known.calls  true _ (by first | exact hS | (refine Sh.of_below hS ?_; repeat (first | (with_reducible first | apply bA | apply bN | apply bD) | exact HB.out | refine Below.setCell ?_ (Aside0.out (by assumption)) _)) | (refine Sh.of_below hS ?_; assumption)) (by first | exact hTR | exact Aside0.mk rfl | exact Aside0.mk (by assumption) | exact Aside0.mk (of_eq_true (by assumption)) | exact Aside0.mk (wicketmanlaw09_known.true_ _ A42.out) | exact Aside0.mk (by simp_all)) A42.out).mono ?_); rintro e w46 ⟨rfl, hb⟩; have n0_ := Aside0.mk (Kd.R_below (by (with_reducible repeat (first | apply Kd.R_alloc | apply Kd.R_drewN | apply Kd.R_drew)); exact HO_6.out) hb); have n1_ := Aside0.mk (Kd.R_below (by (with_reducible repeat (first | apply Kd.R_alloc | apply Kd.R_drewN | apply Kd.R_drew)); exact HO_9.out) hb); have n2_ := Aside0.mk (below_step (by repeat (first | (with_reducible first | apply bA | apply bN | apply bD) | exact HB.out)) hb); clear HO_6; clear HO_9; clear HB; have HO_6 := n0_; have HO_9 := n1_; have HB := n2_; clear n0_ n1_ n2_; (try clear hb); (try clear hb2); (try clear hk); (try clear hi))); try go_wp2_with (first | (go_at_call 16; (with_reducible refine (wicketmanlaw09_known.calls  true _ (by first | exact hS | (refine Sh.of_below hS ?_; repeat (first | (with_reducible first | apply bA | apply bN | apply bD) | exact HB.out | refine Below.setCell ?_ (Aside0.out (by assumption)) _)) | (refine Sh.of_below hS ?_; assumption)) (by first | exact hTR | exact Aside0.mk rfl | exact Aside0.mk (by assumption) | exact Aside0.mk (of_eq_true (by assumption)) | exact Aside0.mk (wicketmanlaw09_known.true_ _ A42.out) | exact Aside0.mk (by simp_all)) A42.out).mono ?_); rintro e w46 ⟨rfl, hb⟩; have n0_ := Aside0.mk (Kd.R_below (by (with_reducible repeat (first | apply Kd.R_alloc | apply Kd.R_drewN | apply Kd.R_drew)); exact HO_6.out) hb); have n1_ := Aside0.mk (Kd.R_below (by (with_reducible repeat (first | apply Kd.R_alloc | apply Kd.R_drewN | apply Kd.R_drew)); exact HO_9.out) hb); have n2_ := Aside0.mk (below_step (by repeat (first | (with_reducible first | apply bA | apply bN | apply bD) | exact HB.out)) hb); clear HO_6; clear HO_9; clear HB; have HO_6 := n0_; have HO_9 := n1_; have HB := n2_; clear n0_ n1_ n2_; (try clear hb); (try clear hb2); (try clear hk); (try clear hi))))
               go_ret
               exact ⟨by first | rfl | (simp [errW_none, errW_some] <;> rfl) | (simp [*, errW_none, errW_some] <;> rfl), by repeat (first | (with_reducible first | apply bA | apply bN | apply bD) | exact HB.out)⟩
             ·replace c44 := Bool.eq_false_iff.mpr c44
              subst c44
              rw [if_neg (show ¬ (false = true) by decide)] at H
              exact absurd (Option.some.inj H) (by rw [hTR.out]; decide)
            ·replace c43 := Bool.eq_false_iff.mpr c43
             subst c43
             rw [if_neg (show ¬ (false = true) by decide)] at H
             exact absurd (Option.some.inj H) (by rw [hTR.out]; decide)
        ·rw [if_neg c26] at H
         have c26b0 : ((t454.length : Int) == (x6_5.length : Int)) = false := beq_eq_false_iff_ne.mpr c26
         have c26b1 : ((t454.length : Int) != (x6_5.length : Int)) = true := bne_iff_ne.mpr c26
         have c26b2 : (t454.length == x6_5.length) = false := by first | simpa using c26 | (simp at c26 ⊢; omega)
         exact absurd (Option.some.inj H) (by rw [hTR.out]; decide)
       ·rw [if_neg c24] at H
        exact absurd H (by simp)
      ·rw [if_neg c22] at H
       exact absurd H (by simp)
     ·rw [if_neg c21] at H
      exact absurd H (by simp)
    ·rw [if_neg c20] at H
     exact absurd H (by simp)

end Go.Proofs.YtpfbemcoblganaaDoor.Pall

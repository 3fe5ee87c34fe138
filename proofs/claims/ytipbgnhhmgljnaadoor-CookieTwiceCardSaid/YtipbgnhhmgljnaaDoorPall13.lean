-- Written by a program of this session: the kit's print with given contracts. Not trusted: Lean checks it.
import Derived.Test.YtipbgnhhmgljnaaDoorCk
import Derived.Test.YtipbgnhhmgljnaaDoorPall0
import Derived.Test.YtipbgnhhmgljnaaDoorPall3
import Derived.Test.YtipbgnhhmgljnaaDoorPall12
namespace Go.Proofs.YtipbgnhhmgljnaaDoor.Pall
open Go.RowKit Go.Proofs.YtipbgnhhmgljnaaDoorW.PrintWords Go.Proofs.YtipbgnhhmgljnaaDoorW.PrintLast Go.Proofs.YtipbgnhhmgljnaaDoorW.PrintMore
attribute [local go_sem] max2_int min2_int max_two min_two max_three min_three max_four min_four   -- for this text's walks alone
set_option linter.unusedVariables false
set_option linter.unusedSimpArgs false

/-! ### wicketmanlaw11_CookieTwice: function 4 -/
mutual
def wicketmanlaw11_CookieTwice.j1 : Nat → Int → Bool → Bool → ByteArray → ByteArray → ByteArray → Option (Bool)
  | 0, _, _, _, _, _, _ => none
  | k + 1, x1, x3, x4, x11, x12, x13 => if x11.size + 2 ≤ 9223372036854775807 then (if (x11 ++ (⟨#[59, 32]⟩ : ByteArray)).size + x13.size ≤ 9223372036854775807 then (if ((x11 ++ (⟨#[59, 32]⟩ : ByteArray)) ++ x13).size + x12.size ≤ 9223372036854775807 then (if x3 = true then (if x13.size + x12.size ≤ 9223372036854775807 then (wicketmanlaw11_CookieTwice.j2 k x1 x4 x11 x13 (([x11, x13 ++ x12] : List ByteArray))) else (none)) else (wicketmanlaw11_CookieTwice.j2 k x1 x4 x11 x13 (([((x11 ++ (⟨#[59, 32]⟩ : ByteArray)) ++ x13) ++ x12] : List ByteArray)))) else (none)) else (none)) else (none)
def wicketmanlaw11_CookieTwice.j2 : Nat → Int → Bool → ByteArray → ByteArray → List ByteArray → Option (Bool)
  | 0, _, _, _, _, _ => none
  | k + 1, x1, x4, x11, x13, x15 => if x4 = true then (if x13.size + x11.size ≤ 9223372036854775807 then (wicketmanlaw11_CookieTwice.j3 k x1 x11 x13 (([x13 ++ x11, (⟨#[97, 32, 98, 61, 49]⟩ : ByteArray)] : List ByteArray))) else (none)) else (wicketmanlaw11_CookieTwice.j3 k x1 x11 x13 x15)
def wicketmanlaw11_CookieTwice.j3 : Nat → Int → ByteArray → ByteArray → List ByteArray → Option (Bool)
  | 0, _, _, _, _ => none
  | k + 1, x1, x11, x13, x15 => (cookie_Session.f x15).bind fun bt213 => (if x13.size + x11.size ≤ 9223372036854775807 then ((cookie_Session.f (([x13 ++ x11] : List ByteArray))).bind fun bt218 => ((wicketmanlaw11_known.f).bind fun t220 => (if t220 = true then (if bt213.2 = true then (some false) else (if bt213.1.toList = ([] : List UInt8) then (if bt218.2 = true then ((wicketmanlaw11_hex.f x1).bind fun t221 => (some (bt218.1.toList == t221.toList))) else (some false)) else (some false))) else (some false)))) else (none))
def wicketmanlaw11_CookieTwice.l0 : Nat → List Int → Int → Bool → Bool → ByteArray → ByteArray → ByteArray → Int → Option (Bool)
  | 0, _, _, _, _, _, _, _, _ => none
  | k + 1, x0, x1, x3, x4, x11, x12, x13, x14 => if x14 < (x0.length : Int) then (if x14 < 6 then (if x13.size + 2 ≤ 9223372036854775807 then (if 0 ≤ x14 then ((wicketmanlaw11_hex.f (IntKind.u16.wrap (rd x0 x14))).bind fun t203 => (if (x13 ++ (⟨#[120, 61]⟩ : ByteArray)).size + t203.size ≤ 9223372036854775807 then (if ((x13 ++ (⟨#[120, 61]⟩ : ByteArray)) ++ t203).size + 2 ≤ 9223372036854775807 then (wicketmanlaw11_CookieTwice.l0 k x0 x1 x3 x4 x11 x12 (((x13 ++ (⟨#[120, 61]⟩ : ByteArray)) ++ t203) ++ (⟨#[59, 32]⟩ : ByteArray)) (wrap64 (x14 + 1))) else (none)) else (none))) else (none)) else (none)) else (wicketmanlaw11_CookieTwice.j1 k x1 x3 x4 x11 x12 x13)) else (wicketmanlaw11_CookieTwice.j1 k x1 x3 x4 x11 x12 x13)
end
def wicketmanlaw11_CookieTwice.f (k : Nat) (l0 : List Int) (a1 : Int) (a2 : Int) (a3 : Bool) (a4 : Bool) : Option (Bool) := (wicketmanlaw11_hex.f a1).bind fun t200 => (if 10 + t200.size ≤ 9223372036854775807 then ((wicketmanlaw11_hex.f a2).bind fun t201 => (if 10 + t201.size ≤ 9223372036854775807 then (wicketmanlaw11_CookieTwice.l0 k l0 a1 a3 a4 ((⟨#[95, 95, 72, 111, 115, 116, 45, 105, 100, 61]⟩ : ByteArray) ++ t200) ((⟨#[95, 95, 72, 111, 115, 116, 45, 105, 100, 61]⟩ : ByteArray) ++ t201) (⟨#[]⟩ : ByteArray) 0) else (none))) else (none))
theorem wicketmanlaw11_CookieTwice.mono_l : ∀ k, (∀ y0 y1 y2 y3 y4 y5, LeO (wicketmanlaw11_CookieTwice.j1 k y0 y1 y2 y3 y4 y5) (wicketmanlaw11_CookieTwice.j1 (k + 1) y0 y1 y2 y3 y4 y5)) ∧ (∀ y0 y1 y2 y3 y4, LeO (wicketmanlaw11_CookieTwice.j2 k y0 y1 y2 y3 y4) (wicketmanlaw11_CookieTwice.j2 (k + 1) y0 y1 y2 y3 y4)) ∧ (∀ y0 y1 y2 y3, LeO (wicketmanlaw11_CookieTwice.j3 k y0 y1 y2 y3) (wicketmanlaw11_CookieTwice.j3 (k + 1) y0 y1 y2 y3)) ∧ (∀ y0 y1 y2 y3 y4 y5 y6 y7, LeO (wicketmanlaw11_CookieTwice.l0 k y0 y1 y2 y3 y4 y5 y6 y7) (wicketmanlaw11_CookieTwice.l0 (k + 1) y0 y1 y2 y3 y4 y5 y6 y7))
  | 0 => ⟨fun _ _ _ _ _ _ r h => by simp [wicketmanlaw11_CookieTwice.j1] at h, fun _ _ _ _ _ r h => by simp [wicketmanlaw11_CookieTwice.j2] at h, fun _ _ _ _ r h => by simp [wicketmanlaw11_CookieTwice.j3] at h, fun _ _ _ _ _ _ _ _ r h => by simp [wicketmanlaw11_CookieTwice.l0] at h⟩
  | k + 1 => by
    obtain ⟨ih0, ih1, ih2, ih3⟩ := wicketmanlaw11_CookieTwice.mono_l k
    refine ⟨?_, ?_, ?_, ?_⟩
    · intro y0 y1 y2 y3 y4 y5
      unfold wicketmanlaw11_CookieTwice.j1
      repeat' first
      | (with_reducible exact ih0 _ _ _ _ _ _)
      | (with_reducible exact ih1 _ _ _ _ _)
      | (with_reducible exact ih2 _ _ _ _)
      | (with_reducible exact ih3 _ _ _ _ _ _ _ _)
      | (with_reducible exact LeO.refl _)
      | (with_reducible exact LeO.none _)
      | (with_reducible refine LeO.ite ?_ ?_)
      | (with_reducible refine LeO.bind ?_ (fun _ => ?_))
      | exact ih0 _ _ _ _ _ _
      | exact ih1 _ _ _ _ _
      | exact ih2 _ _ _ _
      | exact ih3 _ _ _ _ _ _ _ _
      | exact LeO.none _
      | refine LeO.ite ?_ ?_
      | refine LeO.bind ?_ (fun _ => ?_)
    · intro y0 y1 y2 y3 y4
      unfold wicketmanlaw11_CookieTwice.j2
      repeat' first
      | (with_reducible exact ih0 _ _ _ _ _ _)
      | (with_reducible exact ih1 _ _ _ _ _)
      | (with_reducible exact ih2 _ _ _ _)
      | (with_reducible exact ih3 _ _ _ _ _ _ _ _)
      | (with_reducible exact LeO.refl _)
      | (with_reducible exact LeO.none _)
      | (with_reducible refine LeO.ite ?_ ?_)
      | (with_reducible refine LeO.bind ?_ (fun _ => ?_))
      | exact ih0 _ _ _ _ _ _
      | exact ih1 _ _ _ _ _
      | exact ih2 _ _ _ _
      | exact ih3 _ _ _ _ _ _ _ _
      | exact LeO.none _
      | refine LeO.ite ?_ ?_
      | refine LeO.bind ?_ (fun _ => ?_)
    · intro y0 y1 y2 y3
      unfold wicketmanlaw11_CookieTwice.j3
      repeat' first
      | (with_reducible exact ih0 _ _ _ _ _ _)
      | (with_reducible exact ih1 _ _ _ _ _)
      | (with_reducible exact ih2 _ _ _ _)
      | (with_reducible exact ih3 _ _ _ _ _ _ _ _)
      | (with_reducible exact LeO.refl _)
      | (with_reducible exact LeO.none _)
      | (with_reducible refine LeO.ite ?_ ?_)
      | (with_reducible refine LeO.bind ?_ (fun _ => ?_))
      | exact ih0 _ _ _ _ _ _
      | exact ih1 _ _ _ _ _
      | exact ih2 _ _ _ _
      | exact ih3 _ _ _ _ _ _ _ _
      | exact LeO.none _
      | refine LeO.ite ?_ ?_
      | refine LeO.bind ?_ (fun _ => ?_)
    · intro y0 y1 y2 y3 y4 y5 y6 y7
      unfold wicketmanlaw11_CookieTwice.l0
      repeat' first
      | (with_reducible exact ih0 _ _ _ _ _ _)
      | (with_reducible exact ih1 _ _ _ _ _)
      | (with_reducible exact ih2 _ _ _ _)
      | (with_reducible exact ih3 _ _ _ _ _ _ _ _)
      | (with_reducible exact LeO.refl _)
      | (with_reducible exact LeO.none _)
      | (with_reducible refine LeO.ite ?_ ?_)
      | (with_reducible refine LeO.bind ?_ (fun _ => ?_))
      | exact ih0 _ _ _ _ _ _
      | exact ih1 _ _ _ _ _
      | exact ih2 _ _ _ _
      | exact ih3 _ _ _ _ _ _ _ _
      | exact LeO.none _
      | refine LeO.ite ?_ ?_
      | refine LeO.bind ?_ (fun _ => ?_)
theorem wicketmanlaw11_CookieTwice.mono : ∀ a0 a1 a2 a3 a4 k, LeO (wicketmanlaw11_CookieTwice.f k a0 a1 a2 a3 a4) (wicketmanlaw11_CookieTwice.f (k + 1) a0 a1 a2 a3 a4) := by
  intro a0 a1 a2 a3 a4 k
  obtain ⟨ih0, ih1, ih2, ih3⟩ := wicketmanlaw11_CookieTwice.mono_l k
  unfold wicketmanlaw11_CookieTwice.f
  repeat' first
      | (with_reducible exact ih0 _ _ _ _ _ _)
      | (with_reducible exact ih1 _ _ _ _ _)
      | (with_reducible exact ih2 _ _ _ _)
      | (with_reducible exact ih3 _ _ _ _ _ _ _ _)
      | (with_reducible exact LeO.refl _)
      | (with_reducible exact LeO.none _)
      | (with_reducible refine LeO.ite ?_ ?_)
      | (with_reducible refine LeO.bind ?_ (fun _ => ?_))
      | exact ih0 _ _ _ _ _ _
      | exact ih1 _ _ _ _ _
      | exact ih2 _ _ _ _
      | exact ih3 _ _ _ _ _ _ _ _
      | exact LeO.none _
      | refine LeO.ite ?_ ?_
      | refine LeO.bind ?_ (fun _ => ?_)
set_option maxHeartbeats 8000000 in
set_option maxRecDepth 100000 in
theorem wicketmanlaw11_CookieTwice.calls (k : Nat) (A0 : Option Addr) (c0 : Nat) (l0 : List Int) (a1 : Int) (a2 : Int) (a3 : Bool) (a4 : Bool) (r : Bool) (w : World) (hr0 : Kd.C (Kd.int .u8) w A0 l0.length l0) (hc0 : l0.length ≤ c0) (hS : Sh w) (hTR : Aside0 (r = true)) (h : wicketmanlaw11_CookieTwice.f k l0 a1 a2 a3 a4 = some r) :
    Calls Tryd.prog 4 #[.slice A0 l0.length c0, .int .u16 a1, .int .u16 a2, .bool a3, .bool a4] w fun e w' => e = .returned (.bool r) ∧ Below w.heap.size w w' := by
  have HR0 := Aside0.mk hr0
  have HC0 := Aside0.mk hc0
  clear hr0 hc0
  have HB := Aside0.mk (Below.refl w.heap.size w)
  have H : ((wicketmanlaw11_hex.f a1).bind fun t200 => (if 10 + t200.size ≤ 9223372036854775807 then ((wicketmanlaw11_hex.f a2).bind fun t201 => (if 10 + t201.size ≤ 9223372036854775807 then (wicketmanlaw11_CookieTwice.l0 k l0 a1 a3 a4 ((⟨#[95, 95, 72, 111, 115, 116, 45, 105, 100, 61]⟩ : ByteArray) ++ t200) ((⟨#[95, 95, 72, 111, 115, 116, 45, 105, 100, 61]⟩ : ByteArray) ++ t201) (⟨#[]⟩ : ByteArray) 0) else (none))) else (none))) = some r := h
  clear h
  replace H := Option.bind_eq_some_iff.mp H
  obtain ⟨t200, A60, H⟩ := H
  replace H : (if 10 + t200.size ≤ 9223372036854775807 then ((wicketmanlaw11_hex.f a2).bind fun t201 => (if 10 + t201.size ≤ 9223372036854775807 then (wicketmanlaw11_CookieTwice.l0 k l0 a1 a3 a4 ((⟨#[95, 95, 72, 111, 115, 116, 45, 105, 100, 61]⟩ : ByteArray) ++ t200) ((⟨#[95, 95, 72, 111, 115, 116, 45, 105, 100, 61]⟩ : ByteArray) ++ t201) (⟨#[]⟩ : ByteArray) 0) else (none))) else (none)) = some r := H
  have A6 := Aside0.mk A60
  clear A60
  by_cases c7 : 10 + t200.size ≤ 9223372036854775807
  · rw [if_pos c7] at H
    have c7b0 := eq_true c7
    have c7b1 : decide (10 + t200.size ≤ 9223372036854775807) = true := decide_eq_true c7
    try have c7b2 : (9223372036854775807 < 10 + t200.size) = False := eq_false (Nat.not_lt.2 c7)
    replace H := Option.bind_eq_some_iff.mp H
    obtain ⟨t201, A80, H⟩ := H
    replace H : (if 10 + t201.size ≤ 9223372036854775807 then (wicketmanlaw11_CookieTwice.l0 k l0 a1 a3 a4 ((⟨#[95, 95, 72, 111, 115, 116, 45, 105, 100, 61]⟩ : ByteArray) ++ t200) ((⟨#[95, 95, 72, 111, 115, 116, 45, 105, 100, 61]⟩ : ByteArray) ++ t201) (⟨#[]⟩ : ByteArray) 0) else (none)) = some r := H
    have A8 := Aside0.mk A80
    clear A80
    by_cases c9 : 10 + t201.size ≤ 9223372036854775807
    · rw [if_pos c9] at H
      have c9b0 := eq_true c9
      have c9b1 : decide (10 + t201.size ≤ 9223372036854775807) = true := decide_eq_true c9
      try have c9b2 : (9223372036854775807 < 10 + t201.size) = False := eq_false (Nat.not_lt.2 c9)
      have HC10 := Aside0.mk H
      clear H
      go_enter Tryd.func4, Tryd.ntmps4
      go_upto_block 0 with (first | ((with_reducible refine gate_callee (f := 15) rfl ?_); refine goesL_ (some 21) rfl rfl Tryd.func15 (by kernel_rfl) rfl #[.int .u16 a1] rfl (by (try simp only [List.map_toArray, List.map_cons, List.map_nil]); first | done | rfl | (simp only [List.length_drop, List.length_take]; rfl)) ?_; (with_reducible refine (wicketmanlaw11_hex.calls a1 t200 _ A6.out).mono ?_); rintro e w' ⟨rfl, ⟨nd, rfl⟩⟩; refine ⟨_, rfl, ?_⟩) | ((with_reducible refine gate_callee (f := 15) rfl ?_); refine goesL_ (some 24) rfl rfl Tryd.func15 (by kernel_rfl) rfl #[.int .u16 a2] rfl (by (try simp only [List.map_toArray, List.map_cons, List.map_nil]); first | done | rfl | (simp only [List.length_drop, List.length_take]; rfl)) ?_; (with_reducible refine (wicketmanlaw11_hex.calls a2 t201 _ A8.out).mono ?_); rintro e w' ⟨rfl, ⟨nd, rfl⟩⟩; refine ⟨_, rfl, ?_⟩))
      (try simp only [Act.put, List.setIfInBounds_toArray, List.set_cons_zero, List.set_cons_succ])
      go_cut [13] (fun v13 wc => ∃ (kq : Nat) (x13_9 : ByteArray), v13 = .string x13_9 ∧ Aside0 (wicketmanlaw11_CookieTwice.j1 kq a1 a3 a4 ((⟨#[95, 95, 72, 111, 115, 116, 45, 105, 100, 61]⟩ : ByteArray) ++ t200) ((⟨#[95, 95, 72, 111, 115, 116, 45, 105, 100, 61]⟩ : ByteArray) ++ t201) x13_9 = some r) ∧ Aside0 (kq ≤ k) ∧ Aside0 (Below w.heap.size w wc))
      case first =>
        have H := HC10.out
        clear HC10
        have H' := Aside0.mk H
        clear H
        go_wp2
        go_loopg [13, 14] k (fun kq v13 v14 w' => ∃ (x13_1 : ByteArray) (x14_1 : Int), v13 = .string x13_1 ∧ v14 = .int .i64 x14_1 ∧ Aside0 (wicketmanlaw11_CookieTwice.l0 kq l0 a1 a3 a4 ((⟨#[95, 95, 72, 111, 115, 116, 45, 105, 100, 61]⟩ : ByteArray) ++ t200) ((⟨#[95, 95, 72, 111, 115, 116, 45, 105, 100, 61]⟩ : ByteArray) ++ t201) x13_1 x14_1 = some r) ∧ Aside0 (kq ≤ k) ∧ Aside0 (Below w.heap.size w w'))
        case atStart => exact ⟨((⟨#[]⟩ : ByteArray)), (0), (by first | rfl | (simp; done) | (simp [*]; done)), (by first | rfl | (simp; done) | (simp [*]; done)), H', ⟨Nat.le_refl _⟩, ⟨by repeat (first | (with_reducible first | exact HB.out | apply below_alloc | apply pw_below_drewN | apply below_drew1) | exact HB.out)⟩⟩
        case round =>
          clear H'
          try clear c1
          try clear p2
          try clear c4
          try clear c7
          try clear c7b0
          try clear c7b1
          try clear c7b2
          try clear c9
          try clear c9b0
          try clear c9b1
          try clear c9b2
          obtain ⟨x13_1, x14_1, rfl, rfl, HA, HK1, HB⟩ := hrel
          cases gk with
          | zero => exact absurd HA.out (by simp [wicketmanlaw11_CookieTwice.l0])
          | succ k1 =>
            have H := HA.out
            clear HA
            simp only [wicketmanlaw11_CookieTwice.l0] at H
            by_cases c11 : x14_1 < (l0.length : Int)
            · rw [if_pos c11] at H
              have c11b0 : decide (x14_1 < (l0.length : Int)) = true := decide_eq_true c11
              clear c11
              (first | rw [c11b0] | (simp only [i64_w, i32_w]; rw [c11b0]) | skip)
              by_cases c12 : x14_1 < 6
              · rw [if_pos c12] at H
                have c12b0 : decide (x14_1 < 6) = true := decide_eq_true c12
                clear c12
                by_cases c13 : x13_1.size + 2 ≤ 9223372036854775807
                · rw [if_pos c13] at H
                  have c13b0 := eq_true c13
                  have c13b1 : decide (x13_1.size + 2 ≤ 9223372036854775807) = true := decide_eq_true c13
                  try have c13b2 : (9223372036854775807 < x13_1.size + 2) = False := eq_false (Nat.not_lt.2 c13)
                  by_cases c14 : 0 ≤ x14_1
                  · rw [if_pos c14] at H
                    have c14b0 : decide (0 ≤ x14_1) = true := decide_eq_true c14
                    clear c14
                    replace H := Option.bind_eq_some_iff.mp H
                    obtain ⟨t203, A150, H⟩ := H
                    replace H : (if (x13_1 ++ (⟨#[120, 61]⟩ : ByteArray)).size + t203.size ≤ 9223372036854775807 then (if ((x13_1 ++ (⟨#[120, 61]⟩ : ByteArray)) ++ t203).size + 2 ≤ 9223372036854775807 then (wicketmanlaw11_CookieTwice.l0 k1 l0 a1 a3 a4 ((⟨#[95, 95, 72, 111, 115, 116, 45, 105, 100, 61]⟩ : ByteArray) ++ t200) ((⟨#[95, 95, 72, 111, 115, 116, 45, 105, 100, 61]⟩ : ByteArray) ++ t201) (((x13_1 ++ (⟨#[120, 61]⟩ : ByteArray)) ++ t203) ++ (⟨#[59, 32]⟩ : ByteArray)) (wrap64 (x14_1 + 1))) else (none)) else (none)) = some r := H
                    have A15 := Aside0.mk A150
                    clear A150
                    by_cases c16 : (x13_1 ++ (⟨#[120, 61]⟩ : ByteArray)).size + t203.size ≤ 9223372036854775807
                    · rw [if_pos c16] at H
                      have c16b0 := eq_true c16
                      have c16b1 : decide ((x13_1 ++ (⟨#[120, 61]⟩ : ByteArray)).size + t203.size ≤ 9223372036854775807) = true := decide_eq_true c16
                      try have c16b2 : (9223372036854775807 < (x13_1 ++ (⟨#[120, 61]⟩ : ByteArray)).size + t203.size) = False := eq_false (Nat.not_lt.2 c16)
                      try (have c16b8 := c16b2; simp only [ByteArray.size_append, show ((⟨#[120, 61]⟩ : ByteArray) : ByteArray).size = 2 from rfl] at c16b8)
                      by_cases c17 : ((x13_1 ++ (⟨#[120, 61]⟩ : ByteArray)) ++ t203).size + 2 ≤ 9223372036854775807
                      · rw [if_pos c17] at H
                        have c17b0 := eq_true c17
                        have c17b1 : decide (((x13_1 ++ (⟨#[120, 61]⟩ : ByteArray)) ++ t203).size + 2 ≤ 9223372036854775807) = true := decide_eq_true c17
                        try have c17b2 : (9223372036854775807 < ((x13_1 ++ (⟨#[120, 61]⟩ : ByteArray)) ++ t203).size + 2) = False := eq_false (Nat.not_lt.2 c17)
                        try (have c17b8 := c17b2; simp only [ByteArray.size_append, show ((⟨#[120, 61]⟩ : ByteArray) : ByteArray).size = 2 from rfl] at c17b8)
                        have H' := Aside0.mk H
                        clear H
                        have p202 : 0 ≤ (x14_1 : Int) := of_decide_eq_true (by first | (with_reducible assumption) | assumption)
                        have q202 : x14_1 < (l0.length : Int) := of_decide_eq_true (by first | (with_reducible assumption) | assumption)
                        obtain ⟨ad202, e202, hx202_0⟩ := Kd.at_int HR0.out x14_1 p202 q202
                        cases e202
                        replace hx202_0 := (HB.out.cell (World.block_lt_of_cell? w _ hx202_0)).trans hx202_0
                        replace p202 := eq_true p202
                        replace q202 := eq_true q202
                        go_wp2_with (first | ((with_reducible refine gate_callee (f := 15) rfl ?_); refine goesL_ (some 43) rfl rfl Tryd.func15 (by kernel_rfl) rfl #[.int .u16 (IntKind.u16.wrap (rd l0 x14_1))] rfl (by (try simp only [List.map_toArray, List.map_cons, List.map_nil]); first | done | rfl | (simp only [List.length_drop, List.length_take]; rfl)) ?_; (with_reducible refine (wicketmanlaw11_hex.calls (IntKind.u16.wrap (rd l0 x14_1)) t203 _ A15.out).mono ?_); rintro e w' ⟨rfl, ⟨nd, rfl⟩⟩; refine ⟨_, rfl, ?_⟩))
                        go_roundg k1
                        case measure => have := HK1.out; omega
                        case rel => exact ⟨(((x13_1 ++ (⟨#[120, 61]⟩ : ByteArray)) ++ t203) ++ (⟨#[59, 32]⟩ : ByteArray)), (wrap64 (x14_1 + 1)), (by first | rfl | (simp; done) | (simp [*]; done)), (by first | rfl | (simp; done) | (simp [*]; done)), H', ⟨by have := HK1.out; omega⟩, ⟨by repeat (first | (with_reducible first | exact HB.out | apply below_alloc | apply pw_below_drewN | apply below_drew1) | exact HB.out)⟩⟩
                      · rw [if_neg c17] at H
                        exact absurd H (by simp)
                    · rw [if_neg c16] at H
                      exact absurd H (by simp)
                  · rw [if_neg c14] at H
                    exact absurd H (by simp)
                · rw [if_neg c13] at H
                  exact absurd H (by simp)
              · rw [if_neg c12] at H
                have c12b0 : decide (x14_1 < 6) = false := decide_eq_false c12
                clear c12
                have H' := Aside0.mk H
                clear H
                go_wp2
                go_meet
                case rel => exact ⟨_, (x13_1), (by first | rfl | (simp; done) | (simp [*]; done)), H', ⟨by have := HK1.out; first | omega | exact Nat.le_refl _⟩, ⟨by repeat (first | (with_reducible first | exact HB.out | apply below_alloc | apply pw_below_drewN | apply below_drew1) | exact HB.out)⟩⟩
            · rw [if_neg c11] at H
              have c11b0 : decide (x14_1 < (l0.length : Int)) = false := decide_eq_false c11
              clear c11
              (first | rw [c11b0] | (simp only [i64_w, i32_w]; rw [c11b0]) | skip)
              have H' := Aside0.mk H
              clear H
              go_wp2
              go_meet
              case rel => exact ⟨_, (x13_1), (by first | rfl | (simp; done) | (simp [*]; done)), H', ⟨by have := HK1.out; first | omega | exact Nat.le_refl _⟩, ⟨by repeat (first | (with_reducible first | exact HB.out | apply below_alloc | apply pw_below_drewN | apply below_drew1) | exact HB.out)⟩⟩
      case rest =>
        clear HC10
        try clear c1
        try clear p2
        try clear q2
        try clear hx2
        try clear c4
        try clear p6
        try clear c7
        try clear c7b0
        try clear c7b1
        try clear c7b2
        try clear c9
        try clear c9b0
        try clear c9b1
        try clear c9b2
        try clear c11
        try clear c11b0
        try clear c12
        try clear c12b0
        try clear c13
        try clear c13b0
        try clear c13b1
        try clear c13b2
        try clear c14
        try clear c14b0
        try clear c15
        try clear c16
        try clear c16b0
        try clear c16b1
        try clear c16b2
        try clear c17
        try clear c17b0
        try clear c17b1
        try clear c17b2
        try clear hx202_0
        try clear p2
        try clear p202
        try clear q202
        obtain ⟨kq, x13_9, rfl, HA, HJ9, HB⟩ := hcut
        cases kq with
        | zero => exact absurd HA.out (by simp [wicketmanlaw11_CookieTwice.j1])
        | succ kj9 =>
          have H := HA.out
          clear HA
          simp only [wicketmanlaw11_CookieTwice.j1] at H
          by_cases c18 : ((⟨#[95, 95, 72, 111, 115, 116, 45, 105, 100, 61]⟩ : ByteArray) ++ t200).size + 2 ≤ 9223372036854775807
          · rw [if_pos c18] at H
            have c18b0 := eq_true c18
            have c18b1 : decide (((⟨#[95, 95, 72, 111, 115, 116, 45, 105, 100, 61]⟩ : ByteArray) ++ t200).size + 2 ≤ 9223372036854775807) = true := decide_eq_true c18
            try have c18b2 : (9223372036854775807 < ((⟨#[95, 95, 72, 111, 115, 116, 45, 105, 100, 61]⟩ : ByteArray) ++ t200).size + 2) = False := eq_false (Nat.not_lt.2 c18)
            try (have c18b8 := c18b2; simp only [ByteArray.size_append, show ((⟨#[95, 95, 72, 111, 115, 116, 45, 105, 100, 61]⟩ : ByteArray) : ByteArray).size = 10 from rfl] at c18b8)
            by_cases c19 : (((⟨#[95, 95, 72, 111, 115, 116, 45, 105, 100, 61]⟩ : ByteArray) ++ t200) ++ (⟨#[59, 32]⟩ : ByteArray)).size + x13_9.size ≤ 9223372036854775807
            · rw [if_pos c19] at H
              have c19b0 := eq_true c19
              have c19b1 : decide ((((⟨#[95, 95, 72, 111, 115, 116, 45, 105, 100, 61]⟩ : ByteArray) ++ t200) ++ (⟨#[59, 32]⟩ : ByteArray)).size + x13_9.size ≤ 9223372036854775807) = true := decide_eq_true c19
              try have c19b2 : (9223372036854775807 < (((⟨#[95, 95, 72, 111, 115, 116, 45, 105, 100, 61]⟩ : ByteArray) ++ t200) ++ (⟨#[59, 32]⟩ : ByteArray)).size + x13_9.size) = False := eq_false (Nat.not_lt.2 c19)
              try (have c19b8 := c19b2; simp only [ByteArray.size_append, show ((⟨#[59, 32]⟩ : ByteArray) : ByteArray).size = 2 from rfl, show ((⟨#[95, 95, 72, 111, 115, 116, 45, 105, 100, 61]⟩ : ByteArray) : ByteArray).size = 10 from rfl] at c19b8)
              by_cases c20 : ((((⟨#[95, 95, 72, 111, 115, 116, 45, 105, 100, 61]⟩ : ByteArray) ++ t200) ++ (⟨#[59, 32]⟩ : ByteArray)) ++ x13_9).size + ((⟨#[95, 95, 72, 111, 115, 116, 45, 105, 100, 61]⟩ : ByteArray) ++ t201).size ≤ 9223372036854775807
              · rw [if_pos c20] at H
                have c20b0 := eq_true c20
                have c20b1 : decide (((((⟨#[95, 95, 72, 111, 115, 116, 45, 105, 100, 61]⟩ : ByteArray) ++ t200) ++ (⟨#[59, 32]⟩ : ByteArray)) ++ x13_9).size + ((⟨#[95, 95, 72, 111, 115, 116, 45, 105, 100, 61]⟩ : ByteArray) ++ t201).size ≤ 9223372036854775807) = true := decide_eq_true c20
                try have c20b2 : (9223372036854775807 < ((((⟨#[95, 95, 72, 111, 115, 116, 45, 105, 100, 61]⟩ : ByteArray) ++ t200) ++ (⟨#[59, 32]⟩ : ByteArray)) ++ x13_9).size + ((⟨#[95, 95, 72, 111, 115, 116, 45, 105, 100, 61]⟩ : ByteArray) ++ t201).size) = False := eq_false (Nat.not_lt.2 c20)
                try (have c20b8 := c20b2; simp only [ByteArray.size_append, show ((⟨#[59, 32]⟩ : ByteArray) : ByteArray).size = 2 from rfl, show ((⟨#[95, 95, 72, 111, 115, 116, 45, 105, 100, 61]⟩ : ByteArray) : ByteArray).size = 10 from rfl] at c20b8)
                obtain ⟨y204, hy204⟩ : ∃ y_ : List ByteArray, y_ = (([((((⟨#[95, 95, 72, 111, 115, 116, 45, 105, 100, 61]⟩ : ByteArray) ++ t200) ++ (⟨#[59, 32]⟩ : ByteArray)) ++ x13_9) ++ ((⟨#[95, 95, 72, 111, 115, 116, 45, 105, 100, 61]⟩ : ByteArray) ++ t201)] : List ByteArray)) := ⟨_, rfl⟩
                replace H : (if a3 = true then (if x13_9.size + ((⟨#[95, 95, 72, 111, 115, 116, 45, 105, 100, 61]⟩ : ByteArray) ++ t201).size ≤ 9223372036854775807 then (wicketmanlaw11_CookieTwice.j2 kj9 a1 a4 ((⟨#[95, 95, 72, 111, 115, 116, 45, 105, 100, 61]⟩ : ByteArray) ++ t200) x13_9 (([((⟨#[95, 95, 72, 111, 115, 116, 45, 105, 100, 61]⟩ : ByteArray) ++ t200), x13_9 ++ ((⟨#[95, 95, 72, 111, 115, 116, 45, 105, 100, 61]⟩ : ByteArray) ++ t201)] : List ByteArray))) else (none)) else (wicketmanlaw11_CookieTwice.j2 kj9 a1 a4 ((⟨#[95, 95, 72, 111, 115, 116, 45, 105, 100, 61]⟩ : ByteArray) ++ t200) x13_9 y204)) = some r := by first | (rw [hy204]; with_reducible exact H) | (have H2_ := (Option.bind_some _ _).symm.trans H; rw [hy204]; with_reducible exact H2_) | (have H2_ := (Option.bind_some _ _).symm.trans H; with_reducible exact H2_) | with_reducible exact H | (rw [hy204]; exact H) | exact H
                have Ny204 := Aside0.mk hy204
                clear hy204
                have HC21 := Aside0.mk H
                clear H
                go_upto_if 53 with (first | ((with_reducible refine gate_dst (N := 52) rfl ?_); refine Kd.R_lit Kd.string _ 9 ?hg (N := 52) ?hd (xs := ([((((⟨#[95, 95, 72, 111, 115, 116, 45, 105, 100, 61]⟩ : ByteArray) ++ t200) ++ (⟨#[59, 32]⟩ : ByteArray)) ++ x13_9) ++ ((⟨#[95, 95, 72, 111, 115, 116, 45, 105, 100, 61]⟩ : ByteArray) ++ t201)] : List ByteArray)) (inner := [.string (((((⟨#[95, 95, 72, 111, 115, 116, 45, 105, 100, 61]⟩ : ByteArray) ++ t200) ++ (⟨#[59, 32]⟩ : ByteArray)) ++ x13_9) ++ ((⟨#[95, 95, 72, 111, 115, 116, 45, 105, 100, 61]⟩ : ByteArray) ++ t201))]) (ok := fun _ => True) (okp := fun _ => True) ?hr ?hp (fun _ hk => hk) trivial (Below.refl _ _) (Nat.le_refl _) (by simp) ?_; (case hd => rfl); (case hg => rfl); (case hr => first | (go_simp; done) | (go_simp; rfl)); (case hp => exact (Reps.one (show Kd.M Kd.string _ _ _ (((((⟨#[95, 95, 72, 111, 115, 116, 45, 105, 100, 61]⟩ : ByteArray) ++ t200) ++ (⟨#[59, 32]⟩ : ByteArray)) ++ x13_9) ++ ((⟨#[95, 95, 72, 111, 115, 116, 45, 105, 100, 61]⟩ : ByteArray) ++ t201)) [.string (((((⟨#[95, 95, 72, 111, 115, 116, 45, 105, 100, 61]⟩ : ByteArray) ++ t200) ++ (⟨#[59, 32]⟩ : ByteArray)) ++ x13_9) ++ ((⟨#[95, 95, 72, 111, 115, 116, 45, 105, 100, 61]⟩ : ByteArray) ++ t201))] from rfl) (Reps.none _ _))); intro v205 w22 ho23 hb hg_ hnew_; clear hg_ hnew_; (first | rw [← Ny204.out] at ho23 | (simp only [Int.reduceToNat] at ho23; rw [← Ny204.out] at ho23)); have n0_ := Aside0.mk (Kd.R_lower ho23 (below_size (by repeat (first | (with_reducible first | exact HB.out | apply below_alloc | apply pw_below_drewN | apply below_drew1) | exact HB.out)))); have n1_ := Aside0.mk (below_step (by repeat (first | (with_reducible first | exact HB.out | apply below_alloc | apply pw_below_drewN | apply below_drew1) | exact HB.out)) hb); clear HB; have HO206 := n0_; have HB := n1_; clear n0_ n1_; clear hb ho23))
                (try simp only [Act.put, List.setIfInBounds_toArray, List.set_cons_zero, List.set_cons_succ])
                go_cut [15] (fun v15 wc => ∃ (kq : Nat) (x15_20 : List ByteArray), Aside0 (wicketmanlaw11_CookieTwice.j2 kq a1 a4 ((⟨#[95, 95, 72, 111, 115, 116, 45, 105, 100, 61]⟩ : ByteArray) ++ t200) x13_9 x15_20 = some r) ∧ Aside0 (kq ≤ kj9) ∧ Aside0 (Kd.R Kd.string 9 wc w.heap.size (fun _ => True) v15 x15_20) ∧ Aside0 (Below w.heap.size w wc))
                case first =>
                  have H := HC21.out
                  clear HC21
                  by_cases c24 : a3 = true
                  · subst c24
                    have H1 : (if x13_9.size + ((⟨#[95, 95, 72, 111, 115, 116, 45, 105, 100, 61]⟩ : ByteArray) ++ t201).size ≤ 9223372036854775807 then (wicketmanlaw11_CookieTwice.j2 kj9 a1 a4 ((⟨#[95, 95, 72, 111, 115, 116, 45, 105, 100, 61]⟩ : ByteArray) ++ t200) x13_9 (([((⟨#[95, 95, 72, 111, 115, 116, 45, 105, 100, 61]⟩ : ByteArray) ++ t200), x13_9 ++ ((⟨#[95, 95, 72, 111, 115, 116, 45, 105, 100, 61]⟩ : ByteArray) ++ t201)] : List ByteArray))) else (none)) = some r := by rw [if_pos rfl] at H; exact H
                    clear H
                    have H := H1
                    clear H1
                    by_cases c25 : x13_9.size + ((⟨#[95, 95, 72, 111, 115, 116, 45, 105, 100, 61]⟩ : ByteArray) ++ t201).size ≤ 9223372036854775807
                    · rw [if_pos c25] at H
                      have c25b0 := eq_true c25
                      have c25b1 : decide (x13_9.size + ((⟨#[95, 95, 72, 111, 115, 116, 45, 105, 100, 61]⟩ : ByteArray) ++ t201).size ≤ 9223372036854775807) = true := decide_eq_true c25
                      try have c25b2 : (9223372036854775807 < x13_9.size + ((⟨#[95, 95, 72, 111, 115, 116, 45, 105, 100, 61]⟩ : ByteArray) ++ t201).size) = False := eq_false (Nat.not_lt.2 c25)
                      try (have c25b8 := c25b2; simp only [ByteArray.size_append, show ((⟨#[95, 95, 72, 111, 115, 116, 45, 105, 100, 61]⟩ : ByteArray) : ByteArray).size = 10 from rfl] at c25b8)
                      obtain ⟨y207, hy207⟩ : ∃ y_ : List ByteArray, y_ = (([((⟨#[95, 95, 72, 111, 115, 116, 45, 105, 100, 61]⟩ : ByteArray) ++ t200), x13_9 ++ ((⟨#[95, 95, 72, 111, 115, 116, 45, 105, 100, 61]⟩ : ByteArray) ++ t201)] : List ByteArray)) := ⟨_, rfl⟩
                      replace H : (wicketmanlaw11_CookieTwice.j2 kj9 a1 a4 ((⟨#[95, 95, 72, 111, 115, 116, 45, 105, 100, 61]⟩ : ByteArray) ++ t200) x13_9 y207) = some r := by first | (rw [hy207]; with_reducible exact H) | (have H2_ := (Option.bind_some _ _).symm.trans H; rw [hy207]; with_reducible exact H2_) | (have H2_ := (Option.bind_some _ _).symm.trans H; with_reducible exact H2_) | with_reducible exact H | (rw [hy207]; exact H) | exact H
                      have Ny207 := Aside0.mk hy207
                      clear hy207
                      have H' := Aside0.mk H
                      clear H
                      go_wp2_with (first | ((with_reducible refine gate_dst (N := 58) rfl ?_); refine Kd.R_lit Kd.string _ 9 ?hg (N := 58) ?hd (xs := ([((⟨#[95, 95, 72, 111, 115, 116, 45, 105, 100, 61]⟩ : ByteArray) ++ t200), x13_9 ++ ((⟨#[95, 95, 72, 111, 115, 116, 45, 105, 100, 61]⟩ : ByteArray) ++ t201)] : List ByteArray)) (inner := [.string ((⟨#[95, 95, 72, 111, 115, 116, 45, 105, 100, 61]⟩ : ByteArray) ++ t200), .string (x13_9 ++ ((⟨#[95, 95, 72, 111, 115, 116, 45, 105, 100, 61]⟩ : ByteArray) ++ t201))]) (ok := fun _ => True) (okp := fun _ => True) ?hr ?hp (fun _ hk => hk) trivial (Below.refl _ _) (Nat.le_refl _) (by simp) ?_; (case hd => rfl); (case hg => rfl); (case hr => first | (go_simp; done) | (go_simp; rfl)); (case hp => exact (Reps.one (show Kd.M Kd.string _ _ _ ((⟨#[95, 95, 72, 111, 115, 116, 45, 105, 100, 61]⟩ : ByteArray) ++ t200) [.string ((⟨#[95, 95, 72, 111, 115, 116, 45, 105, 100, 61]⟩ : ByteArray) ++ t200)] from rfl) (Reps.one (show Kd.M Kd.string _ _ _ (x13_9 ++ ((⟨#[95, 95, 72, 111, 115, 116, 45, 105, 100, 61]⟩ : ByteArray) ++ t201)) [.string (x13_9 ++ ((⟨#[95, 95, 72, 111, 115, 116, 45, 105, 100, 61]⟩ : ByteArray) ++ t201))] from rfl) (Reps.none _ _)))); intro v208 w26 ho27 hb hg_ hnew_; clear hg_ hnew_; (first | rw [← Ny207.out] at ho27 | (simp only [Int.reduceToNat] at ho27; rw [← Ny207.out] at ho27)); have n0_ := Aside0.mk (Kd.R_elder' (by (with_reducible repeat (first | apply Kd.R_alloc | apply Kd.R_drewN | apply Kd.R_drew)); exact HO206.out) (Kd.R_base ho27) hb); have n1_ := Aside0.mk (Kd.R_lower (Kd.R_new' ho27 (Kd.R_lt (by (with_reducible repeat (first | apply Kd.R_alloc | apply Kd.R_drewN | apply Kd.R_drew)); exact HO206.out))) (below_size (by repeat (first | (with_reducible first | exact HB.out | apply below_alloc | apply pw_below_drewN | apply below_drew1) | exact HB.out)))); have n2_ := Aside0.mk (below_step (by repeat (first | (with_reducible first | exact HB.out | apply below_alloc | apply pw_below_drewN | apply below_drew1) | exact HB.out)) hb); clear HO206; clear HB; have HO206 := n0_; have HO209 := n1_; have HB := n2_; clear n0_ n1_ n2_; clear hb ho27))
                      go_meet
                      case rel => exact ⟨_, (y207), H', ⟨by have := HJ9.out; first | omega | exact Nat.le_refl _⟩, ⟨by (with_reducible repeat (first | apply Kd.R_alloc | apply Kd.R_drewN | apply Kd.R_drew)); exact Kd.R_mono HO209.out (fun _ hk => trivial)⟩, ⟨by repeat (first | (with_reducible first | exact HB.out | apply below_alloc | apply pw_below_drewN | apply below_drew1) | exact HB.out)⟩⟩
                    · rw [if_neg c25] at H
                      exact absurd H (by simp)
                  · replace c24 := Bool.eq_false_iff.mpr c24
                    subst c24
                    have H1 : (wicketmanlaw11_CookieTwice.j2 kj9 a1 a4 ((⟨#[95, 95, 72, 111, 115, 116, 45, 105, 100, 61]⟩ : ByteArray) ++ t200) x13_9 y204) = some r := by rw [if_neg (show ¬ (false = true) by decide)] at H; exact H
                    clear H
                    have H := H1
                    clear H1
                    have H' := Aside0.mk H
                    clear H
                    go_wp2
                    go_meet
                    case rel => exact ⟨_, (y204), H', ⟨by have := HJ9.out; first | omega | exact Nat.le_refl _⟩, ⟨by (with_reducible repeat (first | apply Kd.R_alloc | apply Kd.R_drewN | apply Kd.R_drew)); exact HO206.out⟩, ⟨by repeat (first | (with_reducible first | exact HB.out | apply below_alloc | apply pw_below_drewN | apply below_drew1) | exact HB.out)⟩⟩
                case rest =>
                  clear HC21
                  try clear c1
                  try clear c2
                  try clear p2
                  try clear q2
                  try clear hx2
                  try clear c4
                  try clear p6
                  try clear c7
                  try clear c7b0
                  try clear c7b1
                  try clear c7b2
                  try clear c9
                  try clear c9b0
                  try clear c9b1
                  try clear c9b2
                  try clear c11
                  try clear c11b0
                  try clear c12
                  try clear c12b0
                  try clear c13
                  try clear c13b0
                  try clear c13b1
                  try clear c13b2
                  try clear c14
                  try clear c14b0
                  try clear c15
                  try clear c16
                  try clear c16b0
                  try clear c16b1
                  try clear c16b2
                  try clear c17
                  try clear c17b0
                  try clear c17b1
                  try clear c17b2
                  try clear c18
                  try clear c18b0
                  try clear c18b1
                  try clear c18b2
                  try clear c19
                  try clear c19b0
                  try clear c19b1
                  try clear c19b2
                  try clear c20
                  try clear c20b0
                  try clear c20b1
                  try clear c20b2
                  try clear p20
                  try clear q20
                  try clear hx20
                  try clear c24
                  try clear c25
                  try clear c25b0
                  try clear c25b1
                  try clear c25b2
                  try clear hx202_0
                  try clear p2
                  try clear p202
                  try clear p6
                  try clear q2
                  try clear q202
                  obtain ⟨kq, x15_20, HA, HJ20, HO_15, HB⟩ := hcut
                  cases kq with
                  | zero => exact absurd HA.out (by simp [wicketmanlaw11_CookieTwice.j2])
                  | succ kj20 =>
                    have H := HA.out
                    clear HA
                    simp only [wicketmanlaw11_CookieTwice.j2] at H
                    have HC28 := Aside0.mk H
                    clear H
                    go_upto_if 59 with (fail)
                    go_cut [15] (fun v15 wc => ∃ (kq : Nat) (x15_27 : List ByteArray), Aside0 (wicketmanlaw11_CookieTwice.j3 kq a1 ((⟨#[95, 95, 72, 111, 115, 116, 45, 105, 100, 61]⟩ : ByteArray) ++ t200) x13_9 x15_27 = some r) ∧ Aside0 (kq ≤ kj20) ∧ Aside0 (Kd.R Kd.string 9 wc w.heap.size (fun _ => True) v15 x15_27) ∧ Aside0 (Below w.heap.size w wc))
                    case first =>
                      have H := HC28.out
                      clear HC28
                      by_cases c29 : a4 = true
                      · subst c29
                        have H1 : (if x13_9.size + ((⟨#[95, 95, 72, 111, 115, 116, 45, 105, 100, 61]⟩ : ByteArray) ++ t200).size ≤ 9223372036854775807 then (wicketmanlaw11_CookieTwice.j3 kj20 a1 ((⟨#[95, 95, 72, 111, 115, 116, 45, 105, 100, 61]⟩ : ByteArray) ++ t200) x13_9 (([x13_9 ++ ((⟨#[95, 95, 72, 111, 115, 116, 45, 105, 100, 61]⟩ : ByteArray) ++ t200), (⟨#[97, 32, 98, 61, 49]⟩ : ByteArray)] : List ByteArray))) else (none)) = some r := by rw [if_pos rfl] at H; exact H
                        clear H
                        have H := H1
                        clear H1
                        by_cases c30 : x13_9.size + ((⟨#[95, 95, 72, 111, 115, 116, 45, 105, 100, 61]⟩ : ByteArray) ++ t200).size ≤ 9223372036854775807
                        · rw [if_pos c30] at H
                          have c30b0 := eq_true c30
                          have c30b1 : decide (x13_9.size + ((⟨#[95, 95, 72, 111, 115, 116, 45, 105, 100, 61]⟩ : ByteArray) ++ t200).size ≤ 9223372036854775807) = true := decide_eq_true c30
                          try have c30b2 : (9223372036854775807 < x13_9.size + ((⟨#[95, 95, 72, 111, 115, 116, 45, 105, 100, 61]⟩ : ByteArray) ++ t200).size) = False := eq_false (Nat.not_lt.2 c30)
                          try (have c30b8 := c30b2; simp only [ByteArray.size_append, show ((⟨#[95, 95, 72, 111, 115, 116, 45, 105, 100, 61]⟩ : ByteArray) : ByteArray).size = 10 from rfl] at c30b8)
                          obtain ⟨y210, hy210⟩ : ∃ y_ : List ByteArray, y_ = (([x13_9 ++ ((⟨#[95, 95, 72, 111, 115, 116, 45, 105, 100, 61]⟩ : ByteArray) ++ t200), (⟨#[97, 32, 98, 61, 49]⟩ : ByteArray)] : List ByteArray)) := ⟨_, rfl⟩
                          replace H : (wicketmanlaw11_CookieTwice.j3 kj20 a1 ((⟨#[95, 95, 72, 111, 115, 116, 45, 105, 100, 61]⟩ : ByteArray) ++ t200) x13_9 y210) = some r := by first | (rw [hy210]; with_reducible exact H) | (have H2_ := (Option.bind_some _ _).symm.trans H; rw [hy210]; with_reducible exact H2_) | (have H2_ := (Option.bind_some _ _).symm.trans H; with_reducible exact H2_) | with_reducible exact H | (rw [hy210]; exact H) | exact H
                          have Ny210 := Aside0.mk hy210
                          clear hy210
                          have H' := Aside0.mk H
                          clear H
                          go_wp2_with (first | ((with_reducible refine gate_dst (N := 63) rfl ?_); refine Kd.R_lit Kd.string _ 9 ?hg (N := 63) ?hd (xs := ([x13_9 ++ ((⟨#[95, 95, 72, 111, 115, 116, 45, 105, 100, 61]⟩ : ByteArray) ++ t200), (⟨#[97, 32, 98, 61, 49]⟩ : ByteArray)] : List ByteArray)) (inner := [.string (x13_9 ++ ((⟨#[95, 95, 72, 111, 115, 116, 45, 105, 100, 61]⟩ : ByteArray) ++ t200)), .string (⟨#[97, 32, 98, 61, 49]⟩ : ByteArray)]) (ok := fun _ => True) (okp := fun _ => True) ?hr ?hp (fun _ hk => hk) trivial (Below.refl _ _) (Nat.le_refl _) (by simp) ?_; (case hd => rfl); (case hg => rfl); (case hr => first | (go_simp; done) | (go_simp; rfl)); (case hp => exact (Reps.one (show Kd.M Kd.string _ _ _ (x13_9 ++ ((⟨#[95, 95, 72, 111, 115, 116, 45, 105, 100, 61]⟩ : ByteArray) ++ t200)) [.string (x13_9 ++ ((⟨#[95, 95, 72, 111, 115, 116, 45, 105, 100, 61]⟩ : ByteArray) ++ t200))] from rfl) (Reps.one (show Kd.M Kd.string _ _ _ (⟨#[97, 32, 98, 61, 49]⟩ : ByteArray) [.string (⟨#[97, 32, 98, 61, 49]⟩ : ByteArray)] from rfl) (Reps.none _ _)))); intro v211 w31 ho32 hb hg_ hnew_; clear hg_ hnew_; (first | rw [← Ny210.out] at ho32 | (simp only [Int.reduceToNat] at ho32; rw [← Ny210.out] at ho32)); have n0_ := Aside0.mk (Kd.R_elder' (by (with_reducible repeat (first | apply Kd.R_alloc | apply Kd.R_drewN | apply Kd.R_drew)); exact HO_15.out) (Kd.R_base ho32) hb); have n1_ := Aside0.mk (Kd.R_lower (Kd.R_new' ho32 (Kd.R_lt (by (with_reducible repeat (first | apply Kd.R_alloc | apply Kd.R_drewN | apply Kd.R_drew)); exact HO_15.out))) (below_size (by repeat (first | (with_reducible first | exact HB.out | apply below_alloc | apply pw_below_drewN | apply below_drew1) | exact HB.out)))); have n2_ := Aside0.mk (below_step (by repeat (first | (with_reducible first | exact HB.out | apply below_alloc | apply pw_below_drewN | apply below_drew1) | exact HB.out)) hb); clear HO_15; clear HB; have HO_15 := n0_; have HO212 := n1_; have HB := n2_; clear n0_ n1_ n2_; clear hb ho32))
                          go_meet
                          case rel => exact ⟨_, (y210), H', ⟨by have := HJ9.out; have := HJ20.out; first | omega | exact Nat.le_refl _⟩, ⟨by (with_reducible repeat (first | apply Kd.R_alloc | apply Kd.R_drewN | apply Kd.R_drew)); exact Kd.R_mono HO212.out (fun _ hk => trivial)⟩, ⟨by repeat (first | (with_reducible first | exact HB.out | apply below_alloc | apply pw_below_drewN | apply below_drew1) | exact HB.out)⟩⟩
                        · rw [if_neg c30] at H
                          exact absurd H (by simp)
                      · replace c29 := Bool.eq_false_iff.mpr c29
                        subst c29
                        have H1 : (wicketmanlaw11_CookieTwice.j3 kj20 a1 ((⟨#[95, 95, 72, 111, 115, 116, 45, 105, 100, 61]⟩ : ByteArray) ++ t200) x13_9 x15_20) = some r := by rw [if_neg (show ¬ (false = true) by decide)] at H; exact H
                        clear H
                        have H := H1
                        clear H1
                        have H' := Aside0.mk H
                        clear H
                        go_wp2
                        go_meet
                        case rel => exact ⟨_, (x15_20), H', ⟨by have := HJ9.out; have := HJ20.out; first | omega | exact Nat.le_refl _⟩, ⟨by (with_reducible repeat (first | apply Kd.R_alloc | apply Kd.R_drewN | apply Kd.R_drew)); exact HO_15.out⟩, ⟨by repeat (first | (with_reducible first | exact HB.out | apply below_alloc | apply pw_below_drewN | apply below_drew1) | exact HB.out)⟩⟩
                    case rest =>
                      clear HC28
                      try clear c1
                      try clear c2
                      try clear p2
                      try clear q2
                      try clear hx2
                      try clear c3
                      try clear c4
                      try clear p6
                      try clear c7
                      try clear c7b0
                      try clear c7b1
                      try clear c7b2
                      try clear c9
                      try clear c9b0
                      try clear c9b1
                      try clear c9b2
                      try clear c11
                      try clear c11b0
                      try clear c12
                      try clear c12b0
                      try clear c13
                      try clear c13b0
                      try clear c13b1
                      try clear c13b2
                      try clear c14
                      try clear c14b0
                      try clear c15
                      try clear c16
                      try clear c16b0
                      try clear c16b1
                      try clear c16b2
                      try clear c17
                      try clear c17b0
                      try clear c17b1
                      try clear c17b2
                      try clear c18
                      try clear c18b0
                      try clear c18b1
                      try clear c18b2
                      try clear c19
                      try clear c19b0
                      try clear c19b1
                      try clear c19b2
                      try clear c20
                      try clear c20b0
                      try clear c20b1
                      try clear c20b2
                      try clear p20
                      try clear q20
                      try clear hx20
                      try clear c24
                      try clear c25
                      try clear c25b0
                      try clear c25b1
                      try clear c25b2
                      try clear c29
                      try clear c30
                      try clear c30b0
                      try clear c30b1
                      try clear c30b2
                      try clear hx202_0
                      try clear p2
                      try clear p20
                      try clear p202
                      try clear p6
                      try clear q2
                      try clear q20
                      try clear q202
                      obtain ⟨kq, x15_27, HA, HJ27, HO_15, HB⟩ := hcut
                      cases kq with
                      | zero => exact absurd HA.out (by simp [wicketmanlaw11_CookieTwice.j3])
                      | succ kj27 =>
                        have H := HA.out
                        clear HA
                        simp only [wicketmanlaw11_CookieTwice.j3] at H
                        replace H := Option.bind_eq_some_iff.mp H
                        obtain ⟨⟨t213, t214⟩, A330, H⟩ := H
                        replace H : (if x13_9.size + ((⟨#[95, 95, 72, 111, 115, 116, 45, 105, 100, 61]⟩ : ByteArray) ++ t200).size ≤ 9223372036854775807 then ((cookie_Session.f (([x13_9 ++ ((⟨#[95, 95, 72, 111, 115, 116, 45, 105, 100, 61]⟩ : ByteArray) ++ t200)] : List ByteArray))).bind fun bt218 => ((wicketmanlaw11_known.f).bind fun t220 => (if t220 = true then (if t214 = true then (some false) else (if t213.toList = ([] : List UInt8) then (if bt218.2 = true then ((wicketmanlaw11_hex.f a1).bind fun t221 => (some (bt218.1.toList == t221.toList))) else (some false)) else (some false))) else (some false)))) else (none)) = some r := H
                        have A33 := Aside0.mk A330
                        clear A330
                        by_cases c34 : x13_9.size + ((⟨#[95, 95, 72, 111, 115, 116, 45, 105, 100, 61]⟩ : ByteArray) ++ t200).size ≤ 9223372036854775807
                        · rw [if_pos c34] at H
                          have c34b0 := eq_true c34
                          have c34b1 : decide (x13_9.size + ((⟨#[95, 95, 72, 111, 115, 116, 45, 105, 100, 61]⟩ : ByteArray) ++ t200).size ≤ 9223372036854775807) = true := decide_eq_true c34
                          try have c34b2 : (9223372036854775807 < x13_9.size + ((⟨#[95, 95, 72, 111, 115, 116, 45, 105, 100, 61]⟩ : ByteArray) ++ t200).size) = False := eq_false (Nat.not_lt.2 c34)
                          try (have c34b8 := c34b2; simp only [ByteArray.size_append, show ((⟨#[95, 95, 72, 111, 115, 116, 45, 105, 100, 61]⟩ : ByteArray) : ByteArray).size = 10 from rfl] at c34b8)
                          obtain ⟨y215, hy215⟩ : ∃ y_ : List ByteArray, y_ = (([x13_9 ++ ((⟨#[95, 95, 72, 111, 115, 116, 45, 105, 100, 61]⟩ : ByteArray) ++ t200)] : List ByteArray)) := ⟨_, rfl⟩
                          replace H : ((cookie_Session.f y215).bind fun bt218 => ((wicketmanlaw11_known.f).bind fun t220 => (if t220 = true then (if t214 = true then (some false) else (if t213.toList = ([] : List UInt8) then (if bt218.2 = true then ((wicketmanlaw11_hex.f a1).bind fun t221 => (some (bt218.1.toList == t221.toList))) else (some false)) else (some false))) else (some false)))) = some r := by first | (rw [hy215]; with_reducible exact H) | (have H2_ := (Option.bind_some _ _).symm.trans H; rw [hy215]; with_reducible exact H2_) | (have H2_ := (Option.bind_some _ _).symm.trans H; with_reducible exact H2_) | with_reducible exact H | (rw [hy215]; exact H) | exact H
                          have Ny215 := Aside0.mk hy215
                          clear hy215
                          replace H := Option.bind_eq_some_iff.mp H
                          obtain ⟨⟨t218, t219⟩, A350, H⟩ := H
                          replace H : ((wicketmanlaw11_known.f).bind fun t220 => (if t220 = true then (if t214 = true then (some false) else (if t213.toList = ([] : List UInt8) then (if t219 = true then ((wicketmanlaw11_hex.f a1).bind fun t221 => (some (t218.toList == t221.toList))) else (some false)) else (some false))) else (some false))) = some r := H
                          have A35 := Aside0.mk A350
                          clear A350
                          replace H := Option.bind_eq_some_iff.mp H
                          obtain ⟨t220, A360, H⟩ := H
                          replace H : (if t220 = true then (if t214 = true then (some false) else (if t213.toList = ([] : List UInt8) then (if t219 = true then ((wicketmanlaw11_hex.f a1).bind fun t221 => (some (t218.toList == t221.toList))) else (some false)) else (some false))) else (some false)) = some r := H
                          have A36 := Aside0.mk A360
                          clear A360
                          by_cases c37 : t220 = true
                          · subst c37
                            have H1 : (if t214 = true then (some false) else (if t213.toList = ([] : List UInt8) then (if t219 = true then ((wicketmanlaw11_hex.f a1).bind fun t221 => (some (t218.toList == t221.toList))) else (some false)) else (some false))) = some r := by rw [if_pos rfl] at H; exact H
                            clear H
                            have H := H1
                            clear H1
                            by_cases c38 : t214 = true
                            · subst c38
                              have H1 : (some false) = some r := by rw [if_pos rfl] at H; exact H
                              clear H
                              have H := H1
                              clear H1
                              exact absurd (Option.some.inj H) (by rw [hTR.out]; decide)
                            · replace c38 := Bool.eq_false_iff.mpr c38
                              subst c38
                              have H1 : (if t213.toList = ([] : List UInt8) then (if t219 = true then ((wicketmanlaw11_hex.f a1).bind fun t221 => (some (t218.toList == t221.toList))) else (some false)) else (some false)) = some r := by rw [if_neg (show ¬ (false = true) by decide)] at H; exact H
                              clear H
                              have H := H1
                              clear H1
                              by_cases c39 : t213.toList = ([] : List UInt8)
                              · rw [if_pos c39] at H
                                have c39b0 : (t213.toList == ([] : List UInt8)) = true := beq_iff_eq.mpr c39
                                have c39b1 : (t213.toList != ([] : List UInt8)) = false := bne_eq_false_iff_eq.mpr c39
                                clear c39
                                by_cases c40 : t219 = true
                                · subst c40
                                  have H1 : ((wicketmanlaw11_hex.f a1).bind fun t221 => (some (t218.toList == t221.toList))) = some r := by rw [if_pos rfl] at H; exact H
                                  clear H
                                  have H := H1
                                  clear H1
                                  replace H := Option.bind_eq_some_iff.mp H
                                  obtain ⟨t221, A410, H⟩ := H
                                  replace H : (some (t218.toList == t221.toList)) = some r := H
                                  have A41 := Aside0.mk A410
                                  clear A410
                                  obtain rfl := Option.some.inj H
                                  obtain ⟨Ao42, co42, eo42⟩ := Kd.R_slice HO_15.out
                                  subst eo42
                                  go_wp2_with (first | ((with_reducible refine gate_callee (f := 16) rfl ?_); refine goesL_ (some 66) rfl rfl Tryd.func16 (by kernel_rfl) rfl #[.slice Ao42 x15_27.length co42] rfl (by (try simp only [List.map_toArray, List.map_cons, List.map_nil]); first | done | rfl | (simp only [List.length_drop, List.length_take]; rfl)) ?_; (with_reducible refine (cookie_Session.calls _ _ x15_27 t213 false _ ?side1 ?side2 (by first | exact hS | (refine Sh.of_below hS ?_; repeat (first | (with_reducible first | exact HB.out | apply below_alloc | apply pw_below_drewN | apply below_drew1) | exact HB.out | refine Below.setCell ?_ (Aside0.out (by assumption)) _)) | (refine Sh.of_below hS ?_; assumption)) A33.out).mono ?_); (case side1 => repeat (first | exact (Kd.R_reads' HO_15.out).2.2 | (with_reducible refine Kd.C_alloc ?_ _) | (with_reducible refine Kd.C_drewN ?_ _) | (with_reducible refine Kd.C_drew ?_))); (case side2 => exact (Kd.R_reads' HO_15.out).2.1); rintro e w43 ⟨rfl, hb⟩; refine ⟨_, rfl, ?_⟩; have n0_ := Aside0.mk (Kd.R_below (by (with_reducible repeat (first | apply Kd.R_alloc | apply Kd.R_drewN | apply Kd.R_drew)); exact HO_15.out) hb); have n1_ := Aside0.mk (below_step (by repeat (first | (with_reducible first | exact HB.out | apply below_alloc | apply pw_below_drewN | apply below_drew1) | exact HB.out)) hb); clear HO_15; clear HB; have HO_15 := n0_; have HB := n1_; clear n0_ n1_; (try clear hb); (try clear hb2); (try clear hk); (try clear hi)) | ((with_reducible refine gate_dst (N := 73) rfl ?_); refine Kd.R_lit Kd.string _ 9 ?hg (N := 73) ?hd (xs := ([x13_9 ++ ((⟨#[95, 95, 72, 111, 115, 116, 45, 105, 100, 61]⟩ : ByteArray) ++ t200)] : List ByteArray)) (inner := [.string (x13_9 ++ ((⟨#[95, 95, 72, 111, 115, 116, 45, 105, 100, 61]⟩ : ByteArray) ++ t200))]) (ok := fun _ => True) (okp := fun _ => True) ?hr ?hp (fun _ hk => hk) trivial (Below.refl _ _) (Nat.le_refl _) (by simp) ?_; (case hd => rfl); (case hg => rfl); (case hr => first | (go_simp; done) | (go_simp; rfl)); (case hp => exact (Reps.one (show Kd.M Kd.string _ _ _ (x13_9 ++ ((⟨#[95, 95, 72, 111, 115, 116, 45, 105, 100, 61]⟩ : ByteArray) ++ t200)) [.string (x13_9 ++ ((⟨#[95, 95, 72, 111, 115, 116, 45, 105, 100, 61]⟩ : ByteArray) ++ t200))] from rfl) (Reps.none _ _))); intro v216 w44 ho45 hb hg_ hnew_; clear hg_ hnew_; (first | rw [← Ny215.out] at ho45 | (simp only [Int.reduceToNat] at ho45; rw [← Ny215.out] at ho45)); have n0_ := Aside0.mk (Kd.R_elder' (by (with_reducible repeat (first | apply Kd.R_alloc | apply Kd.R_drewN | apply Kd.R_drew)); exact HO_15.out) (Kd.R_base ho45) hb); have n1_ := Aside0.mk (Kd.R_lower (Kd.R_new' ho45 (Kd.R_lt (by (with_reducible repeat (first | apply Kd.R_alloc | apply Kd.R_drewN | apply Kd.R_drew)); exact HO_15.out))) (below_size (by repeat (first | (with_reducible first | exact HB.out | apply below_alloc | apply pw_below_drewN | apply below_drew1) | exact HB.out)))); have n2_ := Aside0.mk (below_step (by repeat (first | (with_reducible first | exact HB.out | apply below_alloc | apply pw_below_drewN | apply below_drew1) | exact HB.out)) hb); clear HO_15; clear HB; have HO_15 := n0_; have HO217 := n1_; have HB := n2_; clear n0_ n1_ n2_; clear hb ho45; obtain ⟨Ao46, co46, eo46⟩ := Kd.R_slice HO217.out; subst eo46) | ((with_reducible refine gate_callee (f := 16) rfl ?_); refine goesL_ (some 74) rfl rfl Tryd.func16 (by kernel_rfl) rfl #[.slice Ao46 y215.length co46] rfl (by (try simp only [List.map_toArray, List.map_cons, List.map_nil]); first | done | rfl | (simp only [List.length_drop, List.length_take]; rfl)) ?_; (with_reducible refine (cookie_Session.calls _ _ y215 t218 true _ ?side1 ?side2 (by first | exact hS | (refine Sh.of_below hS ?_; repeat (first | (with_reducible first | exact HB.out | apply below_alloc | apply pw_below_drewN | apply below_drew1) | exact HB.out | refine Below.setCell ?_ (Aside0.out (by assumption)) _)) | (refine Sh.of_below hS ?_; assumption)) A35.out).mono ?_); (case side1 => repeat (first | exact (Kd.R_reads' HO217.out).2.2 | (with_reducible refine Kd.C_alloc ?_ _) | (with_reducible refine Kd.C_drewN ?_ _) | (with_reducible refine Kd.C_drew ?_))); (case side2 => exact (Kd.R_reads' HO217.out).2.1); rintro e w47 ⟨rfl, hb⟩; refine ⟨_, rfl, ?_⟩; have n0_ := Aside0.mk (Kd.R_below (by (with_reducible repeat (first | apply Kd.R_alloc | apply Kd.R_drewN | apply Kd.R_drew)); exact HO_15.out) hb); have n1_ := Aside0.mk (Kd.R_below (by (with_reducible repeat (first | apply Kd.R_alloc | apply Kd.R_drewN | apply Kd.R_drew)); exact HO217.out) hb); have n2_ := Aside0.mk (below_step (by repeat (first | (with_reducible first | exact HB.out | apply below_alloc | apply pw_below_drewN | apply below_drew1) | exact HB.out)) hb); clear HO_15; clear HO217; clear HB; have HO_15 := n0_; have HO217 := n1_; have HB := n2_; clear n0_ n1_ n2_; (try clear hb); (try clear hb2); (try clear hk); (try clear hi)) | ((with_reducible refine gate_callee (f := 11) rfl ?_); refine goesL_ (some 77) rfl rfl Tryd.func11 (by kernel_rfl) rfl #[] rfl (by (try simp only [List.map_toArray, List.map_cons, List.map_nil]); first | done | rfl | (simp only [List.length_drop, List.length_take]; rfl)) ?_; (with_reducible refine (wicketmanlaw11_known.calls  true _ (by first | exact hS | (refine Sh.of_below hS ?_; repeat (first | (with_reducible first | exact HB.out | apply below_alloc | apply pw_below_drewN | apply below_drew1) | exact HB.out | refine Below.setCell ?_ (Aside0.out (by assumption)) _)) | (refine Sh.of_below hS ?_; assumption)) A36.out).mono ?_); rintro e w48 ⟨rfl, hb⟩; refine ⟨_, rfl, ?_⟩; have n0_ := Aside0.mk (Kd.R_below (by (with_reducible repeat (first | apply Kd.R_alloc | apply Kd.R_drewN | apply Kd.R_drew)); exact HO_15.out) hb); have n1_ := Aside0.mk (Kd.R_below (by (with_reducible repeat (first | apply Kd.R_alloc | apply Kd.R_drewN | apply Kd.R_drew)); exact HO217.out) hb); have n2_ := Aside0.mk (below_step (by repeat (first | (with_reducible first | exact HB.out | apply below_alloc | apply pw_below_drewN | apply below_drew1) | exact HB.out)) hb); clear HO_15; clear HO217; clear HB; have HO_15 := n0_; have HO217 := n1_; have HB := n2_; clear n0_ n1_ n2_; (try clear hb); (try clear hb2); (try clear hk); (try clear hi)) | (go_at_call 15; (with_reducible refine (wicketmanlaw11_hex.calls a1 t221 _ A41.out).mono ?_); rintro e w' ⟨rfl, ⟨nd, rfl⟩⟩))
                                  go_ret
                                  exact ⟨by first | rfl | (simp [errW_none, errW_some] <;> rfl) | (simp [*, errW_none, errW_some] <;> rfl), by repeat (first | (with_reducible first | exact HB.out | apply below_alloc | apply pw_below_drewN | apply below_drew1) | exact HB.out)⟩
                                · replace c40 := Bool.eq_false_iff.mpr c40
                                  subst c40
                                  have H1 : (some false) = some r := by rw [if_neg (show ¬ (false = true) by decide)] at H; exact H
                                  clear H
                                  have H := H1
                                  clear H1
                                  exact absurd (Option.some.inj H) (by rw [hTR.out]; decide)
                              · rw [if_neg c39] at H
                                have c39b0 : (t213.toList == ([] : List UInt8)) = false := beq_eq_false_iff_ne.mpr c39
                                have c39b1 : (t213.toList != ([] : List UInt8)) = true := bne_iff_ne.mpr c39
                                exact absurd (Option.some.inj H) (by rw [hTR.out]; decide)
                          · replace c37 := Bool.eq_false_iff.mpr c37
                            subst c37
                            have H1 : (some false) = some r := by rw [if_neg (show ¬ (false = true) by decide)] at H; exact H
                            clear H
                            have H := H1
                            clear H1
                            exact absurd (Option.some.inj H) (by rw [hTR.out]; decide)
                        · rw [if_neg c34] at H
                          exact absurd H (by simp)
              · rw [if_neg c20] at H
                exact absurd H (by simp)
            · rw [if_neg c19] at H
              exact absurd H (by simp)
          · rw [if_neg c18] at H
            exact absurd H (by simp)
    · rw [if_neg c9] at H
      exact absurd H (by simp)
  · rw [if_neg c7] at H
    exact absurd H (by simp)

end Go.Proofs.YtipbgnhhmgljnaaDoor.Pall

-- Written by a program of this session: the kit's print with given contracts. Not trusted: Lean checks it.
import Derived.Test.YtipbgnhhmgljnaaDoorPall0
import Derived.Test.YtipbgnhhmgljnaaDoorPall2
import Derived.Test.YtipbgnhhmgljnaaDoorPall3
import Derived.Test.YtipbgnhhmgljnaaDoorPall4
import Derived.Test.YtipbgnhhmgljnaaDoorPall8
import Derived.Test.YtipbgnhhmgljnaaDoorPall10
namespace Go.Proofs.YtipbgnhhmgljnaaDoor.Pall
open Go.RowKit Go.Proofs.YtipbgnhhmgljnaaDoorW.PrintWords Go.Proofs.YtipbgnhhmgljnaaDoorW.PrintLast Go.Proofs.YtipbgnhhmgljnaaDoorW.PrintMore
attribute [local go_sem] max2_int min2_int max_two min_two max_three min_three max_four min_four   -- for this text's walks alone
set_option linter.unusedVariables false
set_option linter.unusedSimpArgs false

/-! ### wicketmanlaw11_CookieParses: function 3 -/
def wicketmanlaw11_CookieParses.j0 : Nat → ByteArray → List ByteArray → List Int → List Int → Bool → Option (Bool)
  | 0, _, _, _, _, _ => none
  | k + 1, x0, x1, x2, x3, x26 => if x26 = true then ((wicketmanlaw11_known.f).bind fun t181 => (some t181)) else ((wicketmanlaw11_Value.f k x2).bind fun t182 => ((wicketmanlaw11_Value.f k x3).bind fun t183 => ((wicketmanlaw11_parses.f k x0).bind fun t184 => (if t184 = true then ((wicketmanlaw11_parses.f k t182).bind fun t185 => (if t185 = true then (if 5 + t183.size ≤ 9223372036854775807 then ((wicketmanlaw11_parses.f k ((⟨#[97, 61, 49, 59, 32]⟩ : ByteArray) ++ t183)).bind fun t186 => (if t186 = true then ((wicketmanlaw11_session.f k x1).bind fun t187 => (if t187 = true then ((wicketmanlaw11_session.f k (([t182, t183] : List ByteArray))).bind fun t191 => (if t191 = true then ((wicketmanlaw11_session.f k (([t182] : List ByteArray))).bind fun t195 => (if t195 = true then ((wicketmanlaw11_session.f k (([(⟨#[95, 95, 72, 111, 115, 116, 45, 105, 100, 61, 57]⟩ : ByteArray), t183] : List ByteArray))).bind fun t199 => (some t199)) else (some false))) else (some false))) else (some false))) else (some false))) else (none)) else (some false))) else (some false)))))
def wicketmanlaw11_CookieParses.f (k : Nat) (a0 : ByteArray) (l1 : List ByteArray) (l2 : List Int) (l3 : List Int) : Option (Bool) := if (a0.size : Int) > 300 then (wicketmanlaw11_CookieParses.j0 k a0 l1 l2 l3 true) else (if (l1.length : Int) > 10 then (wicketmanlaw11_CookieParses.j0 k a0 l1 l2 l3 true) else ((wicketmanlaw11_long.f k l1).bind fun t179 => (if t179 = true then (wicketmanlaw11_CookieParses.j0 k a0 l1 l2 l3 true) else ((wicketmanlaw11_known.f).bind fun t180 => (wicketmanlaw11_CookieParses.j0 k a0 l1 l2 l3 (!t180))))))
theorem wicketmanlaw11_CookieParses.mono_l : ∀ k, (∀ y0 y1 y2 y3 y4, LeO (wicketmanlaw11_CookieParses.j0 k y0 y1 y2 y3 y4) (wicketmanlaw11_CookieParses.j0 (k + 1) y0 y1 y2 y3 y4))
  | 0 => fun _ _ _ _ _ r h => by simp [wicketmanlaw11_CookieParses.j0] at h
  | k + 1 => by
    have ih0 := wicketmanlaw11_CookieParses.mono_l k
    · intro y0 y1 y2 y3 y4
      unfold wicketmanlaw11_CookieParses.j0
      repeat' first
      | (with_reducible exact ih0 _ _ _ _ _)
      | (with_reducible exact wicketmanlaw11_Value.mono _ _)
      | (with_reducible exact wicketmanlaw11_long.mono _ _)
      | (with_reducible exact wicketmanlaw11_parses.mono _ _)
      | (with_reducible exact wicketmanlaw11_session.mono _ _)
      | (with_reducible exact LeO.refl _)
      | (with_reducible exact LeO.none _)
      | (with_reducible refine LeO.ite ?_ ?_)
      | (with_reducible refine LeO.bind ?_ (fun _ => ?_))
      | exact ih0 _ _ _ _ _
      | exact wicketmanlaw11_Value.mono _ _
      | exact wicketmanlaw11_long.mono _ _
      | exact wicketmanlaw11_parses.mono _ _
      | exact wicketmanlaw11_session.mono _ _
      | exact LeO.none _
      | refine LeO.ite ?_ ?_
      | refine LeO.bind ?_ (fun _ => ?_)
theorem wicketmanlaw11_CookieParses.mono : ∀ a0 a1 a2 a3 k, LeO (wicketmanlaw11_CookieParses.f k a0 a1 a2 a3) (wicketmanlaw11_CookieParses.f (k + 1) a0 a1 a2 a3) := by
  intro a0 a1 a2 a3 k
  have ih0 := wicketmanlaw11_CookieParses.mono_l k
  unfold wicketmanlaw11_CookieParses.f
  repeat' first
      | (with_reducible exact ih0 _ _ _ _ _)
      | (with_reducible exact wicketmanlaw11_Value.mono _ _)
      | (with_reducible exact wicketmanlaw11_long.mono _ _)
      | (with_reducible exact wicketmanlaw11_parses.mono _ _)
      | (with_reducible exact wicketmanlaw11_session.mono _ _)
      | (with_reducible exact LeO.refl _)
      | (with_reducible exact LeO.none _)
      | (with_reducible refine LeO.ite ?_ ?_)
      | (with_reducible refine LeO.bind ?_ (fun _ => ?_))
      | exact ih0 _ _ _ _ _
      | exact wicketmanlaw11_Value.mono _ _
      | exact wicketmanlaw11_long.mono _ _
      | exact wicketmanlaw11_parses.mono _ _
      | exact wicketmanlaw11_session.mono _ _
      | exact LeO.none _
      | refine LeO.ite ?_ ?_
      | refine LeO.bind ?_ (fun _ => ?_)
set_option maxHeartbeats 8000000 in
set_option maxRecDepth 100000 in
theorem wicketmanlaw11_CookieParses.calls (k : Nat) (a0 : ByteArray) (A1 : Option Addr) (c1 : Nat) (l1 : List ByteArray) (A2 : Option Addr) (c2 : Nat) (l2 : List Int) (A3 : Option Addr) (c3 : Nat) (l3 : List Int) (r : Bool) (w : World) (hr1 : Kd.C Kd.string w A1 l1.length l1) (hc1 : l1.length ≤ c1) (hr2 : Kd.C (Kd.int .u8) w A2 l2.length l2) (hc2 : l2.length ≤ c2) (hr3 : Kd.C (Kd.int .u8) w A3 l3.length l3) (hc3 : l3.length ≤ c3) (hS : Sh w) (hTR : Aside0 (r = true)) (h : wicketmanlaw11_CookieParses.f k a0 l1 l2 l3 = some r) :
    Calls Tryd.prog 3 #[.string a0, .slice A1 l1.length c1, .slice A2 l2.length c2, .slice A3 l3.length c3] w fun e w' => e = .returned (.bool r) ∧ Below w.heap.size w w' := by
  have HR1 := Aside0.mk hr1
  have HC1 := Aside0.mk hc1
  clear hr1 hc1
  have HR2 := Aside0.mk hr2
  have HC2 := Aside0.mk hc2
  clear hr2 hc2
  have HR3 := Aside0.mk hr3
  have HC3 := Aside0.mk hc3
  clear hr3 hc3
  have HB := Aside0.mk (Below.refl w.heap.size w)
  have H : (if (a0.size : Int) > 300 then (wicketmanlaw11_CookieParses.j0 k a0 l1 l2 l3 true) else (if (l1.length : Int) > 10 then (wicketmanlaw11_CookieParses.j0 k a0 l1 l2 l3 true) else ((wicketmanlaw11_long.f k l1).bind fun t179 => (if t179 = true then (wicketmanlaw11_CookieParses.j0 k a0 l1 l2 l3 true) else ((wicketmanlaw11_known.f).bind fun t180 => (wicketmanlaw11_CookieParses.j0 k a0 l1 l2 l3 (!t180))))))) = some r := h
  clear h
  have HC5 := Aside0.mk H
  clear H
  go_enter Tryd.func3, Tryd.ntmps3
  go_upto_region 1 with (fail)
  go_cut [26] (fun v26 wc => ∃ (kq : Nat) (x26_4 : Bool), v26 = .bool x26_4 ∧ Aside0 (wicketmanlaw11_CookieParses.j0 kq a0 l1 l2 l3 x26_4 = some r) ∧ Aside0 (kq ≤ k) ∧ Aside0 (Below w.heap.size w wc))
  case first =>
    have H := HC5.out
    clear HC5
    by_cases c6 : (a0.size : Int) > 300
    · rw [if_pos c6] at H
      have c6b0 : decide (300 < (a0.size : Int)) = true := decide_eq_true c6
      have c6b1 : decide (300 < a0.size) = true := decide_eq_true (by omega)
      clear c6
      (first | rw [c6b0] | (simp only [i64_w, i32_w]; rw [c6b0]) | skip)
      have H' := Aside0.mk H
      clear H
      go_wp2
      go_meet
      case rel => exact ⟨_, (true), (by first | rfl | (simp; done) | (simp [*]; done)), H', ⟨by first | omega | exact Nat.le_refl _⟩, ⟨by repeat (first | (with_reducible first | exact HB.out | apply below_alloc | apply pw_below_drewN | apply below_drew1) | exact HB.out)⟩⟩
    · rw [if_neg c6] at H
      have c6b0 : decide (300 < (a0.size : Int)) = false := decide_eq_false c6
      have c6b1 : decide (300 < a0.size) = false := decide_eq_false (by omega)
      clear c6
      (first | rw [c6b0] | (simp only [i64_w, i32_w]; rw [c6b0]) | skip)
      by_cases c7 : (l1.length : Int) > 10
      · rw [if_pos c7] at H
        have c7b0 : decide (10 < (l1.length : Int)) = true := decide_eq_true c7
        have c7b1 : decide (10 < l1.length) = true := decide_eq_true (by omega)
        clear c7
        have H' := Aside0.mk H
        clear H
        go_wp2
        go_meet
        case rel => exact ⟨_, (true), (by first | rfl | (simp; done) | (simp [*]; done)), H', ⟨by first | omega | exact Nat.le_refl _⟩, ⟨by repeat (first | (with_reducible first | exact HB.out | apply below_alloc | apply pw_below_drewN | apply below_drew1) | exact HB.out)⟩⟩
      · rw [if_neg c7] at H
        have c7b0 : decide (10 < (l1.length : Int)) = false := decide_eq_false c7
        have c7b1 : decide (10 < l1.length) = false := decide_eq_false (by omega)
        clear c7
        replace H := Option.bind_eq_some_iff.mp H
        obtain ⟨t179, A80, H⟩ := H
        replace H : (if t179 = true then (wicketmanlaw11_CookieParses.j0 k a0 l1 l2 l3 true) else ((wicketmanlaw11_known.f).bind fun t180 => (wicketmanlaw11_CookieParses.j0 k a0 l1 l2 l3 (!t180)))) = some r := H
        have A8 := Aside0.mk A80
        clear A80
        by_cases c9 : t179 = true
        · subst c9
          have H1 : (wicketmanlaw11_CookieParses.j0 k a0 l1 l2 l3 true) = some r := by rw [if_pos rfl] at H; exact H
          clear H
          have H := H1
          clear H1
          have H' := Aside0.mk H
          clear H
          go_wp2_with (first | (go_at_call 10; (with_reducible refine (wicketmanlaw11_long.calls k _ _ l1 true _ ?side1 ?side2 A8.out).mono ?_); (case side1 => repeat (first | exact (Kd.C_below HR1.out HB.out) | (with_reducible refine Kd.C_alloc ?_ _) | (with_reducible refine Kd.C_drewN ?_ _) | (with_reducible refine Kd.C_drew ?_))); (case side2 => exact HC1.out); rintro e w' ⟨rfl, ⟨nd, rfl⟩⟩))
          go_meet
          case rel => exact ⟨_, (true), (by first | rfl | (simp; done) | (simp [*]; done)), H', ⟨by first | omega | exact Nat.le_refl _⟩, ⟨by repeat (first | (with_reducible first | exact HB.out | apply below_alloc | apply pw_below_drewN | apply below_drew1) | exact HB.out)⟩⟩
        · replace c9 := Bool.eq_false_iff.mpr c9
          subst c9
          have H1 : ((wicketmanlaw11_known.f).bind fun t180 => (wicketmanlaw11_CookieParses.j0 k a0 l1 l2 l3 (!t180))) = some r := by rw [if_neg (show ¬ (false = true) by decide)] at H; exact H
          clear H
          have H := H1
          clear H1
          replace H := Option.bind_eq_some_iff.mp H
          obtain ⟨t180, A100, H⟩ := H
          replace H : (wicketmanlaw11_CookieParses.j0 k a0 l1 l2 l3 (!t180)) = some r := H
          have A10 := Aside0.mk A100
          clear A100
          have H' := Aside0.mk H
          clear H
          go_wp2_with (first | (go_at_call 10; (with_reducible refine (wicketmanlaw11_long.calls k _ _ l1 false _ ?side1 ?side2 A8.out).mono ?_); (case side1 => repeat (first | exact (Kd.C_below HR1.out HB.out) | (with_reducible refine Kd.C_alloc ?_ _) | (with_reducible refine Kd.C_drewN ?_ _) | (with_reducible refine Kd.C_drew ?_))); (case side2 => exact HC1.out); rintro e w' ⟨rfl, ⟨nd, rfl⟩⟩) | (go_at_call 11; (with_reducible refine (wicketmanlaw11_known.calls  t180 _ (by first | exact hS | (refine Sh.of_below hS ?_; repeat (first | (with_reducible first | exact HB.out | apply below_alloc | apply pw_below_drewN | apply below_drew1) | exact HB.out | refine Below.setCell ?_ (Aside0.out (by assumption)) _)) | (refine Sh.of_below hS ?_; assumption)) A10.out).mono ?_); rintro e w11 ⟨rfl, hb⟩; have n0_ := Aside0.mk (below_step (by repeat (first | (with_reducible first | exact HB.out | apply below_alloc | apply pw_below_drewN | apply below_drew1) | exact HB.out)) hb); clear HB; have HB := n0_; clear n0_; (try clear hb); (try clear hb2); (try clear hk); (try clear hi)))
          go_meet
          case rel => exact ⟨_, (!t180), (by first | rfl | (simp; done) | (simp [*]; done)), H', ⟨by first | omega | exact Nat.le_refl _⟩, ⟨by repeat (first | (with_reducible first | exact HB.out | apply below_alloc | apply pw_below_drewN | apply below_drew1) | exact HB.out)⟩⟩
  case rest =>
    clear HC5
    try clear c1
    try clear c2
    try clear p2
    try clear c3
    try clear c6
    try clear c6b0
    try clear c6b1
    try clear c7
    try clear c7b0
    try clear c7b1
    try clear c9
    obtain ⟨kq, x26_4, rfl, HA, HJ4, HB⟩ := hcut
    cases kq with
    | zero => exact absurd HA.out (by simp [wicketmanlaw11_CookieParses.j0])
    | succ kj4 =>
      have H := HA.out
      clear HA
      simp only [wicketmanlaw11_CookieParses.j0] at H
      by_cases c12 : x26_4 = true
      · subst c12
        have H1 : ((wicketmanlaw11_known.f).bind fun t181 => (some t181)) = some r := by rw [if_pos rfl] at H; exact H
        clear H
        have H := H1
        clear H1
        replace H := Option.bind_eq_some_iff.mp H
        obtain ⟨t181, A130, H⟩ := H
        replace H : (some t181) = some r := H
        have A13 := Aside0.mk A130
        clear A130
        obtain rfl := Option.some.inj H
        go_wp2_with (first | ((with_reducible refine gate_callee (f := 11) rfl ?_); refine goesL_ (some 27) rfl rfl Tryd.func11 (by kernel_rfl) rfl #[] rfl (by (try simp only [List.map_toArray, List.map_cons, List.map_nil]); first | done | rfl | (simp only [List.length_drop, List.length_take]; rfl)) ?_; (with_reducible refine (wicketmanlaw11_known.calls  t181 _ (by first | exact hS | (refine Sh.of_below hS ?_; repeat (first | (with_reducible first | exact HB.out | apply below_alloc | apply pw_below_drewN | apply below_drew1) | exact HB.out | refine Below.setCell ?_ (Aside0.out (by assumption)) _)) | (refine Sh.of_below hS ?_; assumption)) A13.out).mono ?_); rintro e w14 ⟨rfl, hb⟩; refine ⟨_, rfl, ?_⟩; have n0_ := Aside0.mk (below_step (by repeat (first | (with_reducible first | exact HB.out | apply below_alloc | apply pw_below_drewN | apply below_drew1) | exact HB.out)) hb); clear HB; have HB := n0_; clear n0_; (try clear hb); (try clear hb2); (try clear hk); (try clear hi)))
        go_ret
        exact ⟨by first | rfl | (simp [errW_none, errW_some] <;> rfl) | (simp [*, errW_none, errW_some] <;> rfl), by repeat (first | (with_reducible first | exact HB.out | apply below_alloc | apply pw_below_drewN | apply below_drew1) | exact HB.out)⟩
      · replace c12 := Bool.eq_false_iff.mpr c12
        subst c12
        have H1 : ((wicketmanlaw11_Value.f kj4 l2).bind fun t182 => ((wicketmanlaw11_Value.f kj4 l3).bind fun t183 => ((wicketmanlaw11_parses.f kj4 a0).bind fun t184 => (if t184 = true then ((wicketmanlaw11_parses.f kj4 t182).bind fun t185 => (if t185 = true then (if 5 + t183.size ≤ 9223372036854775807 then ((wicketmanlaw11_parses.f kj4 ((⟨#[97, 61, 49, 59, 32]⟩ : ByteArray) ++ t183)).bind fun t186 => (if t186 = true then ((wicketmanlaw11_session.f kj4 l1).bind fun t187 => (if t187 = true then ((wicketmanlaw11_session.f kj4 (([t182, t183] : List ByteArray))).bind fun t191 => (if t191 = true then ((wicketmanlaw11_session.f kj4 (([t182] : List ByteArray))).bind fun t195 => (if t195 = true then ((wicketmanlaw11_session.f kj4 (([(⟨#[95, 95, 72, 111, 115, 116, 45, 105, 100, 61, 57]⟩ : ByteArray), t183] : List ByteArray))).bind fun t199 => (some t199)) else (some false))) else (some false))) else (some false))) else (some false))) else (none)) else (some false))) else (some false))))) = some r := by rw [if_neg (show ¬ (false = true) by decide)] at H; exact H
        clear H
        have H := H1
        clear H1
        replace H := Option.bind_eq_some_iff.mp H
        obtain ⟨t182, A150, H⟩ := H
        replace H : ((wicketmanlaw11_Value.f kj4 l3).bind fun t183 => ((wicketmanlaw11_parses.f kj4 a0).bind fun t184 => (if t184 = true then ((wicketmanlaw11_parses.f kj4 t182).bind fun t185 => (if t185 = true then (if 5 + t183.size ≤ 9223372036854775807 then ((wicketmanlaw11_parses.f kj4 ((⟨#[97, 61, 49, 59, 32]⟩ : ByteArray) ++ t183)).bind fun t186 => (if t186 = true then ((wicketmanlaw11_session.f kj4 l1).bind fun t187 => (if t187 = true then ((wicketmanlaw11_session.f kj4 (([t182, t183] : List ByteArray))).bind fun t191 => (if t191 = true then ((wicketmanlaw11_session.f kj4 (([t182] : List ByteArray))).bind fun t195 => (if t195 = true then ((wicketmanlaw11_session.f kj4 (([(⟨#[95, 95, 72, 111, 115, 116, 45, 105, 100, 61, 57]⟩ : ByteArray), t183] : List ByteArray))).bind fun t199 => (some t199)) else (some false))) else (some false))) else (some false))) else (some false))) else (none)) else (some false))) else (some false)))) = some r := H
        have A15 := Aside0.mk A150
        clear A150
        replace H := Option.bind_eq_some_iff.mp H
        obtain ⟨t183, A160, H⟩ := H
        replace H : ((wicketmanlaw11_parses.f kj4 a0).bind fun t184 => (if t184 = true then ((wicketmanlaw11_parses.f kj4 t182).bind fun t185 => (if t185 = true then (if 5 + t183.size ≤ 9223372036854775807 then ((wicketmanlaw11_parses.f kj4 ((⟨#[97, 61, 49, 59, 32]⟩ : ByteArray) ++ t183)).bind fun t186 => (if t186 = true then ((wicketmanlaw11_session.f kj4 l1).bind fun t187 => (if t187 = true then ((wicketmanlaw11_session.f kj4 (([t182, t183] : List ByteArray))).bind fun t191 => (if t191 = true then ((wicketmanlaw11_session.f kj4 (([t182] : List ByteArray))).bind fun t195 => (if t195 = true then ((wicketmanlaw11_session.f kj4 (([(⟨#[95, 95, 72, 111, 115, 116, 45, 105, 100, 61, 57]⟩ : ByteArray), t183] : List ByteArray))).bind fun t199 => (some t199)) else (some false))) else (some false))) else (some false))) else (some false))) else (none)) else (some false))) else (some false))) = some r := H
        have A16 := Aside0.mk A160
        clear A160
        replace H := Option.bind_eq_some_iff.mp H
        obtain ⟨t184, A170, H⟩ := H
        replace H : (if t184 = true then ((wicketmanlaw11_parses.f kj4 t182).bind fun t185 => (if t185 = true then (if 5 + t183.size ≤ 9223372036854775807 then ((wicketmanlaw11_parses.f kj4 ((⟨#[97, 61, 49, 59, 32]⟩ : ByteArray) ++ t183)).bind fun t186 => (if t186 = true then ((wicketmanlaw11_session.f kj4 l1).bind fun t187 => (if t187 = true then ((wicketmanlaw11_session.f kj4 (([t182, t183] : List ByteArray))).bind fun t191 => (if t191 = true then ((wicketmanlaw11_session.f kj4 (([t182] : List ByteArray))).bind fun t195 => (if t195 = true then ((wicketmanlaw11_session.f kj4 (([(⟨#[95, 95, 72, 111, 115, 116, 45, 105, 100, 61, 57]⟩ : ByteArray), t183] : List ByteArray))).bind fun t199 => (some t199)) else (some false))) else (some false))) else (some false))) else (some false))) else (none)) else (some false))) else (some false)) = some r := H
        have A17 := Aside0.mk A170
        clear A170
        by_cases c18 : t184 = true
        · subst c18
          have H1 : ((wicketmanlaw11_parses.f kj4 t182).bind fun t185 => (if t185 = true then (if 5 + t183.size ≤ 9223372036854775807 then ((wicketmanlaw11_parses.f kj4 ((⟨#[97, 61, 49, 59, 32]⟩ : ByteArray) ++ t183)).bind fun t186 => (if t186 = true then ((wicketmanlaw11_session.f kj4 l1).bind fun t187 => (if t187 = true then ((wicketmanlaw11_session.f kj4 (([t182, t183] : List ByteArray))).bind fun t191 => (if t191 = true then ((wicketmanlaw11_session.f kj4 (([t182] : List ByteArray))).bind fun t195 => (if t195 = true then ((wicketmanlaw11_session.f kj4 (([(⟨#[95, 95, 72, 111, 115, 116, 45, 105, 100, 61, 57]⟩ : ByteArray), t183] : List ByteArray))).bind fun t199 => (some t199)) else (some false))) else (some false))) else (some false))) else (some false))) else (none)) else (some false))) = some r := by rw [if_pos rfl] at H; exact H
          clear H
          have H := H1
          clear H1
          replace H := Option.bind_eq_some_iff.mp H
          obtain ⟨t185, A190, H⟩ := H
          replace H : (if t185 = true then (if 5 + t183.size ≤ 9223372036854775807 then ((wicketmanlaw11_parses.f kj4 ((⟨#[97, 61, 49, 59, 32]⟩ : ByteArray) ++ t183)).bind fun t186 => (if t186 = true then ((wicketmanlaw11_session.f kj4 l1).bind fun t187 => (if t187 = true then ((wicketmanlaw11_session.f kj4 (([t182, t183] : List ByteArray))).bind fun t191 => (if t191 = true then ((wicketmanlaw11_session.f kj4 (([t182] : List ByteArray))).bind fun t195 => (if t195 = true then ((wicketmanlaw11_session.f kj4 (([(⟨#[95, 95, 72, 111, 115, 116, 45, 105, 100, 61, 57]⟩ : ByteArray), t183] : List ByteArray))).bind fun t199 => (some t199)) else (some false))) else (some false))) else (some false))) else (some false))) else (none)) else (some false)) = some r := H
          have A19 := Aside0.mk A190
          clear A190
          by_cases c20 : t185 = true
          · subst c20
            have H1 : (if 5 + t183.size ≤ 9223372036854775807 then ((wicketmanlaw11_parses.f kj4 ((⟨#[97, 61, 49, 59, 32]⟩ : ByteArray) ++ t183)).bind fun t186 => (if t186 = true then ((wicketmanlaw11_session.f kj4 l1).bind fun t187 => (if t187 = true then ((wicketmanlaw11_session.f kj4 (([t182, t183] : List ByteArray))).bind fun t191 => (if t191 = true then ((wicketmanlaw11_session.f kj4 (([t182] : List ByteArray))).bind fun t195 => (if t195 = true then ((wicketmanlaw11_session.f kj4 (([(⟨#[95, 95, 72, 111, 115, 116, 45, 105, 100, 61, 57]⟩ : ByteArray), t183] : List ByteArray))).bind fun t199 => (some t199)) else (some false))) else (some false))) else (some false))) else (some false))) else (none)) = some r := by rw [if_pos rfl] at H; exact H
            clear H
            have H := H1
            clear H1
            by_cases c21 : 5 + t183.size ≤ 9223372036854775807
            · rw [if_pos c21] at H
              have c21b0 := eq_true c21
              have c21b1 : decide (5 + t183.size ≤ 9223372036854775807) = true := decide_eq_true c21
              try have c21b2 : (9223372036854775807 < 5 + t183.size) = False := eq_false (Nat.not_lt.2 c21)
              replace H := Option.bind_eq_some_iff.mp H
              obtain ⟨t186, A220, H⟩ := H
              replace H : (if t186 = true then ((wicketmanlaw11_session.f kj4 l1).bind fun t187 => (if t187 = true then ((wicketmanlaw11_session.f kj4 (([t182, t183] : List ByteArray))).bind fun t191 => (if t191 = true then ((wicketmanlaw11_session.f kj4 (([t182] : List ByteArray))).bind fun t195 => (if t195 = true then ((wicketmanlaw11_session.f kj4 (([(⟨#[95, 95, 72, 111, 115, 116, 45, 105, 100, 61, 57]⟩ : ByteArray), t183] : List ByteArray))).bind fun t199 => (some t199)) else (some false))) else (some false))) else (some false))) else (some false)) = some r := H
              have A22 := Aside0.mk A220
              clear A220
              by_cases c23 : t186 = true
              · subst c23
                have H1 : ((wicketmanlaw11_session.f kj4 l1).bind fun t187 => (if t187 = true then ((wicketmanlaw11_session.f kj4 (([t182, t183] : List ByteArray))).bind fun t191 => (if t191 = true then ((wicketmanlaw11_session.f kj4 (([t182] : List ByteArray))).bind fun t195 => (if t195 = true then ((wicketmanlaw11_session.f kj4 (([(⟨#[95, 95, 72, 111, 115, 116, 45, 105, 100, 61, 57]⟩ : ByteArray), t183] : List ByteArray))).bind fun t199 => (some t199)) else (some false))) else (some false))) else (some false))) = some r := by rw [if_pos rfl] at H; exact H
                clear H
                have H := H1
                clear H1
                replace H := Option.bind_eq_some_iff.mp H
                obtain ⟨t187, A240, H⟩ := H
                replace H : (if t187 = true then ((wicketmanlaw11_session.f kj4 (([t182, t183] : List ByteArray))).bind fun t191 => (if t191 = true then ((wicketmanlaw11_session.f kj4 (([t182] : List ByteArray))).bind fun t195 => (if t195 = true then ((wicketmanlaw11_session.f kj4 (([(⟨#[95, 95, 72, 111, 115, 116, 45, 105, 100, 61, 57]⟩ : ByteArray), t183] : List ByteArray))).bind fun t199 => (some t199)) else (some false))) else (some false))) else (some false)) = some r := H
                have A24 := Aside0.mk A240
                clear A240
                by_cases c25 : t187 = true
                · subst c25
                  have H1 : ((wicketmanlaw11_session.f kj4 (([t182, t183] : List ByteArray))).bind fun t191 => (if t191 = true then ((wicketmanlaw11_session.f kj4 (([t182] : List ByteArray))).bind fun t195 => (if t195 = true then ((wicketmanlaw11_session.f kj4 (([(⟨#[95, 95, 72, 111, 115, 116, 45, 105, 100, 61, 57]⟩ : ByteArray), t183] : List ByteArray))).bind fun t199 => (some t199)) else (some false))) else (some false))) = some r := by rw [if_pos rfl] at H; exact H
                  clear H
                  have H := H1
                  clear H1
                  obtain ⟨y188, hy188⟩ : ∃ y_ : List ByteArray, y_ = (([t182, t183] : List ByteArray)) := ⟨_, rfl⟩
                  replace H : ((wicketmanlaw11_session.f kj4 y188).bind fun t191 => (if t191 = true then ((wicketmanlaw11_session.f kj4 (([t182] : List ByteArray))).bind fun t195 => (if t195 = true then ((wicketmanlaw11_session.f kj4 (([(⟨#[95, 95, 72, 111, 115, 116, 45, 105, 100, 61, 57]⟩ : ByteArray), t183] : List ByteArray))).bind fun t199 => (some t199)) else (some false))) else (some false))) = some r := by first | (rw [hy188]; with_reducible exact H) | (have H2_ := (Option.bind_some _ _).symm.trans H; rw [hy188]; with_reducible exact H2_) | (have H2_ := (Option.bind_some _ _).symm.trans H; with_reducible exact H2_) | with_reducible exact H | (rw [hy188]; exact H) | exact H
                  have Ny188 := Aside0.mk hy188
                  clear hy188
                  replace H := Option.bind_eq_some_iff.mp H
                  obtain ⟨t191, A260, H⟩ := H
                  replace H : (if t191 = true then ((wicketmanlaw11_session.f kj4 (([t182] : List ByteArray))).bind fun t195 => (if t195 = true then ((wicketmanlaw11_session.f kj4 (([(⟨#[95, 95, 72, 111, 115, 116, 45, 105, 100, 61, 57]⟩ : ByteArray), t183] : List ByteArray))).bind fun t199 => (some t199)) else (some false))) else (some false)) = some r := H
                  have A26 := Aside0.mk A260
                  clear A260
                  by_cases c27 : t191 = true
                  · subst c27
                    have H1 : ((wicketmanlaw11_session.f kj4 (([t182] : List ByteArray))).bind fun t195 => (if t195 = true then ((wicketmanlaw11_session.f kj4 (([(⟨#[95, 95, 72, 111, 115, 116, 45, 105, 100, 61, 57]⟩ : ByteArray), t183] : List ByteArray))).bind fun t199 => (some t199)) else (some false))) = some r := by rw [if_pos rfl] at H; exact H
                    clear H
                    have H := H1
                    clear H1
                    obtain ⟨y192, hy192⟩ : ∃ y_ : List ByteArray, y_ = (([t182] : List ByteArray)) := ⟨_, rfl⟩
                    replace H : ((wicketmanlaw11_session.f kj4 y192).bind fun t195 => (if t195 = true then ((wicketmanlaw11_session.f kj4 (([(⟨#[95, 95, 72, 111, 115, 116, 45, 105, 100, 61, 57]⟩ : ByteArray), t183] : List ByteArray))).bind fun t199 => (some t199)) else (some false))) = some r := by first | (rw [hy192]; with_reducible exact H) | (have H2_ := (Option.bind_some _ _).symm.trans H; rw [hy192]; with_reducible exact H2_) | (have H2_ := (Option.bind_some _ _).symm.trans H; with_reducible exact H2_) | with_reducible exact H | (rw [hy192]; exact H) | exact H
                    have Ny192 := Aside0.mk hy192
                    clear hy192
                    replace H := Option.bind_eq_some_iff.mp H
                    obtain ⟨t195, A280, H⟩ := H
                    replace H : (if t195 = true then ((wicketmanlaw11_session.f kj4 (([(⟨#[95, 95, 72, 111, 115, 116, 45, 105, 100, 61, 57]⟩ : ByteArray), t183] : List ByteArray))).bind fun t199 => (some t199)) else (some false)) = some r := H
                    have A28 := Aside0.mk A280
                    clear A280
                    by_cases c29 : t195 = true
                    · subst c29
                      have H1 : ((wicketmanlaw11_session.f kj4 (([(⟨#[95, 95, 72, 111, 115, 116, 45, 105, 100, 61, 57]⟩ : ByteArray), t183] : List ByteArray))).bind fun t199 => (some t199)) = some r := by rw [if_pos rfl] at H; exact H
                      clear H
                      have H := H1
                      clear H1
                      obtain ⟨y196, hy196⟩ : ∃ y_ : List ByteArray, y_ = (([(⟨#[95, 95, 72, 111, 115, 116, 45, 105, 100, 61, 57]⟩ : ByteArray), t183] : List ByteArray)) := ⟨_, rfl⟩
                      replace H : ((wicketmanlaw11_session.f kj4 y196).bind fun t199 => (some t199)) = some r := by first | (rw [hy196]; with_reducible exact H) | (have H2_ := (Option.bind_some _ _).symm.trans H; rw [hy196]; with_reducible exact H2_) | (have H2_ := (Option.bind_some _ _).symm.trans H; with_reducible exact H2_) | with_reducible exact H | (rw [hy196]; exact H) | exact H
                      have Ny196 := Aside0.mk hy196
                      clear hy196
                      replace H := Option.bind_eq_some_iff.mp H
                      obtain ⟨t199, A300, H⟩ := H
                      replace H : (some t199) = some r := H
                      have A30 := Aside0.mk A300
                      clear A300
                      obtain rfl := Option.some.inj H
                      go_wp2_with (first | ((with_reducible refine gate_callee (f := 12) rfl ?_); refine goesL_ (some 29) rfl rfl Tryd.func12 (by kernel_rfl) rfl #[.slice A2 l2.length c2] rfl (by (try simp only [List.map_toArray, List.map_cons, List.map_nil]); first | done | rfl | (simp only [List.length_drop, List.length_take]; rfl)) ?_; (with_reducible refine (wicketmanlaw11_Value.calls kj4 _ _ l2 t182 _ ?side1 ?side2 A15.out).mono ?_); (case side1 => repeat (first | exact (Kd.C_below HR2.out HB.out) | (with_reducible refine Kd.C_alloc ?_ _) | (with_reducible refine Kd.C_drewN ?_ _) | (with_reducible refine Kd.C_drew ?_))); (case side2 => exact HC2.out); rintro e w31 ⟨rfl, hb⟩; refine ⟨_, rfl, ?_⟩; have n0_ := Aside0.mk (below_step (by repeat (first | (with_reducible first | exact HB.out | apply below_alloc | apply pw_below_drewN | apply below_drew1) | exact HB.out)) hb); clear HB; have HB := n0_; clear n0_; (try clear hb); (try clear hb2); (try clear hk); (try clear hi)) | ((with_reducible refine gate_callee (f := 12) rfl ?_); refine goesL_ (some 31) rfl rfl Tryd.func12 (by kernel_rfl) rfl #[.slice A3 l3.length c3] rfl (by (try simp only [List.map_toArray, List.map_cons, List.map_nil]); first | done | rfl | (simp only [List.length_drop, List.length_take]; rfl)) ?_; (with_reducible refine (wicketmanlaw11_Value.calls kj4 _ _ l3 t183 _ ?side1 ?side2 A16.out).mono ?_); (case side1 => repeat (first | exact (Kd.C_below HR3.out HB.out) | (with_reducible refine Kd.C_alloc ?_ _) | (with_reducible refine Kd.C_drewN ?_ _) | (with_reducible refine Kd.C_drew ?_))); (case side2 => exact HC3.out); rintro e w32 ⟨rfl, hb⟩; refine ⟨_, rfl, ?_⟩; have n0_ := Aside0.mk (below_step (by repeat (first | (with_reducible first | exact HB.out | apply below_alloc | apply pw_below_drewN | apply below_drew1) | exact HB.out)) hb); clear HB; have HB := n0_; clear n0_; (try clear hb); (try clear hb2); (try clear hk); (try clear hi)) | ((with_reducible refine gate_callee (f := 13) rfl ?_); refine goesL_ (some 33) rfl rfl Tryd.func13 (by kernel_rfl) rfl #[.string a0] rfl (by (try simp only [List.map_toArray, List.map_cons, List.map_nil]); first | done | rfl | (simp only [List.length_drop, List.length_take]; rfl)) ?_; (with_reducible refine (wicketmanlaw11_parses.calls kj4 a0 true _ (by first | exact hS | (refine Sh.of_below hS ?_; repeat (first | (with_reducible first | exact HB.out | apply below_alloc | apply pw_below_drewN | apply below_drew1) | exact HB.out | refine Below.setCell ?_ (Aside0.out (by assumption)) _)) | (refine Sh.of_below hS ?_; assumption)) A17.out).mono ?_); rintro e w33 ⟨rfl, hb⟩; refine ⟨_, rfl, ?_⟩; have n0_ := Aside0.mk (below_step (by repeat (first | (with_reducible first | exact HB.out | apply below_alloc | apply pw_below_drewN | apply below_drew1) | exact HB.out)) hb); clear HB; have HB := n0_; clear n0_; (try clear hb); (try clear hb2); (try clear hk); (try clear hi)) | (go_at_call 13; (with_reducible refine (wicketmanlaw11_parses.calls kj4 t182 true _ (by first | exact hS | (refine Sh.of_below hS ?_; repeat (first | (with_reducible first | exact HB.out | apply below_alloc | apply pw_below_drewN | apply below_drew1) | exact HB.out | refine Below.setCell ?_ (Aside0.out (by assumption)) _)) | (refine Sh.of_below hS ?_; assumption)) A19.out).mono ?_); rintro e w34 ⟨rfl, hb⟩; have n0_ := Aside0.mk (below_step (by repeat (first | (with_reducible first | exact HB.out | apply below_alloc | apply pw_below_drewN | apply below_drew1) | exact HB.out)) hb); clear HB; have HB := n0_; clear n0_; (try clear hb); (try clear hb2); (try clear hk); (try clear hi)) | (go_at_call 13; (with_reducible refine (wicketmanlaw11_parses.calls kj4 ((⟨#[97, 61, 49, 59, 32]⟩ : ByteArray) ++ t183) true _ (by first | exact hS | (refine Sh.of_below hS ?_; repeat (first | (with_reducible first | exact HB.out | apply below_alloc | apply pw_below_drewN | apply below_drew1) | exact HB.out | refine Below.setCell ?_ (Aside0.out (by assumption)) _)) | (refine Sh.of_below hS ?_; assumption)) A22.out).mono ?_); rintro e w35 ⟨rfl, hb⟩; have n0_ := Aside0.mk (below_step (by repeat (first | (with_reducible first | exact HB.out | apply below_alloc | apply pw_below_drewN | apply below_drew1) | exact HB.out)) hb); clear HB; have HB := n0_; clear n0_; (try clear hb); (try clear hb2); (try clear hk); (try clear hi)) | (go_at_call 14; (with_reducible refine (wicketmanlaw11_session.calls kj4 _ _ l1 true _ ?side1 ?side2 (by first | exact hS | (refine Sh.of_below hS ?_; repeat (first | (with_reducible first | exact HB.out | apply below_alloc | apply pw_below_drewN | apply below_drew1) | exact HB.out | refine Below.setCell ?_ (Aside0.out (by assumption)) _)) | (refine Sh.of_below hS ?_; assumption)) A24.out).mono ?_); (case side1 => repeat (first | exact (Kd.C_below HR1.out HB.out) | (with_reducible refine Kd.C_alloc ?_ _) | (with_reducible refine Kd.C_drewN ?_ _) | (with_reducible refine Kd.C_drew ?_))); (case side2 => exact HC1.out); rintro e w36 ⟨rfl, hb⟩; have n0_ := Aside0.mk (below_step (by repeat (first | (with_reducible first | exact HB.out | apply below_alloc | apply pw_below_drewN | apply below_drew1) | exact HB.out)) hb); clear HB; have HB := n0_; clear n0_; (try clear hb); (try clear hb2); (try clear hk); (try clear hi)) | ((with_reducible refine gate_dst (N := 50) rfl ?_); (try (refine gate_guard (by rfl) ?_; dsimp only)); refine Kd.R_lit Kd.string _ 9 ?hg (N := 50) ?hd (xs := ([t182, t183] : List ByteArray)) (inner := [.string t182, .string t183]) (ok := fun _ => True) (okp := fun _ => True) ?hr ?hp (fun _ hk => hk) trivial (Below.refl _ _) (Nat.le_refl _) (by simp) ?_; (case hd => rfl); (case hg => rfl); (case hr => first | (go_simp; done) | (go_simp; rfl)); (case hp => exact (Reps.one (show Kd.M Kd.string _ _ _ t182 [.string t182] from rfl) (Reps.one (show Kd.M Kd.string _ _ _ t183 [.string t183] from rfl) (Reps.none _ _)))); intro v189 w37 ho38 hb hg_ hnew_; clear hg_ hnew_; (first | rw [← Ny188.out] at ho38 | (simp only [Int.reduceToNat] at ho38; rw [← Ny188.out] at ho38)); have n0_ := Aside0.mk (Kd.R_lower ho38 (below_size (by repeat (first | (with_reducible first | exact HB.out | apply below_alloc | apply pw_below_drewN | apply below_drew1) | exact HB.out)))); have n1_ := Aside0.mk (below_step (by repeat (first | (with_reducible first | exact HB.out | apply below_alloc | apply pw_below_drewN | apply below_drew1) | exact HB.out)) hb); clear HB; have HO190 := n0_; have HB := n1_; clear n0_ n1_; clear hb ho38; obtain ⟨Ao39, co39, eo39⟩ := Kd.R_slice HO190.out; subst eo39) | (go_at_call 14; (with_reducible refine (wicketmanlaw11_session.calls kj4 _ _ y188 true _ ?side1 ?side2 (by first | exact hS | (refine Sh.of_below hS ?_; repeat (first | (with_reducible first | exact HB.out | apply below_alloc | apply pw_below_drewN | apply below_drew1) | exact HB.out | refine Below.setCell ?_ (Aside0.out (by assumption)) _)) | (refine Sh.of_below hS ?_; assumption)) A26.out).mono ?_); (case side1 => repeat (first | exact (Kd.R_reads' HO190.out).2.2 | (with_reducible refine Kd.C_alloc ?_ _) | (with_reducible refine Kd.C_drewN ?_ _) | (with_reducible refine Kd.C_drew ?_))); (case side2 => exact (Kd.R_reads' HO190.out).2.1); rintro e w40 ⟨rfl, hb⟩; have n0_ := Aside0.mk (Kd.R_below (by (with_reducible repeat (first | apply Kd.R_alloc | apply Kd.R_drewN | apply Kd.R_drew)); exact HO190.out) hb); have n1_ := Aside0.mk (below_step (by repeat (first | (with_reducible first | exact HB.out | apply below_alloc | apply pw_below_drewN | apply below_drew1) | exact HB.out)) hb); clear HO190; clear HB; have HO190 := n0_; have HB := n1_; clear n0_ n1_; (try clear hb); (try clear hb2); (try clear hk); (try clear hi)) | ((with_reducible refine gate_dst (N := 55) rfl ?_); (try (refine gate_guard (by rfl) ?_; dsimp only)); refine Kd.R_lit Kd.string _ 9 ?hg (N := 55) ?hd (xs := ([t182] : List ByteArray)) (inner := [.string t182]) (ok := fun _ => True) (okp := fun _ => True) ?hr ?hp (fun _ hk => hk) trivial (Below.refl _ _) (Nat.le_refl _) (by simp) ?_; (case hd => rfl); (case hg => rfl); (case hr => first | (go_simp; done) | (go_simp; rfl)); (case hp => exact (Reps.one (show Kd.M Kd.string _ _ _ t182 [.string t182] from rfl) (Reps.none _ _))); intro v193 w41 ho42 hb hg_ hnew_; clear hg_ hnew_; (first | rw [← Ny192.out] at ho42 | (simp only [Int.reduceToNat] at ho42; rw [← Ny192.out] at ho42)); have n0_ := Aside0.mk (Kd.R_elder' (by (with_reducible repeat (first | apply Kd.R_alloc | apply Kd.R_drewN | apply Kd.R_drew)); exact HO190.out) (Kd.R_base ho42) hb); have n1_ := Aside0.mk (Kd.R_lower (Kd.R_new' ho42 (Kd.R_lt (by (with_reducible repeat (first | apply Kd.R_alloc | apply Kd.R_drewN | apply Kd.R_drew)); exact HO190.out))) (below_size (by repeat (first | (with_reducible first | exact HB.out | apply below_alloc | apply pw_below_drewN | apply below_drew1) | exact HB.out)))); have n2_ := Aside0.mk (below_step (by repeat (first | (with_reducible first | exact HB.out | apply below_alloc | apply pw_below_drewN | apply below_drew1) | exact HB.out)) hb); clear HO190; clear HB; have HO190 := n0_; have HO194 := n1_; have HB := n2_; clear n0_ n1_ n2_; clear hb ho42; obtain ⟨Ao43, co43, eo43⟩ := Kd.R_slice HO194.out; subst eo43) | (go_at_call 14; (with_reducible refine (wicketmanlaw11_session.calls kj4 _ _ y192 true _ ?side1 ?side2 (by first | exact hS | (refine Sh.of_below hS ?_; repeat (first | (with_reducible first | exact HB.out | apply below_alloc | apply pw_below_drewN | apply below_drew1) | exact HB.out | refine Below.setCell ?_ (Aside0.out (by assumption)) _)) | (refine Sh.of_below hS ?_; assumption)) A28.out).mono ?_); (case side1 => repeat (first | exact (Kd.R_reads' HO194.out).2.2 | (with_reducible refine Kd.C_alloc ?_ _) | (with_reducible refine Kd.C_drewN ?_ _) | (with_reducible refine Kd.C_drew ?_))); (case side2 => exact (Kd.R_reads' HO194.out).2.1); rintro e w44 ⟨rfl, hb⟩; have n0_ := Aside0.mk (Kd.R_below (by (with_reducible repeat (first | apply Kd.R_alloc | apply Kd.R_drewN | apply Kd.R_drew)); exact HO190.out) hb); have n1_ := Aside0.mk (Kd.R_below (by (with_reducible repeat (first | apply Kd.R_alloc | apply Kd.R_drewN | apply Kd.R_drew)); exact HO194.out) hb); have n2_ := Aside0.mk (below_step (by repeat (first | (with_reducible first | exact HB.out | apply below_alloc | apply pw_below_drewN | apply below_drew1) | exact HB.out)) hb); clear HO190; clear HO194; clear HB; have HO190 := n0_; have HO194 := n1_; have HB := n2_; clear n0_ n1_ n2_; (try clear hb); (try clear hb2); (try clear hk); (try clear hi)) | ((with_reducible refine gate_dst (N := 60) rfl ?_); (try (refine gate_guard (by rfl) ?_; dsimp only)); refine Kd.R_lit Kd.string _ 9 ?hg (N := 60) ?hd (xs := ([(⟨#[95, 95, 72, 111, 115, 116, 45, 105, 100, 61, 57]⟩ : ByteArray), t183] : List ByteArray)) (inner := [.string (⟨#[95, 95, 72, 111, 115, 116, 45, 105, 100, 61, 57]⟩ : ByteArray), .string t183]) (ok := fun _ => True) (okp := fun _ => True) ?hr ?hp (fun _ hk => hk) trivial (Below.refl _ _) (Nat.le_refl _) (by simp) ?_; (case hd => rfl); (case hg => rfl); (case hr => first | (go_simp; done) | (go_simp; rfl)); (case hp => exact (Reps.one (show Kd.M Kd.string _ _ _ (⟨#[95, 95, 72, 111, 115, 116, 45, 105, 100, 61, 57]⟩ : ByteArray) [.string (⟨#[95, 95, 72, 111, 115, 116, 45, 105, 100, 61, 57]⟩ : ByteArray)] from rfl) (Reps.one (show Kd.M Kd.string _ _ _ t183 [.string t183] from rfl) (Reps.none _ _)))); intro v197 w45 ho46 hb hg_ hnew_; clear hg_ hnew_; (first | rw [← Ny196.out] at ho46 | (simp only [Int.reduceToNat] at ho46; rw [← Ny196.out] at ho46)); have n0_ := Aside0.mk (Kd.R_elder' (by (with_reducible repeat (first | apply Kd.R_alloc | apply Kd.R_drewN | apply Kd.R_drew)); exact HO190.out) (Kd.R_base ho46) hb); have n1_ := Aside0.mk (Kd.R_elder' (by (with_reducible repeat (first | apply Kd.R_alloc | apply Kd.R_drewN | apply Kd.R_drew)); exact HO194.out) (Kd.R_base ho46) hb); have n2_ := Aside0.mk (Kd.R_lower (Kd.R_new' (Kd.R_new' ho46 (Kd.R_lt (by (with_reducible repeat (first | apply Kd.R_alloc | apply Kd.R_drewN | apply Kd.R_drew)); exact HO190.out))) (Kd.R_lt (by (with_reducible repeat (first | apply Kd.R_alloc | apply Kd.R_drewN | apply Kd.R_drew)); exact HO194.out))) (below_size (by repeat (first | (with_reducible first | exact HB.out | apply below_alloc | apply pw_below_drewN | apply below_drew1) | exact HB.out)))); have n3_ := Aside0.mk (below_step (by repeat (first | (with_reducible first | exact HB.out | apply below_alloc | apply pw_below_drewN | apply below_drew1) | exact HB.out)) hb); clear HO190; clear HO194; clear HB; have HO190 := n0_; have HO194 := n1_; have HO198 := n2_; have HB := n3_; clear n0_ n1_ n2_ n3_; clear hb ho46; obtain ⟨Ao47, co47, eo47⟩ := Kd.R_slice HO198.out; subst eo47) | (go_at_call 14; (with_reducible refine (wicketmanlaw11_session.calls kj4 _ _ y196 t199 _ ?side1 ?side2 (by first | exact hS | (refine Sh.of_below hS ?_; repeat (first | (with_reducible first | exact HB.out | apply below_alloc | apply pw_below_drewN | apply below_drew1) | exact HB.out | refine Below.setCell ?_ (Aside0.out (by assumption)) _)) | (refine Sh.of_below hS ?_; assumption)) A30.out).mono ?_); (case side1 => repeat (first | exact (Kd.R_reads' HO198.out).2.2 | (with_reducible refine Kd.C_alloc ?_ _) | (with_reducible refine Kd.C_drewN ?_ _) | (with_reducible refine Kd.C_drew ?_))); (case side2 => exact (Kd.R_reads' HO198.out).2.1); rintro e w48 ⟨rfl, hb⟩; have n0_ := Aside0.mk (Kd.R_below (by (with_reducible repeat (first | apply Kd.R_alloc | apply Kd.R_drewN | apply Kd.R_drew)); exact HO190.out) hb); have n1_ := Aside0.mk (Kd.R_below (by (with_reducible repeat (first | apply Kd.R_alloc | apply Kd.R_drewN | apply Kd.R_drew)); exact HO194.out) hb); have n2_ := Aside0.mk (Kd.R_below (by (with_reducible repeat (first | apply Kd.R_alloc | apply Kd.R_drewN | apply Kd.R_drew)); exact HO198.out) hb); have n3_ := Aside0.mk (below_step (by repeat (first | (with_reducible first | exact HB.out | apply below_alloc | apply pw_below_drewN | apply below_drew1) | exact HB.out)) hb); clear HO190; clear HO194; clear HO198; clear HB; have HO190 := n0_; have HO194 := n1_; have HO198 := n2_; have HB := n3_; clear n0_ n1_ n2_ n3_; (try clear hb); (try clear hb2); (try clear hk); (try clear hi)))
                      go_ret
                      exact ⟨by first | rfl | (simp [errW_none, errW_some] <;> rfl) | (simp [*, errW_none, errW_some] <;> rfl), by repeat (first | (with_reducible first | exact HB.out | apply below_alloc | apply pw_below_drewN | apply below_drew1) | exact HB.out)⟩
                    · replace c29 := Bool.eq_false_iff.mpr c29
                      subst c29
                      have H1 : (some false) = some r := by rw [if_neg (show ¬ (false = true) by decide)] at H; exact H
                      clear H
                      have H := H1
                      clear H1
                      exact absurd (Option.some.inj H) (by rw [hTR.out]; decide)
                  · replace c27 := Bool.eq_false_iff.mpr c27
                    subst c27
                    have H1 : (some false) = some r := by rw [if_neg (show ¬ (false = true) by decide)] at H; exact H
                    clear H
                    have H := H1
                    clear H1
                    exact absurd (Option.some.inj H) (by rw [hTR.out]; decide)
                · replace c25 := Bool.eq_false_iff.mpr c25
                  subst c25
                  have H1 : (some false) = some r := by rw [if_neg (show ¬ (false = true) by decide)] at H; exact H
                  clear H
                  have H := H1
                  clear H1
                  exact absurd (Option.some.inj H) (by rw [hTR.out]; decide)
              · replace c23 := Bool.eq_false_iff.mpr c23
                subst c23
                have H1 : (some false) = some r := by rw [if_neg (show ¬ (false = true) by decide)] at H; exact H
                clear H
                have H := H1
                clear H1
                exact absurd (Option.some.inj H) (by rw [hTR.out]; decide)
            · rw [if_neg c21] at H
              exact absurd H (by simp)
          · replace c20 := Bool.eq_false_iff.mpr c20
            subst c20
            have H1 : (some false) = some r := by rw [if_neg (show ¬ (false = true) by decide)] at H; exact H
            clear H
            have H := H1
            clear H1
            exact absurd (Option.some.inj H) (by rw [hTR.out]; decide)
        · replace c18 := Bool.eq_false_iff.mpr c18
          subst c18
          have H1 : (some false) = some r := by rw [if_neg (show ¬ (false = true) by decide)] at H; exact H
          clear H
          have H := H1
          clear H1
          exact absurd (Option.some.inj H) (by rw [hTR.out]; decide)

end Go.Proofs.YtipbgnhhmgljnaaDoor.Pall

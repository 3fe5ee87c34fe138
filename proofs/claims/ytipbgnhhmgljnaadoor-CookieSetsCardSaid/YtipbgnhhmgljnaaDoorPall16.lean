-- Written by a program of this session: the kit's print with given contracts. Not trusted: Lean checks it.
import Derived.Test.YtipbgnhhmgljnaaDoorPall0
import Derived.Test.YtipbgnhhmgljnaaDoorPall2
namespace Go.Proofs.YtipbgnhhmgljnaaDoor.Pall
open Go.RowKit Go.Proofs.YtipbgnhhmgljnaaDoorW.PrintWords Go.Proofs.YtipbgnhhmgljnaaDoorW.PrintLast Go.Proofs.YtipbgnhhmgljnaaDoorW.PrintMore
attribute [local go_sem] max2_int min2_int max_two min_two
set_option linter.unusedVariables false
set_option linter.unusedSimpArgs false

/-! ### head_Same: function 50 -/
def head_Same.f (a0 : ByteArray) (a1 : ByteArray) : Option (Bool) := (head_small.f a0).bind fun t281 => ((head_small.f a1).bind fun t282 => (some (t281.toList == t282.toList)))
set_option maxHeartbeats 8000000 in
set_option maxRecDepth 100000 in
theorem head_Same.calls (a0 : ByteArray) (a1 : ByteArray) (r : Bool) (w : World) (h : head_Same.f a0 a1 = some r) :
  Calls Tryd.prog 50 #[.string a0, .string a1] w fun e w' => e = .returned (.bool r) ∧ Below w.heap.size w w' := by
 have HB := Aside0.mk (Below.refl w.heap.size w)
 have H : ((head_small.f a0).bind fun t281 => ((head_small.f a1).bind fun t282 => (some (t281.toList == t282.toList)))) = some r := h
 clear h
 replace H := Option.bind_eq_some_iff.mp H
 obtain ⟨t281, A30, H⟩ := H
 try dsimp only at H
 have A3 := Aside0.mk A30
 clear A30
 replace H := Option.bind_eq_some_iff.mp H
 obtain ⟨t282, A40, H⟩ := H
 try dsimp only at H
 have A4 := Aside0.mk A40
 clear A40
 obtain rfl := Option.some.inj H
 go_enter Tryd.func50, Tryd.ntmps50
 go_wp2_with (first | ((with_reducible refine gate_callee (f := 62) rfl ?_); refine goesL_ (some 6) rfl rfl Tryd.func62 (by kernel_rfl) rfl #[.string a0] rfl (by (try simp only [List.map_toArray, List.map_cons, List.map_nil]); first | done | rfl | (simp only [List.length_drop, List.length_take]; rfl)) ?_; (with_reducible refine (head_small.calls a0 t281 _ A3.out).mono ?_); rintro e w5 ⟨rfl, hb⟩; refine ⟨_, rfl, ?_⟩; have n0_ := Aside0.mk (below_step (by repeat (first | (with_reducible first | apply bA | apply bN | apply bD) | exact HB.out)) hb); clear HB; have HB := n0_; clear n0_; (try clear hb); (try clear hb2); (try clear hk); (try clear hi)) | ((with_reducible refine gate_callee (f := 62) rfl ?_); refine goesL_ (some 8) rfl rfl Tryd.func62 (by kernel_rfl) rfl #[.string a1] rfl (by (try simp only [List.map_toArray, List.map_cons, List.map_nil]); first | done | rfl | (simp only [List.length_drop, List.length_take]; rfl)) ?_; (with_reducible refine (head_small.calls a1 t282 _ A4.out).mono ?_); rintro e w6 ⟨rfl, hb⟩; refine ⟨_, rfl, ?_⟩; have n0_ := Aside0.mk (below_step (by repeat (first | (with_reducible first | apply bA | apply bN | apply bD) | exact HB.out)) hb); clear HB; have HB := n0_; clear n0_; (try clear hb); (try clear hb2); (try clear hk); (try clear hi)))
 go_ret
 exact ⟨by first | rfl | (simp [errW_none, errW_some] <;> rfl) | (simp [*, errW_none, errW_some] <;> rfl), by repeat (first | (with_reducible first | apply bA | apply bN | apply bD) | exact HB.out)⟩

/-! ### cookie_begins: function 35 -/
def cookie_begins.f (a0 : ByteArray) (a1 : ByteArray) : Option (Bool) := if (a0.size : Int) ≥ (a1.size : Int) then (if 0 ≤ (a1.size : Int) then (if (a1.size : Int) ≤ (a0.size : Int) then ((head_Same.f (a0.extract 0 ((a1.size : Int) : Int).toNat) a1).bind fun t283 => (some t283)) else (none)) else (none)) else (some false)
set_option maxHeartbeats 8000000 in
set_option maxRecDepth 100000 in
theorem cookie_begins.calls (a0 : ByteArray) (a1 : ByteArray) (r : Bool) (w : World) (h : cookie_begins.f a0 a1 = some r) :
  Calls Tryd.prog 35 #[.string a0, .string a1] w fun e w' => e = .returned (.bool r) ∧ Below w.heap.size w w' := by
 have HB := Aside0.mk (Below.refl w.heap.size w)
 have H : (if (a0.size : Int) ≥ (a1.size : Int) then (if 0 ≤ (a1.size : Int) then (if (a1.size : Int) ≤ (a0.size : Int) then ((head_Same.f (a0.extract 0 ((a1.size : Int) : Int).toNat) a1).bind fun t283 => (some t283)) else (none)) else (none)) else (some false)) = some r := h
 clear h
 by_cases c3 : (a0.size : Int) ≥ (a1.size : Int)
 ·rw [if_pos c3] at H
  have c3b0 : decide ((a1.size : Int) ≤ (a0.size : Int)) = true := decide_eq_true c3
  have c3b1 : decide (a1.size ≤ a0.size) = true := decide_eq_true (Int.ofNat_le.mp c3)
  clear c3
  by_cases c4 : 0 ≤ (a1.size : Int)
  ·rw [if_pos c4] at H
   have c4b0 := eq_true c4
   have c4b1 : decide (0 ≤ (a1.size : Int)) = true := decide_eq_true c4
   clear c4
   by_cases c5 : (a1.size : Int) ≤ (a0.size : Int)
   ·rw [if_pos c5] at H
    have c5b0 := eq_true c5
    have c5b1 : decide ((a1.size : Int) ≤ (a0.size : Int)) = true := decide_eq_true c5
    clear c5
    replace H := Option.bind_eq_some_iff.mp H
    obtain ⟨t283, A60, H⟩ := H
    try dsimp only at H
    have A6 := Aside0.mk (by simpa only [Int.toNat_natCast] using A60)
    clear A60
    obtain rfl := Option.some.inj H
    go_enter Tryd.func35, Tryd.ntmps35
    go_wp2_with (first | (go_at_call 50; (with_reducible refine (head_Same.calls (a0.extract 0 a1.size) a1 t283 _ A6.out).mono ?_); rintro e w7 ⟨rfl, hb⟩; have n0_ := Aside0.mk (below_step (by repeat (first | (with_reducible first | apply bA | apply bN | apply bD) | exact HB.out)) hb); clear HB; have HB := n0_; clear n0_; (try clear hb); (try clear hb2); (try clear hk); (try clear hi)))
    go_ret
    exact ⟨by first | rfl | (simp [errW_none, errW_some] <;> rfl) | (simp [*, errW_none, errW_some] <;> rfl), by repeat (first | (with_reducible first | apply bA | apply bN | apply bD) | exact HB.out)⟩
   ·rw [if_neg c5] at H
    exact absurd H (by simp)
  ·rw [if_neg c4] at H
   exact absurd H (by simp)
 ·rw [if_neg c3] at H
  have c3b0 : decide ((a1.size : Int) ≤ (a0.size : Int)) = false := decide_eq_false c3
  have c3b1 : decide (a1.size ≤ a0.size) = false := decide_eq_false (fun h => c3 (Int.ofNat_le.mpr h))
  clear c3
  obtain rfl := Option.some.inj H
  go_enter Tryd.func35, Tryd.ntmps35
  go_wp2
  go_ret
  exact ⟨by first | rfl | (simp [errW_none, errW_some] <;> rfl) | (simp [*, errW_none, errW_some] <;> rfl), by repeat (first | (with_reducible first | apply bA | apply bN | apply bD) | exact HB.out)⟩

/-! ### cookie_Prefix: function 19 -/
def cookie_Prefix.f (a0 : ByteArray) (a1 : Bool) (a2 : ByteArray) (a3 : Bool) : Option (Bool) := (cookie_begins.f a0 (⟨#[95, 95, 72, 111, 115, 116, 45]⟩ : ByteArray)).bind fun t284 => (if t284 = true then (if a1 = true then (if a2.toList = ([47] : List UInt8) then (some (!a3)) else (some false)) else (some false)) else ((cookie_begins.f a0 (⟨#[95, 95, 83, 101, 99, 117, 114, 101, 45]⟩ : ByteArray)).bind fun t285 => (if t285 = true then (some a1) else (some true))))
set_option maxHeartbeats 8000000 in
set_option maxRecDepth 100000 in
theorem cookie_Prefix.calls (a0 : ByteArray) (a1 : Bool) (a2 : ByteArray) (a3 : Bool) (r : Bool) (w : World) (h : cookie_Prefix.f a0 a1 a2 a3 = some r) :
  Calls Tryd.prog 19 #[.string a0, .bool a1, .string a2, .bool a3] w fun e w' => e = .returned (.bool r) ∧ Below w.heap.size w w' := by
 have HB := Aside0.mk (Below.refl w.heap.size w)
 have H : ((cookie_begins.f a0 (⟨#[95, 95, 72, 111, 115, 116, 45]⟩ : ByteArray)).bind fun t284 => (if t284 = true then (if a1 = true then (if a2.toList = ([47] : List UInt8) then (some (!a3)) else (some false)) else (some false)) else ((cookie_begins.f a0 (⟨#[95, 95, 83, 101, 99, 117, 114, 101, 45]⟩ : ByteArray)).bind fun t285 => (if t285 = true then (some a1) else (some true))))) = some r := h
 clear h
 replace H := Option.bind_eq_some_iff.mp H
 obtain ⟨t284, A50, H⟩ := H
 try dsimp only at H
 have A5 := Aside0.mk A50
 clear A50
 by_cases c6 : t284 = true
 ·subst c6
  rw [if_pos rfl] at H
  by_cases c7 : a1 = true
  ·subst c7
   rw [if_pos rfl] at H
   by_cases c8 : a2.toList = ([47] : List UInt8)
   ·rw [if_pos c8] at H
    have c8b0 : (a2.toList == ([47] : List UInt8)) = true := beq_iff_eq.mpr c8
    have c8b1 : (a2.toList != ([47] : List UInt8)) = false := bne_eq_false_iff_eq.mpr c8
    clear c8
    obtain rfl := Option.some.inj H
    go_enter Tryd.func19, Tryd.ntmps19
    go_wp2_with (first | ((with_reducible refine gate_callee (f := 35) rfl ?_); refine goesL_ (some 11) rfl rfl Tryd.func35 (by kernel_rfl) rfl #[.string a0, .string (⟨#[95, 95, 72, 111, 115, 116, 45]⟩ : ByteArray)] rfl (by (try simp only [List.map_toArray, List.map_cons, List.map_nil]); first | done | rfl | (simp only [List.length_drop, List.length_take]; rfl)) ?_; (with_reducible refine (cookie_begins.calls a0 (⟨#[95, 95, 72, 111, 115, 116, 45]⟩ : ByteArray) true _ A5.out).mono ?_); rintro e w9 ⟨rfl, hb⟩; refine ⟨_, rfl, ?_⟩; have n0_ := Aside0.mk (below_step (by repeat (first | (with_reducible first | apply bA | apply bN | apply bD) | exact HB.out)) hb); clear HB; have HB := n0_; clear n0_; (try clear hb); (try clear hb2); (try clear hk); (try clear hi)))
    go_ret
    exact ⟨by first | rfl | (simp [errW_none, errW_some] <;> rfl) | (simp [*, errW_none, errW_some] <;> rfl), by repeat (first | (with_reducible first | apply bA | apply bN | apply bD) | exact HB.out)⟩
   ·rw [if_neg c8] at H
    have c8b0 : (a2.toList == ([47] : List UInt8)) = false := beq_eq_false_iff_ne.mpr c8
    have c8b1 : (a2.toList != ([47] : List UInt8)) = true := bne_iff_ne.mpr c8
    obtain rfl := Option.some.inj H
    go_enter Tryd.func19, Tryd.ntmps19
    go_wp2_with (first | ((with_reducible refine gate_callee (f := 35) rfl ?_); refine goesL_ (some 11) rfl rfl Tryd.func35 (by kernel_rfl) rfl #[.string a0, .string (⟨#[95, 95, 72, 111, 115, 116, 45]⟩ : ByteArray)] rfl (by (try simp only [List.map_toArray, List.map_cons, List.map_nil]); first | done | rfl | (simp only [List.length_drop, List.length_take]; rfl)) ?_; (with_reducible refine (cookie_begins.calls a0 (⟨#[95, 95, 72, 111, 115, 116, 45]⟩ : ByteArray) true _ A5.out).mono ?_); rintro e w10 ⟨rfl, hb⟩; refine ⟨_, rfl, ?_⟩; have n0_ := Aside0.mk (below_step (by repeat (first | (with_reducible first | apply bA | apply bN | apply bD) | exact HB.out)) hb); clear HB; have HB := n0_; clear n0_; (try clear hb); (try clear hb2); (try clear hk); (try clear hi)))
    go_ret
    exact ⟨by first | rfl | (simp [errW_none, errW_some] <;> rfl) | (simp [*, errW_none, errW_some] <;> rfl), by repeat (first | (with_reducible first | apply bA | apply bN | apply bD) | exact HB.out)⟩
  ·replace c7 := Bool.eq_false_iff.mpr c7
   subst c7
   rw [if_neg (show ¬ (false = true) by decide)] at H
   obtain rfl := Option.some.inj H
   go_enter Tryd.func19, Tryd.ntmps19
   go_wp2_with (first | ((with_reducible refine gate_callee (f := 35) rfl ?_); refine goesL_ (some 11) rfl rfl Tryd.func35 (by kernel_rfl) rfl #[.string a0, .string (⟨#[95, 95, 72, 111, 115, 116, 45]⟩ : ByteArray)] rfl (by (try simp only [List.map_toArray, List.map_cons, List.map_nil]); first | done | rfl | (simp only [List.length_drop, List.length_take]; rfl)) ?_; (with_reducible refine (cookie_begins.calls a0 (⟨#[95, 95, 72, 111, 115, 116, 45]⟩ : ByteArray) true _ A5.out).mono ?_); rintro e w11 ⟨rfl, hb⟩; refine ⟨_, rfl, ?_⟩; have n0_ := Aside0.mk (below_step (by repeat (first | (with_reducible first | apply bA | apply bN | apply bD) | exact HB.out)) hb); clear HB; have HB := n0_; clear n0_; (try clear hb); (try clear hb2); (try clear hk); (try clear hi)))
   go_ret
   exact ⟨by first | rfl | (simp [errW_none, errW_some] <;> rfl) | (simp [*, errW_none, errW_some] <;> rfl), by repeat (first | (with_reducible first | apply bA | apply bN | apply bD) | exact HB.out)⟩
 ·replace c6 := Bool.eq_false_iff.mpr c6
  subst c6
  rw [if_neg (show ¬ (false = true) by decide)] at H
  replace H := Option.bind_eq_some_iff.mp H
  obtain ⟨t285, A120, H⟩ := H
  try dsimp only at H
  have A12 := Aside0.mk A120
  clear A120
  by_cases c13 : t285 = true
  ·subst c13
   rw [if_pos rfl] at H
   obtain rfl := Option.some.inj H
   go_enter Tryd.func19, Tryd.ntmps19
   go_wp2_with (first | ((with_reducible refine gate_callee (f := 35) rfl ?_); refine goesL_ (some 11) rfl rfl Tryd.func35 (by kernel_rfl) rfl #[.string a0, .string (⟨#[95, 95, 72, 111, 115, 116, 45]⟩ : ByteArray)] rfl (by (try simp only [List.map_toArray, List.map_cons, List.map_nil]); first | done | rfl | (simp only [List.length_drop, List.length_take]; rfl)) ?_; (with_reducible refine (cookie_begins.calls a0 (⟨#[95, 95, 72, 111, 115, 116, 45]⟩ : ByteArray) false _ A5.out).mono ?_); rintro e w14 ⟨rfl, hb⟩; refine ⟨_, rfl, ?_⟩; have n0_ := Aside0.mk (below_step (by repeat (first | (with_reducible first | apply bA | apply bN | apply bD) | exact HB.out)) hb); clear HB; have HB := n0_; clear n0_; (try clear hb); (try clear hb2); (try clear hk); (try clear hi)) | ((with_reducible refine gate_callee (f := 35) rfl ?_); refine goesL_ (some 23) rfl rfl Tryd.func35 (by kernel_rfl) rfl #[.string a0, .string (⟨#[95, 95, 83, 101, 99, 117, 114, 101, 45]⟩ : ByteArray)] rfl (by (try simp only [List.map_toArray, List.map_cons, List.map_nil]); first | done | rfl | (simp only [List.length_drop, List.length_take]; rfl)) ?_; (with_reducible refine (cookie_begins.calls a0 (⟨#[95, 95, 83, 101, 99, 117, 114, 101, 45]⟩ : ByteArray) true _ A12.out).mono ?_); rintro e w15 ⟨rfl, hb⟩; refine ⟨_, rfl, ?_⟩; have n0_ := Aside0.mk (below_step (by repeat (first | (with_reducible first | apply bA | apply bN | apply bD) | exact HB.out)) hb); clear HB; have HB := n0_; clear n0_; (try clear hb); (try clear hb2); (try clear hk); (try clear hi)))
   go_ret
   exact ⟨by first | rfl | (simp [errW_none, errW_some] <;> rfl) | (simp [*, errW_none, errW_some] <;> rfl), by repeat (first | (with_reducible first | apply bA | apply bN | apply bD) | exact HB.out)⟩
  ·replace c13 := Bool.eq_false_iff.mpr c13
   subst c13
   rw [if_neg (show ¬ (false = true) by decide)] at H
   obtain rfl := Option.some.inj H
   go_enter Tryd.func19, Tryd.ntmps19
   go_wp2_with (first | ((with_reducible refine gate_callee (f := 35) rfl ?_); refine goesL_ (some 11) rfl rfl Tryd.func35 (by kernel_rfl) rfl #[.string a0, .string (⟨#[95, 95, 72, 111, 115, 116, 45]⟩ : ByteArray)] rfl (by (try simp only [List.map_toArray, List.map_cons, List.map_nil]); first | done | rfl | (simp only [List.length_drop, List.length_take]; rfl)) ?_; (with_reducible refine (cookie_begins.calls a0 (⟨#[95, 95, 72, 111, 115, 116, 45]⟩ : ByteArray) false _ A5.out).mono ?_); rintro e w16 ⟨rfl, hb⟩; refine ⟨_, rfl, ?_⟩; have n0_ := Aside0.mk (below_step (by repeat (first | (with_reducible first | apply bA | apply bN | apply bD) | exact HB.out)) hb); clear HB; have HB := n0_; clear n0_; (try clear hb); (try clear hb2); (try clear hk); (try clear hi)) | ((with_reducible refine gate_callee (f := 35) rfl ?_); refine goesL_ (some 23) rfl rfl Tryd.func35 (by kernel_rfl) rfl #[.string a0, .string (⟨#[95, 95, 83, 101, 99, 117, 114, 101, 45]⟩ : ByteArray)] rfl (by (try simp only [List.map_toArray, List.map_cons, List.map_nil]); first | done | rfl | (simp only [List.length_drop, List.length_take]; rfl)) ?_; (with_reducible refine (cookie_begins.calls a0 (⟨#[95, 95, 83, 101, 99, 117, 114, 101, 45]⟩ : ByteArray) false _ A12.out).mono ?_); rintro e w17 ⟨rfl, hb⟩; refine ⟨_, rfl, ?_⟩; have n0_ := Aside0.mk (below_step (by repeat (first | (with_reducible first | apply bA | apply bN | apply bD) | exact HB.out)) hb); clear HB; have HB := n0_; clear n0_; (try clear hb); (try clear hb2); (try clear hk); (try clear hi)))
   go_ret
   exact ⟨by first | rfl | (simp [errW_none, errW_some] <;> rfl) | (simp [*, errW_none, errW_some] <;> rfl), by repeat (first | (with_reducible first | apply bA | apply bN | apply bD) | exact HB.out)⟩

-- NOT PRINTED: function 7 (wicketmanlaw11_CookieHost)

/-! ### cookie_Read: function 20 -/
def cookie_Read.j0 : Nat → ByteArray → ByteArray → ByteArray → ByteArray → Bool → Option (ByteArray × ByteArray × Int × Bool)
 | 0, _, _, _, _, _ => none
 | k + 1, x0, x8, x11, x12, x46 => if x46 = true then (some ((⟨#[]⟩ : ByteArray), (⟨#[]⟩ : ByteArray), 0, false)) else ((num_Decimal.f x8 999999999).bind fun bt297 => ((cookie_Set.f x11 x12 bt297.1).bind fun bt299 => (if bt299.2 = 0 then (if bt299.1.toList = x0.toList then (some (x11, x12, bt297.1, true)) else (some ((⟨#[]⟩ : ByteArray), (⟨#[]⟩ : ByteArray), 0, false))) else (some ((⟨#[]⟩ : ByteArray), (⟨#[]⟩ : ByteArray), 0, false)))))
def cookie_Read.f (k : Nat) (a0 : ByteArray) : Option (ByteArray × ByteArray × Int × Bool) := (strings_Cut.f a0 (⟨#[59, 32, 77, 97, 120, 45, 65, 103, 101, 61]⟩ : ByteArray)).bind fun bt287 => ((strings_Cut.f bt287.2.1 (⟨#[59, 32]⟩ : ByteArray)).bind fun bt290 => ((strings_Cut.f bt287.1 (⟨#[61]⟩ : ByteArray)).bind fun bt293 => (if bt287.2.2 = true then (if bt290.2.2 = true then (cookie_Read.j0 k a0 bt290.1 bt293.1 bt293.2.1 (!bt293.2.2)) else (cookie_Read.j0 k a0 bt290.1 bt293.1 bt293.2.1 true)) else (cookie_Read.j0 k a0 bt290.1 bt293.1 bt293.2.1 true))))
theorem cookie_Read.mono_l : ∀ k, (∀ y0 y1 y2 y3 y4, LeO (cookie_Read.j0 k y0 y1 y2 y3 y4) (cookie_Read.j0 (k + 1) y0 y1 y2 y3 y4))
 | 0 => fun _ _ _ _ _ r h => by simp [cookie_Read.j0] at h
 | k + 1 => by
  have ih0 := cookie_Read.mono_l k
  ·intro y0 y1 y2 y3 y4
   unfold cookie_Read.j0
   repeat' first
   | (with_reducible exact ih0 _ _ _ _ _)
   | (with_reducible exact LeO.refl _)
   | (with_reducible exact LeO.none _)
   | (with_reducible refine LeO.ite ?_ ?_)
   | (with_reducible refine LeO.bind ?_ (fun _ => ?_))
   | exact ih0 _ _ _ _ _
   | exact LeO.none _
   | refine LeO.ite ?_ ?_
   | refine LeO.bind ?_ (fun _ => ?_)
theorem cookie_Read.mono : ∀ a0 k, LeO (cookie_Read.f k a0) (cookie_Read.f (k + 1) a0) := by
 intro a0 k
 have ih0 := cookie_Read.mono_l k
 unfold cookie_Read.f
 repeat' first
   | (with_reducible exact ih0 _ _ _ _ _)
   | (with_reducible exact LeO.refl _)
   | (with_reducible exact LeO.none _)
   | (with_reducible refine LeO.ite ?_ ?_)
   | (with_reducible refine LeO.bind ?_ (fun _ => ?_))
   | exact ih0 _ _ _ _ _
   | exact LeO.none _
   | refine LeO.ite ?_ ?_
   | refine LeO.bind ?_ (fun _ => ?_)
set_option maxHeartbeats 8000000 in
set_option maxRecDepth 100000 in
theorem cookie_Read.calls (k : Nat) (a0 : ByteArray) (r1 : ByteArray) (r2 : ByteArray) (r3 : Int) (r4 : Bool) (w : World) (hS : Sh w) (h : cookie_Read.f k a0 = some (r1, r2, r3, r4)) :
  Calls Tryd.prog 20 #[.string a0] w fun e w' => e = .returned (.tuple #[.agg #[.string r1, .string r2], .int .i64 r3, .bool r4]) ∧ Below w.heap.size w w' := by
 have hu38 := Tryd.underlying38
 have HB := Aside0.mk (Below.refl w.heap.size w)
 have H : ((strings_Cut.f a0 (⟨#[59, 32, 77, 97, 120, 45, 65, 103, 101, 61]⟩ : ByteArray)).bind fun bt287 => ((strings_Cut.f bt287.2.1 (⟨#[59, 32]⟩ : ByteArray)).bind fun bt290 => ((strings_Cut.f bt287.1 (⟨#[61]⟩ : ByteArray)).bind fun bt293 => (if bt287.2.2 = true then (if bt290.2.2 = true then (cookie_Read.j0 k a0 bt290.1 bt293.1 bt293.2.1 (!bt293.2.2)) else (cookie_Read.j0 k a0 bt290.1 bt293.1 bt293.2.1 true)) else (cookie_Read.j0 k a0 bt290.1 bt293.1 bt293.2.1 true))))) = some (r1, r2, r3, r4) := h
 clear h
 replace H := Option.bind_eq_some_iff.mp H
 obtain ⟨⟨t287, t288, t289⟩, A20, H⟩ := H
 try dsimp only at H
 have A2 := Aside0.mk A20
 clear A20
 replace H := Option.bind_eq_some_iff.mp H
 obtain ⟨⟨t290, t291, t292⟩, A30, H⟩ := H
 try dsimp only at H
 have A3 := Aside0.mk A30
 clear A30
 replace H := Option.bind_eq_some_iff.mp H
 obtain ⟨⟨t293, t294, t295⟩, A40, H⟩ := H
 try dsimp only at H
 have A4 := Aside0.mk A40
 clear A40
 have HC5 := Aside0.mk H
 clear H
 go_enter Tryd.func20, Tryd.ntmps20
 go_upto_region 4 with (first | ((with_reducible refine gate_dst (N := 2) rfl ?_); refine box_event ?hg (N := 2) ?hd (cs := #[.string (⟨#[]⟩ : ByteArray), .string (⟨#[]⟩ : ByteArray)]) (t := 38) ?hr ?_; (case hd => rfl); (case hg => rfl); (case hr => first | (go_simp; done) | (go_simp; rfl)); intro gb286 hg w6 hbox hb; have n0_ := Aside0.mk (below_step (by repeat (first | (with_reducible first | apply bA | apply bN | apply bD) | exact HB.out)) hb); have n1_ := Aside0.mk (hbox); have n2_ := Aside0.mk ((by rw [hg]; exact (below_size (by repeat (first | (with_reducible first | apply bA | apply bN | apply bD) | exact HB.out))) : w.heap.size ≤ gb286)); have n3_ := Aside0.mk ((by rw [hg]; exact (below_size (by repeat (first | (with_reducible first | apply bA | apply bN | apply bD) | exact HB.out))) : w.heap.size ≤ gb286)); clear HB; have HB := n0_; have BK286 := n1_; have GW286 := n2_; have GE286 := n3_; clear n0_ n1_ n2_ n3_; clear hb hbox hg) | ((with_reducible refine gate_callee (f := 36) rfl ?_); refine goesL_ (some 21) rfl rfl Tryd.func36 (by kernel_rfl) rfl #[.string a0, .string (⟨#[59, 32, 77, 97, 120, 45, 65, 103, 101, 61]⟩ : ByteArray)] rfl (by (try simp only [List.map_toArray, List.map_cons, List.map_nil]); first | done | rfl | (simp only [List.length_drop, List.length_take]; rfl)) ?_; (with_reducible refine (strings_Cut.calls a0 (⟨#[59, 32, 77, 97, 120, 45, 65, 103, 101, 61]⟩ : ByteArray) t287 t288 t289 _ (by first | exact hS | (refine Sh.of_below hS ?_; repeat (first | (with_reducible first | apply bA | apply bN | apply bD) | exact HB.out | refine Below.setCell ?_ (Aside0.out (by assumption)) _)) | (refine Sh.of_below hS ?_; assumption)) A2.out).mono ?_); rintro e w7 ⟨rfl, hb⟩; refine ⟨_, rfl, ?_⟩; have n0_ := Aside0.mk (blk_below (g := gb286) (o := .cells #[.string (⟨#[]⟩ : ByteArray), .string (⟨#[]⟩ : ByteArray)] 38 (0, 0)) (by (with_reducible repeat (first | refine blk_drewN ?_ _ | refine blk_drew ?_ | refine blk_alloc ?_ _)); exact BK286.out) hb); have n1_ := Aside0.mk (below_step (by repeat (first | (with_reducible first | apply bA | apply bN | apply bD | refine below_set ?_ GE286.out) | exact HB.out)) hb); clear BK286; clear HB; have BK286 := n0_; have HB := n1_; clear n0_ n1_; (try clear hb); (try clear hb2); (try clear hk); (try clear hi)) | ((with_reducible refine gate_callee (f := 36) rfl ?_); refine goesL_ (some 27) rfl rfl Tryd.func36 (by kernel_rfl) rfl #[.string t288, .string (⟨#[59, 32]⟩ : ByteArray)] rfl (by (try simp only [List.map_toArray, List.map_cons, List.map_nil]); first | done | rfl | (simp only [List.length_drop, List.length_take]; rfl)) ?_; (with_reducible refine (strings_Cut.calls t288 (⟨#[59, 32]⟩ : ByteArray) t290 t291 t292 _ (by first | exact hS | (refine Sh.of_below hS ?_; repeat (first | (with_reducible first | apply bA | apply bN | apply bD) | exact HB.out | refine Below.setCell ?_ (Aside0.out (by assumption)) _)) | (refine Sh.of_below hS ?_; assumption)) A3.out).mono ?_); rintro e w8 ⟨rfl, hb⟩; refine ⟨_, rfl, ?_⟩; have n0_ := Aside0.mk (blk_below (g := gb286) (o := .cells #[.string (⟨#[]⟩ : ByteArray), .string (⟨#[]⟩ : ByteArray)] 38 (0, 0)) (by (with_reducible repeat (first | refine blk_drewN ?_ _ | refine blk_drew ?_ | refine blk_alloc ?_ _)); exact BK286.out) hb); have n1_ := Aside0.mk (below_step (by repeat (first | (with_reducible first | apply bA | apply bN | apply bD | refine below_set ?_ GE286.out) | exact HB.out)) hb); clear BK286; clear HB; have BK286 := n0_; have HB := n1_; clear n0_ n1_; (try clear hb); (try clear hb2); (try clear hk); (try clear hi)) | ((with_reducible refine gate_callee (f := 36) rfl ?_); refine goesL_ (some 33) rfl rfl Tryd.func36 (by kernel_rfl) rfl #[.string t287, .string (⟨#[61]⟩ : ByteArray)] rfl (by (try simp only [List.map_toArray, List.map_cons, List.map_nil]); first | done | rfl | (simp only [List.length_drop, List.length_take]; rfl)) ?_; (with_reducible refine (strings_Cut.calls t287 (⟨#[61]⟩ : ByteArray) t293 t294 t295 _ (by first | exact hS | (refine Sh.of_below hS ?_; repeat (first | (with_reducible first | apply bA | apply bN | apply bD) | exact HB.out | refine Below.setCell ?_ (Aside0.out (by assumption)) _)) | (refine Sh.of_below hS ?_; assumption)) A4.out).mono ?_); rintro e w9 ⟨rfl, hb⟩; refine ⟨_, rfl, ?_⟩; have n0_ := Aside0.mk (blk_below (g := gb286) (o := .cells #[.string (⟨#[]⟩ : ByteArray), .string (⟨#[]⟩ : ByteArray)] 38 (0, 0)) (by (with_reducible repeat (first | refine blk_drewN ?_ _ | refine blk_drew ?_ | refine blk_alloc ?_ _)); exact BK286.out) hb); have n1_ := Aside0.mk (below_step (by repeat (first | (with_reducible first | apply bA | apply bN | apply bD | refine below_set ?_ GE286.out) | exact HB.out)) hb); clear BK286; clear HB; have BK286 := n0_; have HB := n1_; clear n0_ n1_; (try clear hb); (try clear hb2); (try clear hk); (try clear hi)))
 (try simp only [Act.put, List.setIfInBounds_toArray, List.set_cons_zero, List.set_cons_succ])
 go_cut [46] (fun v46 wc => ∃ (kq : Nat) (x46_4 : Bool), v46 = .bool x46_4 ∧ Aside0 (cookie_Read.j0 kq a0 t290 t293 t294 x46_4 = some (r1, r2, r3, r4)) ∧ Aside0 (kq ≤ k) ∧ Aside0 (wc.heap[gb286]? = some (.cells #[.string (⟨#[]⟩ : ByteArray), .string (⟨#[]⟩ : ByteArray)] 38 (0, 0))) ∧ Aside0 (Below w.heap.size w wc))
 case first =>
  have H := HC5.out
  clear HC5
  by_cases c10 : t289 = true
  ·subst c10
   rw [if_pos rfl] at H
   by_cases c11 : t292 = true
   ·subst c11
    rw [if_pos rfl] at H
    have H' := Aside0.mk H
    clear H
    go_wp2
    go_meet
    case rel => exact ⟨_, (!t295), (by first | rfl | (simp; done) | (simp [*]; done)), H', ⟨by first | omega | exact Nat.le_refl _⟩, ⟨by (with_reducible repeat (first | refine blk_drewN ?_ _ | refine blk_drew ?_ | refine blk_alloc ?_ _)); exact BK286.out⟩, ⟨by repeat (first | (with_reducible first | apply bA | apply bN | apply bD | refine below_set ?_ GE286.out) | exact HB.out)⟩⟩
   ·replace c11 := Bool.eq_false_iff.mpr c11
    subst c11
    rw [if_neg (show ¬ (false = true) by decide)] at H
    have H' := Aside0.mk H
    clear H
    go_wp2
    go_meet
    case rel => exact ⟨_, (true), (by first | rfl | (simp; done) | (simp [*]; done)), H', ⟨by first | omega | exact Nat.le_refl _⟩, ⟨by (with_reducible repeat (first | refine blk_drewN ?_ _ | refine blk_drew ?_ | refine blk_alloc ?_ _)); exact BK286.out⟩, ⟨by repeat (first | (with_reducible first | apply bA | apply bN | apply bD | refine below_set ?_ GE286.out) | exact HB.out)⟩⟩
  ·replace c10 := Bool.eq_false_iff.mpr c10
   subst c10
   rw [if_neg (show ¬ (false = true) by decide)] at H
   have H' := Aside0.mk H
   clear H
   go_wp2
   go_meet
   case rel => exact ⟨_, (true), (by first | rfl | (simp; done) | (simp [*]; done)), H', ⟨by first | omega | exact Nat.le_refl _⟩, ⟨by (with_reducible repeat (first | refine blk_drewN ?_ _ | refine blk_drew ?_ | refine blk_alloc ?_ _)); exact BK286.out⟩, ⟨by repeat (first | (with_reducible first | apply bA | apply bN | apply bD | refine below_set ?_ GE286.out) | exact HB.out)⟩⟩
 case rest =>
  clear HC5
  try clear c1
  try clear c2
  try clear p2
  try clear c3
  try clear c10
  try clear c11
  obtain ⟨kq, x46_4, rfl, HA, HJ4, BK286, HB⟩ := hcut
  cases kq with
  | zero => exact absurd HA.out (by simp [cookie_Read.j0])
  | succ kj4 =>
   have H := HA.out
   clear HA
   simp only [cookie_Read.j0] at H
   by_cases c12 : x46_4 = true
   ·subst c12
    rw [if_pos rfl] at H
    simp only [Option.some.injEq, Prod.mk.injEq] at H
    obtain ⟨rfl, rfl, rfl, rfl⟩ := H
    have hcz13_0 : wc.cell? ⟨gb286, 0, none⟩ = some (.string (⟨#[]⟩ : ByteArray)) := (blk_cell BK286.out 0).trans rfl
    have hcz13_1 : wc.cell? ⟨gb286, 1, none⟩ = some (.string (⟨#[]⟩ : ByteArray)) := (blk_cell BK286.out 1).trans rfl
    have hfz13_0 := blk_frozen BK286.out 0
    have hfz13_1 := blk_frozen BK286.out 1
    go_wp2
    refine bodyPost_ret (results_ctt rfl _ _ gb286 38 #[.string (⟨#[]⟩ : ByteArray), .string (⟨#[]⟩ : ByteArray)] (0, 0) _ rfl (by (with_reducible repeat (first | refine blk_drewN ?_ _ | refine blk_drew ?_ | refine blk_alloc ?_ _)); refine blk_put (cs := #[.string (⟨#[]⟩ : ByteArray), .string (⟨#[]⟩ : ByteArray)]) ?_ 1 _ rfl; (with_reducible repeat (first | refine blk_drewN ?_ _ | refine blk_drew ?_ | refine blk_alloc ?_ _)); refine blk_put (cs := #[.string (⟨#[]⟩ : ByteArray), .string (⟨#[]⟩ : ByteArray)]) ?_ 0 _ rfl; (with_reducible repeat (first | refine blk_drewN ?_ _ | refine blk_drew ?_ | refine blk_alloc ?_ _)); exact BK286.out) Tryd.underlying38 rfl (by kernel_rfl)) rfl ?_
    exact ⟨by first | rfl | (simp [errW_none, errW_some] <;> rfl) | (simp [*, errW_none, errW_some] <;> rfl), by repeat (first | (with_reducible first | apply bA | apply bN | apply bD | refine below_set ?_ GE286.out) | exact HB.out)⟩
   ·replace c12 := Bool.eq_false_iff.mpr c12
    subst c12
    rw [if_neg (show ¬ (false = true) by decide)] at H
    replace H := Option.bind_eq_some_iff.mp H
    obtain ⟨⟨t297, t298⟩, A140, H⟩ := H
    try dsimp only at H
    have A14 := Aside0.mk A140
    clear A140
    replace H := Option.bind_eq_some_iff.mp H
    obtain ⟨⟨t299, t300⟩, A150, H⟩ := H
    try dsimp only at H
    have A15 := Aside0.mk A150
    clear A150
    by_cases c16 : t300 = 0
    ·rw [if_pos c16] at H
     have c16b0 : (t300 == 0) = true := beq_iff_eq.mpr c16
     have c16b1 : (t300 != 0) = false := bne_eq_false_iff_eq.mpr c16
     clear c16
     by_cases c17 : t299.toList = a0.toList
     ·rw [if_pos c17] at H
      have c17b0 : (t299.toList == a0.toList) = true := beq_iff_eq.mpr c17
      have c17b1 : (t299.toList != a0.toList) = false := bne_eq_false_iff_eq.mpr c17
      clear c17
      simp only [Option.some.injEq, Prod.mk.injEq] at H
      obtain ⟨rfl, rfl, rfl, rfl⟩ := H
      go_wp2_with (first | ((with_reducible refine gate_dst (N := 14) rfl ?_); refine box_event ?hg (N := 14) ?hd (cs := #[.string (⟨#[]⟩ : ByteArray), .string (⟨#[]⟩ : ByteArray)]) (t := 38) ?hr ?_; (case hd => rfl); (case hg => rfl); (case hr => first | (go_simp; done) | (go_simp; rfl)); intro gb296 hg w18 hbox hb; have n0_ := Aside0.mk (blk_below (g := gb286) (o := .cells #[.string (⟨#[]⟩ : ByteArray), .string (⟨#[]⟩ : ByteArray)] 38 (0, 0)) (by (with_reducible repeat (first | refine blk_drewN ?_ _ | refine blk_drew ?_ | refine blk_alloc ?_ _)); exact BK286.out) hb); have n1_ := Aside0.mk (below_step (by repeat (first | (with_reducible first | apply bA | apply bN | apply bD | refine below_set ?_ GE286.out) | exact HB.out)) hb); have n2_ := Aside0.mk (hbox); have n3_ := Aside0.mk ((by rw [hg]; exact (below_size (by repeat (first | (with_reducible first | apply bA | apply bN | apply bD | refine below_set ?_ GE286.out) | exact HB.out))) : w.heap.size ≤ gb296)); have n4_ := Aside0.mk ((by rw [hg]; exact (below_size (by repeat (first | (with_reducible first | apply bA | apply bN | apply bD | refine below_set ?_ GE286.out) | exact HB.out))) : w.heap.size ≤ gb296)); have n5_ := Aside0.mk ((by rw [hg]; exact Nat.ne_of_lt (blk_lt (g := gb286) (o := .cells #[.string (⟨#[]⟩ : ByteArray), .string (⟨#[]⟩ : ByteArray)] 38 (0, 0)) (by (with_reducible repeat (first | refine blk_drewN ?_ _ | refine blk_drew ?_ | refine blk_alloc ?_ _)); exact BK286.out)) : gb286 ≠ gb296)); have n6_ := Aside0.mk ((by rw [hg]; exact Nat.ne_of_gt (blk_lt (g := gb286) (o := .cells #[.string (⟨#[]⟩ : ByteArray), .string (⟨#[]⟩ : ByteArray)] 38 (0, 0)) (by (with_reducible repeat (first | refine blk_drewN ?_ _ | refine blk_drew ?_ | refine blk_alloc ?_ _)); exact BK286.out)) : gb296 ≠ gb286)); clear BK286; clear HB; have BK286 := n0_; have HB := n1_; have BK296 := n2_; have GW296 := n3_; have GE296 := n4_; have NB286_296 := n5_; have NB296_286 := n6_; clear n0_ n1_ n2_ n3_ n4_ n5_ n6_; clear hb hbox hg; have hnb19 := NB296_286.out; have hnc19 := NB286_296.out; have hcz20_0 : w18.cell? ⟨gb296, 0, none⟩ = some (.string (⟨#[]⟩ : ByteArray)) := (blk_cell BK296.out 0).trans rfl; have hcz20_1 : w18.cell? ⟨gb296, 1, none⟩ = some (.string (⟨#[]⟩ : ByteArray)) := (blk_cell BK296.out 1).trans rfl; have hfz20_0 := blk_frozen BK296.out 0; have hfz20_1 := blk_frozen BK296.out 1) | ((with_reducible refine gate_callee (f := 37) rfl ?_); refine goesL_ (some 53) rfl rfl Tryd.func37 (by kernel_rfl) rfl #[.string t290, .int .i64 999999999] rfl (by (try simp only [List.map_toArray, List.map_cons, List.map_nil]); first | done | rfl | (simp only [List.length_drop, List.length_take]; rfl)) ?_; (with_reducible refine (num_Decimal.calls t290 999999999 t297 t298 _ A14.out).mono ?_); rintro e w21 ⟨rfl, hb⟩; refine ⟨_, rfl, ?_⟩; have n0_ := Aside0.mk (blk_below (g := gb286) (o := .cells #[.string (⟨#[]⟩ : ByteArray), .string (⟨#[]⟩ : ByteArray)] 38 (0, 0)) (by (with_reducible repeat (first | refine blk_drewN ?_ _ | refine blk_drew ?_ | refine blk_alloc ?_ _)); refine blk_far ?_ NB286_296.out _; (with_reducible repeat (first | refine blk_drewN ?_ _ | refine blk_drew ?_ | refine blk_alloc ?_ _)); refine blk_far ?_ NB286_296.out _; (with_reducible repeat (first | refine blk_drewN ?_ _ | refine blk_drew ?_ | refine blk_alloc ?_ _)); exact BK286.out) hb); have n1_ := Aside0.mk (blk_below (g := gb296) (o := .cells #[.string t293, .string t294] 38 (0, 0)) (by (with_reducible repeat (first | refine blk_drewN ?_ _ | refine blk_drew ?_ | refine blk_alloc ?_ _)); refine blk_put (cs := #[.string t293, .string (⟨#[]⟩ : ByteArray)]) ?_ 1 _ rfl; (with_reducible repeat (first | refine blk_drewN ?_ _ | refine blk_drew ?_ | refine blk_alloc ?_ _)); refine blk_put (cs := #[.string (⟨#[]⟩ : ByteArray), .string (⟨#[]⟩ : ByteArray)]) ?_ 0 _ rfl; (with_reducible repeat (first | refine blk_drewN ?_ _ | refine blk_drew ?_ | refine blk_alloc ?_ _)); exact BK296.out) hb); have n2_ := Aside0.mk (below_step (by repeat (first | (with_reducible first | apply bA | apply bN | apply bD | refine below_set ?_ GE286.out | refine below_set ?_ GE296.out) | exact HB.out)) hb); clear BK286; clear BK296; clear HB; have BK286 := n0_; have BK296 := n1_; have HB := n2_; clear n0_ n1_ n2_; (try clear hb); (try clear hb2); (try clear hk); (try clear hi); have hcz22_0 : w21.cell? ⟨gb296, 0, none⟩ = some (.string t293) := (blk_cell BK296.out 0).trans rfl; have hcz22_1 : w21.cell? ⟨gb296, 1, none⟩ = some (.string t294) := (blk_cell BK296.out 1).trans rfl; have hfz22_0 := blk_frozen BK296.out 0; have hfz22_1 := blk_frozen BK296.out 1) | ((with_reducible refine gate_callee (f := 18) rfl ?_); refine goesL_ (some 59) rfl rfl Tryd.func18 (by kernel_rfl) rfl #[.agg #[.string t293, .string t294], .int .i64 t297] rfl (by (try simp only [List.map_toArray, List.map_cons, List.map_nil]); first | done | rfl | (simp only [List.length_drop, List.length_take]; rfl)) ?_; (with_reducible refine (cookie_Set.calls t293 t294 t297 t299 t300 _ (by first | exact hS | (refine Sh.of_below hS ?_; repeat (first | (with_reducible first | apply bA | apply bN | apply bD) | exact HB.out | refine Below.setCell ?_ (Aside0.out (by assumption)) _)) | (refine Sh.of_below hS ?_; assumption)) A15.out).mono ?_); rintro e w23 ⟨rfl, hb⟩; refine ⟨_, rfl, ?_⟩; have n0_ := Aside0.mk (blk_below (g := gb286) (o := .cells #[.string (⟨#[]⟩ : ByteArray), .string (⟨#[]⟩ : ByteArray)] 38 (0, 0)) (by (with_reducible repeat (first | refine blk_drewN ?_ _ | refine blk_drew ?_ | refine blk_alloc ?_ _)); exact BK286.out) hb); have n1_ := Aside0.mk (blk_below (g := gb296) (o := .cells #[.string t293, .string t294] 38 (0, 0)) (by (with_reducible repeat (first | refine blk_drewN ?_ _ | refine blk_drew ?_ | refine blk_alloc ?_ _)); exact BK296.out) hb); have n2_ := Aside0.mk (below_step (by repeat (first | (with_reducible first | apply bA | apply bN | apply bD | refine below_set ?_ GE286.out | refine below_set ?_ GE296.out) | exact HB.out)) hb); clear BK286; clear BK296; clear HB; have BK286 := n0_; have BK296 := n1_; have HB := n2_; clear n0_ n1_ n2_; (try clear hb); (try clear hb2); (try clear hk); (try clear hi); have hcz24_0 : w23.cell? ⟨gb296, 0, none⟩ = some (.string t293) := (blk_cell BK296.out 0).trans rfl; have hcz24_1 : w23.cell? ⟨gb296, 1, none⟩ = some (.string t294) := (blk_cell BK296.out 1).trans rfl; have hfz24_0 := blk_frozen BK296.out 0; have hfz24_1 := blk_frozen BK296.out 1; have hcz25_0 : w23.cell? ⟨gb286, 0, none⟩ = some (.string (⟨#[]⟩ : ByteArray)) := (blk_cell BK286.out 0).trans rfl; have hcz25_1 : w23.cell? ⟨gb286, 1, none⟩ = some (.string (⟨#[]⟩ : ByteArray)) := (blk_cell BK286.out 1).trans rfl; have hfz25_0 := blk_frozen BK286.out 0; have hfz25_1 := blk_frozen BK286.out 1))
      refine bodyPost_ret (results_ctt rfl _ _ gb286 38 #[.string t293, .string t294] (0, 0) _ rfl (by (with_reducible repeat (first | refine blk_drewN ?_ _ | refine blk_drew ?_ | refine blk_alloc ?_ _)); refine blk_put (cs := #[.string t293, .string (⟨#[]⟩ : ByteArray)]) ?_ 1 _ rfl; (with_reducible repeat (first | refine blk_drewN ?_ _ | refine blk_drew ?_ | refine blk_alloc ?_ _)); refine blk_put (cs := #[.string (⟨#[]⟩ : ByteArray), .string (⟨#[]⟩ : ByteArray)]) ?_ 0 _ rfl; (with_reducible repeat (first | refine blk_drewN ?_ _ | refine blk_drew ?_ | refine blk_alloc ?_ _)); exact BK286.out) Tryd.underlying38 rfl (by kernel_rfl)) rfl ?_
      exact ⟨by first | rfl | (simp [errW_none, errW_some] <;> rfl) | (simp [*, errW_none, errW_some] <;> rfl), by repeat (first | (with_reducible first | apply bA | apply bN | apply bD | refine below_set ?_ GE286.out | refine below_set ?_ GE296.out) | exact HB.out)⟩
     ·rw [if_neg c17] at H
      have c17b0 : (t299.toList == a0.toList) = false := beq_eq_false_iff_ne.mpr c17
      have c17b1 : (t299.toList != a0.toList) = true := bne_iff_ne.mpr c17
      simp only [Option.some.injEq, Prod.mk.injEq] at H
      obtain ⟨rfl, rfl, rfl, rfl⟩ := H
      go_wp2_with (first | ((with_reducible refine gate_dst (N := 14) rfl ?_); refine box_event ?hg (N := 14) ?hd (cs := #[.string (⟨#[]⟩ : ByteArray), .string (⟨#[]⟩ : ByteArray)]) (t := 38) ?hr ?_; (case hd => rfl); (case hg => rfl); (case hr => first | (go_simp; done) | (go_simp; rfl)); intro gb296 hg w26 hbox hb; have n0_ := Aside0.mk (blk_below (g := gb286) (o := .cells #[.string (⟨#[]⟩ : ByteArray), .string (⟨#[]⟩ : ByteArray)] 38 (0, 0)) (by (with_reducible repeat (first | refine blk_drewN ?_ _ | refine blk_drew ?_ | refine blk_alloc ?_ _)); exact BK286.out) hb); have n1_ := Aside0.mk (below_step (by repeat (first | (with_reducible first | apply bA | apply bN | apply bD | refine below_set ?_ GE286.out) | exact HB.out)) hb); have n2_ := Aside0.mk (hbox); have n3_ := Aside0.mk ((by rw [hg]; exact (below_size (by repeat (first | (with_reducible first | apply bA | apply bN | apply bD | refine below_set ?_ GE286.out) | exact HB.out))) : w.heap.size ≤ gb296)); have n4_ := Aside0.mk ((by rw [hg]; exact (below_size (by repeat (first | (with_reducible first | apply bA | apply bN | apply bD | refine below_set ?_ GE286.out) | exact HB.out))) : w.heap.size ≤ gb296)); have n5_ := Aside0.mk ((by rw [hg]; exact Nat.ne_of_lt (blk_lt (g := gb286) (o := .cells #[.string (⟨#[]⟩ : ByteArray), .string (⟨#[]⟩ : ByteArray)] 38 (0, 0)) (by (with_reducible repeat (first | refine blk_drewN ?_ _ | refine blk_drew ?_ | refine blk_alloc ?_ _)); exact BK286.out)) : gb286 ≠ gb296)); have n6_ := Aside0.mk ((by rw [hg]; exact Nat.ne_of_gt (blk_lt (g := gb286) (o := .cells #[.string (⟨#[]⟩ : ByteArray), .string (⟨#[]⟩ : ByteArray)] 38 (0, 0)) (by (with_reducible repeat (first | refine blk_drewN ?_ _ | refine blk_drew ?_ | refine blk_alloc ?_ _)); exact BK286.out)) : gb296 ≠ gb286)); clear BK286; clear HB; have BK286 := n0_; have HB := n1_; have BK296 := n2_; have GW296 := n3_; have GE296 := n4_; have NB286_296 := n5_; have NB296_286 := n6_; clear n0_ n1_ n2_ n3_ n4_ n5_ n6_; clear hb hbox hg; have hnb27 := NB296_286.out; have hnc27 := NB286_296.out; have hcz28_0 : w26.cell? ⟨gb296, 0, none⟩ = some (.string (⟨#[]⟩ : ByteArray)) := (blk_cell BK296.out 0).trans rfl; have hcz28_1 : w26.cell? ⟨gb296, 1, none⟩ = some (.string (⟨#[]⟩ : ByteArray)) := (blk_cell BK296.out 1).trans rfl; have hfz28_0 := blk_frozen BK296.out 0; have hfz28_1 := blk_frozen BK296.out 1) | ((with_reducible refine gate_callee (f := 37) rfl ?_); refine goesL_ (some 53) rfl rfl Tryd.func37 (by kernel_rfl) rfl #[.string t290, .int .i64 999999999] rfl (by (try simp only [List.map_toArray, List.map_cons, List.map_nil]); first | done | rfl | (simp only [List.length_drop, List.length_take]; rfl)) ?_; (with_reducible refine (num_Decimal.calls t290 999999999 t297 t298 _ A14.out).mono ?_); rintro e w29 ⟨rfl, hb⟩; refine ⟨_, rfl, ?_⟩; have n0_ := Aside0.mk (blk_below (g := gb286) (o := .cells #[.string (⟨#[]⟩ : ByteArray), .string (⟨#[]⟩ : ByteArray)] 38 (0, 0)) (by (with_reducible repeat (first | refine blk_drewN ?_ _ | refine blk_drew ?_ | refine blk_alloc ?_ _)); refine blk_far ?_ NB286_296.out _; (with_reducible repeat (first | refine blk_drewN ?_ _ | refine blk_drew ?_ | refine blk_alloc ?_ _)); refine blk_far ?_ NB286_296.out _; (with_reducible repeat (first | refine blk_drewN ?_ _ | refine blk_drew ?_ | refine blk_alloc ?_ _)); exact BK286.out) hb); have n1_ := Aside0.mk (blk_below (g := gb296) (o := .cells #[.string t293, .string t294] 38 (0, 0)) (by (with_reducible repeat (first | refine blk_drewN ?_ _ | refine blk_drew ?_ | refine blk_alloc ?_ _)); refine blk_put (cs := #[.string t293, .string (⟨#[]⟩ : ByteArray)]) ?_ 1 _ rfl; (with_reducible repeat (first | refine blk_drewN ?_ _ | refine blk_drew ?_ | refine blk_alloc ?_ _)); refine blk_put (cs := #[.string (⟨#[]⟩ : ByteArray), .string (⟨#[]⟩ : ByteArray)]) ?_ 0 _ rfl; (with_reducible repeat (first | refine blk_drewN ?_ _ | refine blk_drew ?_ | refine blk_alloc ?_ _)); exact BK296.out) hb); have n2_ := Aside0.mk (below_step (by repeat (first | (with_reducible first | apply bA | apply bN | apply bD | refine below_set ?_ GE286.out | refine below_set ?_ GE296.out) | exact HB.out)) hb); clear BK286; clear BK296; clear HB; have BK286 := n0_; have BK296 := n1_; have HB := n2_; clear n0_ n1_ n2_; (try clear hb); (try clear hb2); (try clear hk); (try clear hi); have hcz30_0 : w29.cell? ⟨gb296, 0, none⟩ = some (.string t293) := (blk_cell BK296.out 0).trans rfl; have hcz30_1 : w29.cell? ⟨gb296, 1, none⟩ = some (.string t294) := (blk_cell BK296.out 1).trans rfl; have hfz30_0 := blk_frozen BK296.out 0; have hfz30_1 := blk_frozen BK296.out 1) | ((with_reducible refine gate_callee (f := 18) rfl ?_); refine goesL_ (some 59) rfl rfl Tryd.func18 (by kernel_rfl) rfl #[.agg #[.string t293, .string t294], .int .i64 t297] rfl (by (try simp only [List.map_toArray, List.map_cons, List.map_nil]); first | done | rfl | (simp only [List.length_drop, List.length_take]; rfl)) ?_; (with_reducible refine (cookie_Set.calls t293 t294 t297 t299 t300 _ (by first | exact hS | (refine Sh.of_below hS ?_; repeat (first | (with_reducible first | apply bA | apply bN | apply bD) | exact HB.out | refine Below.setCell ?_ (Aside0.out (by assumption)) _)) | (refine Sh.of_below hS ?_; assumption)) A15.out).mono ?_); rintro e w31 ⟨rfl, hb⟩; refine ⟨_, rfl, ?_⟩; have n0_ := Aside0.mk (blk_below (g := gb286) (o := .cells #[.string (⟨#[]⟩ : ByteArray), .string (⟨#[]⟩ : ByteArray)] 38 (0, 0)) (by (with_reducible repeat (first | refine blk_drewN ?_ _ | refine blk_drew ?_ | refine blk_alloc ?_ _)); exact BK286.out) hb); have n1_ := Aside0.mk (blk_below (g := gb296) (o := .cells #[.string t293, .string t294] 38 (0, 0)) (by (with_reducible repeat (first | refine blk_drewN ?_ _ | refine blk_drew ?_ | refine blk_alloc ?_ _)); exact BK296.out) hb); have n2_ := Aside0.mk (below_step (by repeat (first | (with_reducible first | apply bA | apply bN | apply bD | refine below_set ?_ GE286.out | refine below_set ?_ GE296.out) | exact HB.out)) hb); clear BK286; clear BK296; clear HB; have BK286 := n0_; have BK296 := n1_; have HB := n2_; clear n0_ n1_ n2_; (try clear hb); (try clear hb2); (try clear hk); (try clear hi); have hcz32_0 : w31.cell? ⟨gb286, 0, none⟩ = some (.string (⟨#[]⟩ : ByteArray)) := (blk_cell BK286.out 0).trans rfl; have hcz32_1 : w31.cell? ⟨gb286, 1, none⟩ = some (.string (⟨#[]⟩ : ByteArray)) := (blk_cell BK286.out 1).trans rfl; have hfz32_0 := blk_frozen BK286.out 0; have hfz32_1 := blk_frozen BK286.out 1))
      refine bodyPost_ret (results_ctt rfl _ _ gb286 38 #[.string (⟨#[]⟩ : ByteArray), .string (⟨#[]⟩ : ByteArray)] (0, 0) _ rfl (by (with_reducible repeat (first | refine blk_drewN ?_ _ | refine blk_drew ?_ | refine blk_alloc ?_ _)); refine blk_put (cs := #[.string (⟨#[]⟩ : ByteArray), .string (⟨#[]⟩ : ByteArray)]) ?_ 1 _ rfl; (with_reducible repeat (first | refine blk_drewN ?_ _ | refine blk_drew ?_ | refine blk_alloc ?_ _)); refine blk_put (cs := #[.string (⟨#[]⟩ : ByteArray), .string (⟨#[]⟩ : ByteArray)]) ?_ 0 _ rfl; (with_reducible repeat (first | refine blk_drewN ?_ _ | refine blk_drew ?_ | refine blk_alloc ?_ _)); exact BK286.out) Tryd.underlying38 rfl (by kernel_rfl)) rfl ?_
      exact ⟨by first | rfl | (simp [errW_none, errW_some] <;> rfl) | (simp [*, errW_none, errW_some] <;> rfl), by repeat (first | (with_reducible first | apply bA | apply bN | apply bD | refine below_set ?_ GE286.out | refine below_set ?_ GE296.out) | exact HB.out)⟩
    ·rw [if_neg c16] at H
     have c16b0 : (t300 == 0) = false := beq_eq_false_iff_ne.mpr c16
     have c16b1 : (t300 != 0) = true := bne_iff_ne.mpr c16
     simp only [Option.some.injEq, Prod.mk.injEq] at H
     obtain ⟨rfl, rfl, rfl, rfl⟩ := H
     go_wp2_with (first | ((with_reducible refine gate_dst (N := 14) rfl ?_); refine box_event ?hg (N := 14) ?hd (cs := #[.string (⟨#[]⟩ : ByteArray), .string (⟨#[]⟩ : ByteArray)]) (t := 38) ?hr ?_; (case hd => rfl); (case hg => rfl); (case hr => first | (go_simp; done) | (go_simp; rfl)); intro gb296 hg w33 hbox hb; have n0_ := Aside0.mk (blk_below (g := gb286) (o := .cells #[.string (⟨#[]⟩ : ByteArray), .string (⟨#[]⟩ : ByteArray)] 38 (0, 0)) (by (with_reducible repeat (first | refine blk_drewN ?_ _ | refine blk_drew ?_ | refine blk_alloc ?_ _)); exact BK286.out) hb); have n1_ := Aside0.mk (below_step (by repeat (first | (with_reducible first | apply bA | apply bN | apply bD | refine below_set ?_ GE286.out) | exact HB.out)) hb); have n2_ := Aside0.mk (hbox); have n3_ := Aside0.mk ((by rw [hg]; exact (below_size (by repeat (first | (with_reducible first | apply bA | apply bN | apply bD | refine below_set ?_ GE286.out) | exact HB.out))) : w.heap.size ≤ gb296)); have n4_ := Aside0.mk ((by rw [hg]; exact (below_size (by repeat (first | (with_reducible first | apply bA | apply bN | apply bD | refine below_set ?_ GE286.out) | exact HB.out))) : w.heap.size ≤ gb296)); have n5_ := Aside0.mk ((by rw [hg]; exact Nat.ne_of_lt (blk_lt (g := gb286) (o := .cells #[.string (⟨#[]⟩ : ByteArray), .string (⟨#[]⟩ : ByteArray)] 38 (0, 0)) (by (with_reducible repeat (first | refine blk_drewN ?_ _ | refine blk_drew ?_ | refine blk_alloc ?_ _)); exact BK286.out)) : gb286 ≠ gb296)); have n6_ := Aside0.mk ((by rw [hg]; exact Nat.ne_of_gt (blk_lt (g := gb286) (o := .cells #[.string (⟨#[]⟩ : ByteArray), .string (⟨#[]⟩ : ByteArray)] 38 (0, 0)) (by (with_reducible repeat (first | refine blk_drewN ?_ _ | refine blk_drew ?_ | refine blk_alloc ?_ _)); exact BK286.out)) : gb296 ≠ gb286)); clear BK286; clear HB; have BK286 := n0_; have HB := n1_; have BK296 := n2_; have GW296 := n3_; have GE296 := n4_; have NB286_296 := n5_; have NB296_286 := n6_; clear n0_ n1_ n2_ n3_ n4_ n5_ n6_; clear hb hbox hg; have hnb34 := NB296_286.out; have hnc34 := NB286_296.out; have hcz35_0 : w33.cell? ⟨gb296, 0, none⟩ = some (.string (⟨#[]⟩ : ByteArray)) := (blk_cell BK296.out 0).trans rfl; have hcz35_1 : w33.cell? ⟨gb296, 1, none⟩ = some (.string (⟨#[]⟩ : ByteArray)) := (blk_cell BK296.out 1).trans rfl; have hfz35_0 := blk_frozen BK296.out 0; have hfz35_1 := blk_frozen BK296.out 1) | ((with_reducible refine gate_callee (f := 37) rfl ?_); refine goesL_ (some 53) rfl rfl Tryd.func37 (by kernel_rfl) rfl #[.string t290, .int .i64 999999999] rfl (by (try simp only [List.map_toArray, List.map_cons, List.map_nil]); first | done | rfl | (simp only [List.length_drop, List.length_take]; rfl)) ?_; (with_reducible refine (num_Decimal.calls t290 999999999 t297 t298 _ A14.out).mono ?_); rintro e w36 ⟨rfl, hb⟩; refine ⟨_, rfl, ?_⟩; have n0_ := Aside0.mk (blk_below (g := gb286) (o := .cells #[.string (⟨#[]⟩ : ByteArray), .string (⟨#[]⟩ : ByteArray)] 38 (0, 0)) (by (with_reducible repeat (first | refine blk_drewN ?_ _ | refine blk_drew ?_ | refine blk_alloc ?_ _)); refine blk_far ?_ NB286_296.out _; (with_reducible repeat (first | refine blk_drewN ?_ _ | refine blk_drew ?_ | refine blk_alloc ?_ _)); refine blk_far ?_ NB286_296.out _; (with_reducible repeat (first | refine blk_drewN ?_ _ | refine blk_drew ?_ | refine blk_alloc ?_ _)); exact BK286.out) hb); have n1_ := Aside0.mk (blk_below (g := gb296) (o := .cells #[.string t293, .string t294] 38 (0, 0)) (by (with_reducible repeat (first | refine blk_drewN ?_ _ | refine blk_drew ?_ | refine blk_alloc ?_ _)); refine blk_put (cs := #[.string t293, .string (⟨#[]⟩ : ByteArray)]) ?_ 1 _ rfl; (with_reducible repeat (first | refine blk_drewN ?_ _ | refine blk_drew ?_ | refine blk_alloc ?_ _)); refine blk_put (cs := #[.string (⟨#[]⟩ : ByteArray), .string (⟨#[]⟩ : ByteArray)]) ?_ 0 _ rfl; (with_reducible repeat (first | refine blk_drewN ?_ _ | refine blk_drew ?_ | refine blk_alloc ?_ _)); exact BK296.out) hb); have n2_ := Aside0.mk (below_step (by repeat (first | (with_reducible first | apply bA | apply bN | apply bD | refine below_set ?_ GE286.out | refine below_set ?_ GE296.out) | exact HB.out)) hb); clear BK286; clear BK296; clear HB; have BK286 := n0_; have BK296 := n1_; have HB := n2_; clear n0_ n1_ n2_; (try clear hb); (try clear hb2); (try clear hk); (try clear hi); have hcz37_0 : w36.cell? ⟨gb296, 0, none⟩ = some (.string t293) := (blk_cell BK296.out 0).trans rfl; have hcz37_1 : w36.cell? ⟨gb296, 1, none⟩ = some (.string t294) := (blk_cell BK296.out 1).trans rfl; have hfz37_0 := blk_frozen BK296.out 0; have hfz37_1 := blk_frozen BK296.out 1) | ((with_reducible refine gate_callee (f := 18) rfl ?_); refine goesL_ (some 59) rfl rfl Tryd.func18 (by kernel_rfl) rfl #[.agg #[.string t293, .string t294], .int .i64 t297] rfl (by (try simp only [List.map_toArray, List.map_cons, List.map_nil]); first | done | rfl | (simp only [List.length_drop, List.length_take]; rfl)) ?_; (with_reducible refine (cookie_Set.calls t293 t294 t297 t299 t300 _ (by first | exact hS | (refine Sh.of_below hS ?_; repeat (first | (with_reducible first | apply bA | apply bN | apply bD) | exact HB.out | refine Below.setCell ?_ (Aside0.out (by assumption)) _)) | (refine Sh.of_below hS ?_; assumption)) A15.out).mono ?_); rintro e w38 ⟨rfl, hb⟩; refine ⟨_, rfl, ?_⟩; have n0_ := Aside0.mk (blk_below (g := gb286) (o := .cells #[.string (⟨#[]⟩ : ByteArray), .string (⟨#[]⟩ : ByteArray)] 38 (0, 0)) (by (with_reducible repeat (first | refine blk_drewN ?_ _ | refine blk_drew ?_ | refine blk_alloc ?_ _)); exact BK286.out) hb); have n1_ := Aside0.mk (blk_below (g := gb296) (o := .cells #[.string t293, .string t294] 38 (0, 0)) (by (with_reducible repeat (first | refine blk_drewN ?_ _ | refine blk_drew ?_ | refine blk_alloc ?_ _)); exact BK296.out) hb); have n2_ := Aside0.mk (below_step (by repeat (first | (with_reducible first | apply bA | apply bN | apply bD | refine below_set ?_ GE286.out | refine below_set ?_ GE296.out) | exact HB.out)) hb); clear BK286; clear BK296; clear HB; have BK286 := n0_; have BK296 := n1_; have HB := n2_; clear n0_ n1_ n2_; (try clear hb); (try clear hb2); (try clear hk); (try clear hi); have hcz39_0 : w38.cell? ⟨gb286, 0, none⟩ = some (.string (⟨#[]⟩ : ByteArray)) := (blk_cell BK286.out 0).trans rfl; have hcz39_1 : w38.cell? ⟨gb286, 1, none⟩ = some (.string (⟨#[]⟩ : ByteArray)) := (blk_cell BK286.out 1).trans rfl; have hfz39_0 := blk_frozen BK286.out 0; have hfz39_1 := blk_frozen BK286.out 1))
     refine bodyPost_ret (results_ctt rfl _ _ gb286 38 #[.string (⟨#[]⟩ : ByteArray), .string (⟨#[]⟩ : ByteArray)] (0, 0) _ rfl (by (with_reducible repeat (first | refine blk_drewN ?_ _ | refine blk_drew ?_ | refine blk_alloc ?_ _)); refine blk_put (cs := #[.string (⟨#[]⟩ : ByteArray), .string (⟨#[]⟩ : ByteArray)]) ?_ 1 _ rfl; (with_reducible repeat (first | refine blk_drewN ?_ _ | refine blk_drew ?_ | refine blk_alloc ?_ _)); refine blk_put (cs := #[.string (⟨#[]⟩ : ByteArray), .string (⟨#[]⟩ : ByteArray)]) ?_ 0 _ rfl; (with_reducible repeat (first | refine blk_drewN ?_ _ | refine blk_drew ?_ | refine blk_alloc ?_ _)); exact BK286.out) Tryd.underlying38 rfl (by kernel_rfl)) rfl ?_
     exact ⟨by first | rfl | (simp [errW_none, errW_some] <;> rfl) | (simp [*, errW_none, errW_some] <;> rfl), by repeat (first | (with_reducible first | apply bA | apply bN | apply bD | refine below_set ?_ GE286.out | refine below_set ?_ GE296.out) | exact HB.out)⟩

end Go.Proofs.YtipbgnhhmgljnaaDoor.Pall

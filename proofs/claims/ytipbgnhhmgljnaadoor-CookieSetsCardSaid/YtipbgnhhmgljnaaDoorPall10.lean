-- Written by a program of this session: the kit's print with given contracts. Not trusted: Lean checks it.
import Derived.Test.YtipbgnhhmgljnaaDoorCk
import Derived.Test.YtipbgnhhmgljnaaDoorPall0
import Derived.Test.YtipbgnhhmgljnaaDoorPall9
namespace Go.Proofs.YtipbgnhhmgljnaaDoor.Pall
open Go.RowKit Go.Proofs.YtipbgnhhmgljnaaDoorW.PrintWords Go.Proofs.YtipbgnhhmgljnaaDoorW.PrintLast Go.Proofs.YtipbgnhhmgljnaaDoorW.PrintMore
attribute [local go_sem] max2_int min2_int max_two min_two
set_option linter.unusedVariables false
set_option linter.unusedSimpArgs false

/-! ### wicketmanlaw11_session: function 14 -/
def wicketmanlaw11_session.f (k : Nat) (l0 : List ByteArray) : Option (Bool) := (cookie_Session.f l0).bind fun bt175 => ((wicketmanref11_Session.f k l0).bind fun bt177 => (if bt175.1.toList = bt177.1.toList then (some (bt175.2 == bt177.2)) else (some false)))
theorem wicketmanlaw11_session.mono : ∀ a0 k, LeO (wicketmanlaw11_session.f k a0) (wicketmanlaw11_session.f (k + 1) a0) := by
 intro a0 k
 unfold wicketmanlaw11_session.f
 repeat' first
   | (with_reducible exact wicketmanref11_Session.mono _ _)
   | (with_reducible exact LeO.refl _)
   | (with_reducible exact LeO.none _)
   | (with_reducible refine LeO.ite ?_ ?_)
   | (with_reducible refine LeO.bind ?_ (fun _ => ?_))
   | exact wicketmanref11_Session.mono _ _
   | exact LeO.none _
   | refine LeO.ite ?_ ?_
   | refine LeO.bind ?_ (fun _ => ?_)
set_option maxHeartbeats 8000000 in
set_option maxRecDepth 100000 in
theorem wicketmanlaw11_session.calls (k : Nat) (A0 : Option Addr) (c0 : Nat) (l0 : List ByteArray) (r : Bool) (w : World) (hr0 : Kd.C Kd.string w A0 l0.length l0) (hc0 : l0.length ≤ c0) (hS : Sh w) (h : wicketmanlaw11_session.f k l0 = some r) :
  Calls Tryd.prog 14 #[.slice A0 l0.length c0] w fun e w' => e = .returned (.bool r) ∧ Below w.heap.size w w' := by
 have HR0 := Aside0.mk hr0
 have HC0 := Aside0.mk hc0
 clear hr0 hc0
 have HB := Aside0.mk (Below.refl w.heap.size w)
 have H : ((cookie_Session.f l0).bind fun bt175 => ((wicketmanref11_Session.f k l0).bind fun bt177 => (if bt175.1.toList = bt177.1.toList then (some (bt175.2 == bt177.2)) else (some false)))) = some r := h
 clear h
 replace H := Option.bind_eq_some_iff.mp H
 obtain ⟨⟨t175, t176⟩, A20, H⟩ := H
 try dsimp only at H
 have A2 := Aside0.mk A20
 clear A20
 replace H := Option.bind_eq_some_iff.mp H
 obtain ⟨⟨t177, t178⟩, A30, H⟩ := H
 try dsimp only at H
 have A3 := Aside0.mk A30
 clear A30
 by_cases c4 : t175.toList = t177.toList
 ·rw [if_pos c4] at H
  have c4b0 : (t175.toList == t177.toList) = true := beq_iff_eq.mpr c4
  have c4b1 : (t175.toList != t177.toList) = false := bne_eq_false_iff_eq.mpr c4
  clear c4
  obtain rfl := Option.some.inj H
  go_enter Tryd.func14, Tryd.ntmps14
  go_wp2_with (first | ((with_reducible refine gate_callee (f := 16) rfl ?_); refine goesL_ (some 9) rfl rfl Tryd.func16 (by kernel_rfl) rfl #[.slice A0 l0.length c0] rfl (by (try simp only [List.map_toArray, List.map_cons, List.map_nil]); first | done | rfl | (simp only [List.length_drop, List.length_take]; rfl)) ?_; (with_reducible refine (cookie_Session.calls _ _ l0 t175 t176 _ ?side1 ?side2 (by first | exact hS | (refine Sh.of_below hS ?_; repeat (first | (with_reducible first | apply bA | apply bN | apply bD) | exact HB.out | refine Below.setCell ?_ (Aside0.out (by assumption)) _)) | (refine Sh.of_below hS ?_; assumption)) A2.out).mono ?_); (case side1 => repeat (first | exact HR0.out | (with_reducible refine Kd.C_alloc ?_ _) | (with_reducible refine Kd.C_drewN ?_ _) | (with_reducible refine Kd.C_drew ?_))); (case side2 => exact HC0.out); rintro e w5 ⟨rfl, hb⟩; refine ⟨_, rfl, ?_⟩; have n0_ := Aside0.mk (below_step (by repeat (first | (with_reducible first | apply bA | apply bN | apply bD) | exact HB.out)) hb); clear HB; have HB := n0_; clear n0_; (try clear hb); (try clear hb2); (try clear hk); (try clear hi)) | ((with_reducible refine gate_callee (f := 29) rfl ?_); refine goesL_ (some 14) rfl rfl Tryd.func29 (by kernel_rfl) rfl #[.slice A0 l0.length c0] rfl (by (try simp only [List.map_toArray, List.map_cons, List.map_nil]); first | done | rfl | (simp only [List.length_drop, List.length_take]; rfl)) ?_; (with_reducible refine (wicketmanref11_Session.calls k _ _ l0 t177 t178 _ ?side1 ?side2 A3.out).mono ?_); (case side1 => repeat (first | exact (Kd.C_below HR0.out HB.out) | (with_reducible refine Kd.C_alloc ?_ _) | (with_reducible refine Kd.C_drewN ?_ _) | (with_reducible refine Kd.C_drew ?_))); (case side2 => exact HC0.out); rintro e w6 ⟨rfl, hb⟩; refine ⟨_, rfl, ?_⟩; have n0_ := Aside0.mk (below_step (by repeat (first | (with_reducible first | apply bA | apply bN | apply bD) | exact HB.out)) hb); clear HB; have HB := n0_; clear n0_; (try clear hb); (try clear hb2); (try clear hk); (try clear hi)))
  go_ret
  exact ⟨by first | rfl | (simp [errW_none, errW_some] <;> rfl) | (simp [*, errW_none, errW_some] <;> rfl), by repeat (first | (with_reducible first | apply bA | apply bN | apply bD) | exact HB.out)⟩
 ·rw [if_neg c4] at H
  have c4b0 : (t175.toList == t177.toList) = false := beq_eq_false_iff_ne.mpr c4
  have c4b1 : (t175.toList != t177.toList) = true := bne_iff_ne.mpr c4
  obtain rfl := Option.some.inj H
  go_enter Tryd.func14, Tryd.ntmps14
  go_wp2_with (first | ((with_reducible refine gate_callee (f := 16) rfl ?_); refine goesL_ (some 9) rfl rfl Tryd.func16 (by kernel_rfl) rfl #[.slice A0 l0.length c0] rfl (by (try simp only [List.map_toArray, List.map_cons, List.map_nil]); first | done | rfl | (simp only [List.length_drop, List.length_take]; rfl)) ?_; (with_reducible refine (cookie_Session.calls _ _ l0 t175 t176 _ ?side1 ?side2 (by first | exact hS | (refine Sh.of_below hS ?_; repeat (first | (with_reducible first | apply bA | apply bN | apply bD) | exact HB.out | refine Below.setCell ?_ (Aside0.out (by assumption)) _)) | (refine Sh.of_below hS ?_; assumption)) A2.out).mono ?_); (case side1 => repeat (first | exact HR0.out | (with_reducible refine Kd.C_alloc ?_ _) | (with_reducible refine Kd.C_drewN ?_ _) | (with_reducible refine Kd.C_drew ?_))); (case side2 => exact HC0.out); rintro e w7 ⟨rfl, hb⟩; refine ⟨_, rfl, ?_⟩; have n0_ := Aside0.mk (below_step (by repeat (first | (with_reducible first | apply bA | apply bN | apply bD) | exact HB.out)) hb); clear HB; have HB := n0_; clear n0_; (try clear hb); (try clear hb2); (try clear hk); (try clear hi)) | ((with_reducible refine gate_callee (f := 29) rfl ?_); refine goesL_ (some 14) rfl rfl Tryd.func29 (by kernel_rfl) rfl #[.slice A0 l0.length c0] rfl (by (try simp only [List.map_toArray, List.map_cons, List.map_nil]); first | done | rfl | (simp only [List.length_drop, List.length_take]; rfl)) ?_; (with_reducible refine (wicketmanref11_Session.calls k _ _ l0 t177 t178 _ ?side1 ?side2 A3.out).mono ?_); (case side1 => repeat (first | exact (Kd.C_below HR0.out HB.out) | (with_reducible refine Kd.C_alloc ?_ _) | (with_reducible refine Kd.C_drewN ?_ _) | (with_reducible refine Kd.C_drew ?_))); (case side2 => exact HC0.out); rintro e w8 ⟨rfl, hb⟩; refine ⟨_, rfl, ?_⟩; have n0_ := Aside0.mk (below_step (by repeat (first | (with_reducible first | apply bA | apply bN | apply bD) | exact HB.out)) hb); clear HB; have HB := n0_; clear n0_; (try clear hb); (try clear hb2); (try clear hk); (try clear hi)))
  go_ret
  exact ⟨by first | rfl | (simp [errW_none, errW_some] <;> rfl) | (simp [*, errW_none, errW_some] <;> rfl), by repeat (first | (with_reducible first | apply bA | apply bN | apply bD) | exact HB.out)⟩

end Go.Proofs.YtipbgnhhmgljnaaDoor.Pall

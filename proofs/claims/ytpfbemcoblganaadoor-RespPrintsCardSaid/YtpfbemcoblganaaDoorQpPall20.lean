import Derived.Test.YtpfbemcoblganaaDoorQpRp
import Derived.Test.YtpfbemcoblganaaDoorQpPall0
namespace Go.Proofs.YtpfbemcoblganaaDoor.Pall
open Go.RowKit Go.Proofs.YtpfbemcoblganaaDoorW.PrintWords Go.Proofs.YtpfbemcoblganaaDoorW.PrintLast
set_option linter.unusedVariables false
set_option linter.unusedSimpArgs false
theorem V_string20 {P : Program} {e : Nat} {w : World} {base : Nat} {ok : Nat → Prop} {v : Value} {xs : List Int} {src dst el : TypeId} (hs : P.underlying src = some (.slice el)) (he : P.underlying el = some (.int .u8)) (hd : P.underlying dst = some .string) (h : Kd.V (Kd.int .u8) e w base ok v xs) : (convert src dst v).run P w = .ok (.string (strOfNums xs)) w := by
 obtain ⟨A, c, rfl, _, hf⟩ := h
 exact Kd.C_string hs he hd (Kd.F_now hf)
def wicketmanlaw10_known.f  : Option (Bool) := (resp_Print.f 200 ([] : List (S43)) (([97] : List Int))).bind fun bt563 => (if bt563.2 = 0 then (if (strOfNums bt563.1).toList = ([72, 84, 84, 80, 47, 49, 46, 49, 32, 50, 48, 48, 32, 79, 75, 13, 10, 67, 111, 110, 116, 101, 110, 116, 45, 76, 101, 110, 103, 116, 104, 58, 32, 49, 13, 10, 13, 10, 97] : List UInt8) then ((resp_Reason.f 201).bind fun t567 => (some (t567.toList == ([] : List UInt8)))) else (some false)) else (some false))
set_option maxHeartbeats 8000000 in
set_option maxRecDepth 100000 in
theorem wicketmanlaw10_known.calls  (r : Bool) (w : World) (hT : Tb w) (hTR : Aside0 (r = true)) (h : wicketmanlaw10_known.f  = some r) :
  Calls Tryd.prog 28 #[] w fun e w' => e = .returned (.bool r) ∧ Below w.heap.size w w' := by
 have hu51 := Tryd.underlying51
 have HB := Aside0.mk (Below.refl w.heap.size w)
 have H : ((resp_Print.f 200 ([] : List (S43)) (([97] : List Int))).bind fun bt563 => (if bt563.2 = 0 then (if (strOfNums bt563.1).toList = ([72, 84, 84, 80, 47, 49, 46, 49, 32, 50, 48, 48, 32, 79, 75, 13, 10, 67, 111, 110, 116, 101, 110, 116, 45, 76, 101, 110, 103, 116, 104, 58, 32, 49, 13, 10, 13, 10, 97] : List UInt8) then ((resp_Reason.f 201).bind fun t567 => (some (t567.toList == ([] : List UInt8)))) else (some false)) else (some false))) = some r := h
 clear h
 obtain ⟨y560, hy560⟩ : ∃ y_ : List Int, y_ = (([97] : List Int)) := ⟨_, rfl⟩
 replace H : ((resp_Print.f 200 ([] : List (S43)) y560).bind fun bt563 => (if bt563.2 = 0 then (if (strOfNums bt563.1).toList = ([72, 84, 84, 80, 47, 49, 46, 49, 32, 50, 48, 48, 32, 79, 75, 13, 10, 67, 111, 110, 116, 101, 110, 116, 45, 76, 101, 110, 103, 116, 104, 58, 32, 49, 13, 10, 13, 10, 97] : List UInt8) then ((resp_Reason.f 201).bind fun t567 => (some (t567.toList == ([] : List UInt8)))) else (some false)) else (some false))) = some r := by first | (rw [hy560]; with_reducible exact H) | (have H2_ := (Option.bind_some _ _).symm.trans H; rw [hy560]; with_reducible exact H2_) | (have H2_ := (Option.bind_some _ _).symm.trans H; with_reducible exact H2_) | with_reducible exact H | (rw [hy560]; exact H) | exact H
 have Ny560 := Aside0.mk hy560
 clear hy560
 replace H := Option.bind_eq_some_iff.mp H
 obtain ⟨⟨t563, t566⟩, A10, H⟩ := H
 try dsimp only at H
 have A1 := Aside0.mk A10
 clear A10
 by_cases c2 : t566 = 0
 ·rw [if_pos c2] at H
  have c2b0 : (t566 == 0) = true := beq_iff_eq.mpr c2
  have c2b1 : (t566 != 0) = false := bne_eq_false_iff_eq.mpr c2
  clear c2
  by_cases c3 : (strOfNums t563).toList = ([72, 84, 84, 80, 47, 49, 46, 49, 32, 50, 48, 48, 32, 79, 75, 13, 10, 67, 111, 110, 116, 101, 110, 116, 45, 76, 101, 110, 103, 116, 104, 58, 32, 49, 13, 10, 13, 10, 97] : List UInt8)
  ·rw [if_pos c3] at H
   have c3b0 : ((strOfNums t563).toList == ([72, 84, 84, 80, 47, 49, 46, 49, 32, 50, 48, 48, 32, 79, 75, 13, 10, 67, 111, 110, 116, 101, 110, 116, 45, 76, 101, 110, 103, 116, 104, 58, 32, 49, 13, 10, 13, 10, 97] : List UInt8)) = true := beq_iff_eq.mpr c3
   have c3b1 : ((strOfNums t563).toList != ([72, 84, 84, 80, 47, 49, 46, 49, 32, 50, 48, 48, 32, 79, 75, 13, 10, 67, 111, 110, 116, 101, 110, 116, 45, 76, 101, 110, 103, 116, 104, 58, 32, 49, 13, 10, 13, 10, 97] : List UInt8)) = false := bne_eq_false_iff_eq.mpr c3
   clear c3
   replace H := Option.bind_eq_some_iff.mp H
   obtain ⟨t567, A40, H⟩ := H
   try dsimp only at H
   have A4 := Aside0.mk A40
   clear A40
   obtain rfl := Option.some.inj H
   go_enter Tryd.func28, Tryd.ntmps28
   go_wp2_with (first | ((with_reducible refine gate_dst (N := 5) rfl ?_); refine conv_lit rfl (N := 5) rfl (n := 1) (c := 1) ([97] : List Int) rfl ?hx Tryd.underlying22 Tryd.underlying5 rfl rfl (by decide) ?_; (case hx => first | rfl | (go_simp; done) | (go_simp; rfl)); intro v561 w5 ho6 hb; (first | rw [← Ny560.out] at ho6 | simp only [← Ny560.out] at ho6); have n0_ := Aside0.mk (Kd.V_lower (Kd.V_mono (ok' := fun k_ => True) ho6 (fun k_ hk_ => trivial)) (below_size (by repeat (first | (with_reducible first | apply bA | apply bN | apply bD) | exact HB.out)))); have n1_ := Aside0.mk (below_step (by repeat (first | (with_reducible first | apply bA | apply bN | apply bD) | exact HB.out)) hb); clear HB; have HO562 := n0_; have HB := n1_; clear n0_ n1_; clear hb ho6; obtain ⟨Ao7, co7, eo7⟩ := Kd.V_slice HO562.out; subst eo7) | ((with_reducible refine gate_callee (f := 27) rfl ?_); refine goesL_ (some 7) rfl rfl Tryd.func27 (by kernel_rfl) rfl #[.agg #[.int .i64 200, .slice none 0 0, .slice Ao7 y560.length co7]] rfl (by (try simp only [List.map_toArray, List.map_cons, List.map_nil]); first | done | rfl | (simp only [List.length_drop, List.length_take]; rfl)) ?_; (refine (resp_Print.calls 200 _ _ ([] : List (S43)) _ _ y560 t563 t566 _ ?side1 ?side2 ?side3 ?side4 (by first | exact hT | (refine Tb.of_below hT ?_; repeat (first | (with_reducible first | apply bA | apply bN | apply bD) | exact HB.out | refine Below.setCell ?_ (Aside0.out (by assumption)) _)) | (refine Tb.of_below hT ?_; assumption)) A1.out).mono ?_); (case side1 => exact Kd.C_nil _ _); (case side2 => exact Nat.le_refl _); (case side3 => repeat (first | exact (Kd.V_reads' HO562.out).2.2 | (with_reducible refine Kd.C_alloc ?_ _) | (with_reducible refine Kd.C_drewN ?_ _) | (with_reducible refine Kd.C_drew ?_))); (case side4 => exact (Kd.V_reads' HO562.out).2.1); rintro e w8 ⟨v564, rfl, ho0, hb⟩; refine ⟨_, rfl, ?_⟩; have n0_ := Aside0.mk (Kd.V_elder' (by (with_reducible repeat (first | apply Kd.V_alloc | apply Kd.V_drewN | apply Kd.V_drew)); exact HO562.out) (Kd.R_base ho0) hb); have n1_ := Aside0.mk (Kd.R_lower ho0 (below_size (by repeat (first | (with_reducible first | apply bA | apply bN | apply bD) | exact HB.out)))); have n2_ := Aside0.mk (below_step (by repeat (first | (with_reducible first | apply bA | apply bN | apply bD) | exact HB.out)) hb); clear HO562; clear HB; have HO562 := n0_; have HO565 := n1_; have HB := n2_; clear n0_ n1_ n2_; (try clear hb); (try clear hb2); (try clear hk); (try clear hi); (try clear ho0); (first | (have hcv9 := own_string (P := Tryd.prog) Tryd.underlying22 Tryd.underlying5 Tryd.underlying9 (Kd.own_of_R HO565.out)) | (have hcv9 := V_string20 (P := Tryd.prog) Tryd.underlying22 Tryd.underlying5 Tryd.underlying9 HO565.out))) | (go_at_call 36; (with_reducible refine (resp_Reason.calls 201 t567 _ A4.out).mono ?_); rintro e w10 ⟨rfl, hb⟩; have n0_ := Aside0.mk (Kd.V_below (by (with_reducible repeat (first | apply Kd.V_alloc | apply Kd.V_drewN | apply Kd.V_drew)); exact HO562.out) hb); have n1_ := Aside0.mk (Kd.R_below (by (with_reducible repeat (first | apply Kd.R_alloc | apply Kd.R_drewN | apply Kd.R_drew)); exact HO565.out) hb); have n2_ := Aside0.mk (below_step (by repeat (first | (with_reducible first | apply bA | apply bN | apply bD) | exact HB.out)) hb); clear HO562; clear HO565; clear HB; have HO562 := n0_; have HO565 := n1_; have HB := n2_; clear n0_ n1_ n2_; (try clear hb); (try clear hb2); (try clear hk); (try clear hi)))
   go_ret
   exact ⟨by first | rfl | (simp [errW_none, errW_some] <;> rfl) | (simp [*, errW_none, errW_some] <;> rfl), by repeat (first | (with_reducible first | apply bA | apply bN | apply bD) | exact HB.out)⟩
  ·rw [if_neg c3] at H
   have c3b0 : ((strOfNums t563).toList == ([72, 84, 84, 80, 47, 49, 46, 49, 32, 50, 48, 48, 32, 79, 75, 13, 10, 67, 111, 110, 116, 101, 110, 116, 45, 76, 101, 110, 103, 116, 104, 58, 32, 49, 13, 10, 13, 10, 97] : List UInt8)) = false := beq_eq_false_iff_ne.mpr c3
   have c3b1 : ((strOfNums t563).toList != ([72, 84, 84, 80, 47, 49, 46, 49, 32, 50, 48, 48, 32, 79, 75, 13, 10, 67, 111, 110, 116, 101, 110, 116, 45, 76, 101, 110, 103, 116, 104, 58, 32, 49, 13, 10, 13, 10, 97] : List UInt8)) = true := bne_iff_ne.mpr c3
   exact absurd (Option.some.inj H) (by rw [hTR.out]; decide)
 ·rw [if_neg c2] at H
  have c2b0 : (t566 == 0) = false := beq_eq_false_iff_ne.mpr c2
  have c2b1 : (t566 != 0) = true := bne_iff_ne.mpr c2
  exact absurd (Option.some.inj H) (by rw [hTR.out]; decide)
theorem wicketmanlaw10_known.told : wicketmanlaw10_known.f = some true := by decide +kernel
end Go.Proofs.YtpfbemcoblganaaDoor.Pall

import Derived.Test.YtpfbemcoblganaaGreatDoorQzHq
import Derived.Test.YtpfbemcoblganaaGreatDoorQzPall0
import Derived.Test.YtpfbemcoblganaaGreatDoorQzPall9
namespace Go.Proofs.YtpfbemcoblganaaGreatDoor.Pall
open Go.RowKit Go.Proofs.YtpfbemcoblganaaGreatDoorW.PrintWords Go.Proofs.YtpfbemcoblganaaGreatDoorW.PrintLast
set_option linter.unusedVariables false
set_option linter.unusedSimpArgs false
theorem V_string10 {P : Program} {e : Nat} {w : World} {base : Nat} {ok : Nat → Prop} {v : Value} {xs : List Int} {src dst el : TypeId} (hs : P.underlying src = some (.slice el)) (he : P.underlying el = some (.int .u8)) (hd : P.underlying dst = some .string) (h : Kd.V (Kd.int .u8) e w base ok v xs) : (convert src dst v).run P w = .ok (.string (strOfNums xs)) w := by
 obtain ⟨A, c, rfl, _, hf⟩ := h
 exact Kd.C_string hs he hd (Kd.F_now hf)
def wicketmanlaw09_prints.f (k : Nat) (a0_0 : ByteArray) (a0_1 : ByteArray) (l0_2 : List (S34)) (l0_3 : List Int) : Option (Bool) := (http_Print.f k a0_0 a0_1 l0_2 l0_3).bind fun bt299 => ((wicketmanref09_Print.f k a0_0 a0_1 l0_2 l0_3).bind fun bt303 => (if (strOfNums bt299.1).toList = (strOfNums bt303.1).toList then (some ((wrap64 (bt299.2)) == bt303.2)) else (some false)))
theorem wicketmanlaw09_prints.mono : ∀ a0 a1 a2 a3 k, LeO (wicketmanlaw09_prints.f k a0 a1 a2 a3) (wicketmanlaw09_prints.f (k + 1) a0 a1 a2 a3) := by
 intro a0 a1 a2 a3 k
 unfold wicketmanlaw09_prints.f
 repeat' first
   | (with_reducible exact http_Print.mono _ _ _ _ _)
   | (with_reducible exact wicketmanref09_Print.mono _ _ _ _ _)
   | (with_reducible exact LeO.refl _)
   | (with_reducible exact LeO.none _)
   | (with_reducible refine LeO.ite ?_ ?_)
   | (with_reducible refine LeO.bind ?_ (fun _ => ?_))
   | exact http_Print.mono _ _ _ _ _
   | exact wicketmanref09_Print.mono _ _ _ _ _
   | exact LeO.none _
   | refine LeO.ite ?_ ?_
   | refine LeO.bind ?_ (fun _ => ?_)
set_option maxHeartbeats 8000000 in
set_option maxRecDepth 100000 in
theorem wicketmanlaw09_prints.calls (k : Nat) (a0_0 : ByteArray) (a0_1 : ByteArray) (A0_2 : Option Addr) (c0_2 : Nat) (l0_2 : List (S34)) (A0_3 : Option Addr) (c0_3 : Nat) (l0_3 : List Int) (r : Bool) (w : World) (hr0_2 : Kd.C k34 w A0_2 l0_2.length l0_2) (hc0_2 : l0_2.length ≤ c0_2) (hr0_3 : Kd.C (Kd.int .u8) w A0_3 l0_3.length l0_3) (hc0_3 : l0_3.length ≤ c0_3) (hS : Sh w) (hTR : Aside0 (r = true)) (h : wicketmanlaw09_prints.f k a0_0 a0_1 l0_2 l0_3 = some r) :
  Calls Tryz.prog 8 #[.agg #[.string a0_0, .string a0_1, .slice A0_2 l0_2.length c0_2, .slice A0_3 l0_3.length c0_3]] w fun e w' => e = .returned (.bool r) ∧ Below w.heap.size w w' := by
 have hu25 := Tryz.underlying25
 have HR0_2 := Aside0.mk hr0_2
 have HC0_2 := Aside0.mk hc0_2
 clear hr0_2 hc0_2
 have HR0_3 := Aside0.mk hr0_3
 have HC0_3 := Aside0.mk hc0_3
 clear hr0_3 hc0_3
 have HB := Aside0.mk (Below.refl w.heap.size w)
 have H : ((http_Print.f k a0_0 a0_1 l0_2 l0_3).bind fun bt299 => ((wicketmanref09_Print.f k a0_0 a0_1 l0_2 l0_3).bind fun bt303 => (if (strOfNums bt299.1).toList = (strOfNums bt303.1).toList then (some ((wrap64 (bt299.2)) == bt303.2)) else (some false)))) = some r := h
 clear h
 replace H := Option.bind_eq_some_iff.mp H
 obtain ⟨⟨t299, t302⟩, A20, H⟩ := H
 try dsimp only at H
 have A2 := Aside0.mk A20
 clear A20
 replace H := Option.bind_eq_some_iff.mp H
 obtain ⟨⟨t303, t306⟩, A30, H⟩ := H
 try dsimp only at H
 have A3 := Aside0.mk A30
 clear A30
 by_cases c4 : (strOfNums t299).toList = (strOfNums t303).toList
 ·rw [if_pos c4] at H
  have c4b0 : ((strOfNums t299).toList == (strOfNums t303).toList) = true := beq_iff_eq.mpr c4
  have c4b1 : ((strOfNums t299).toList != (strOfNums t303).toList) = false := bne_eq_false_iff_eq.mpr c4
  clear c4
  obtain rfl := Option.some.inj H
  go_enter Tryz.func8, Tryz.ntmps8
  go_wp2_with (first | ((with_reducible refine gate_dst (N := 1) rfl ?_); refine box_event ?hg (N := 1) ?hd (cs := #[.string a0_0, .string a0_1, .slice A0_2 l0_2.length c0_2, .slice A0_3 l0_3.length c0_3]) (t := 25) ?hr ?_; (case hd => rfl); (case hg => rfl); (case hr => first | (go_simp; done) | (go_simp; rfl)); intro gb298 hg w5 hbox hb; have n0_ := Aside0.mk (below_step (by repeat (first | (with_reducible first | apply bA | apply bN | apply bD) | exact HB.out)) hb); have n1_ := Aside0.mk (hbox); have n2_ := Aside0.mk ((by rw [hg]; exact (below_size (by repeat (first | (with_reducible first | apply bA | apply bN | apply bD) | exact HB.out))) : w.heap.size ≤ gb298)); have n3_ := Aside0.mk ((by rw [hg]; exact (below_size (by repeat (first | (with_reducible first | apply bA | apply bN | apply bD) | exact HB.out))) : w.heap.size ≤ gb298)); clear HB; have HB := n0_; have BK298 := n1_; have GW298 := n2_; have GE298 := n3_; clear n0_ n1_ n2_ n3_; clear hb hbox hg; have hcz6_0 : w5.cell? ⟨gb298, 0, none⟩ = some (.string a0_0) := (blk_cell BK298.out 0).trans rfl; have hcz6_1 : w5.cell? ⟨gb298, 1, none⟩ = some (.string a0_1) := (blk_cell BK298.out 1).trans rfl; have hcz6_2 : w5.cell? ⟨gb298, 2, none⟩ = some (.slice A0_2 l0_2.length c0_2) := (blk_cell BK298.out 2).trans rfl; have hcz6_3 : w5.cell? ⟨gb298, 3, none⟩ = some (.slice A0_3 l0_3.length c0_3) := (blk_cell BK298.out 3).trans rfl; have hfz6_0 := blk_frozen BK298.out 0; have hfz6_1 := blk_frozen BK298.out 1; have hfz6_2 := blk_frozen BK298.out 2; have hfz6_3 := blk_frozen BK298.out 3) | ((with_reducible refine gate_callee (f := 17) rfl ?_); refine goesL_ (some 9) rfl rfl Tryz.func17 (by kernel_rfl) rfl #[.agg #[.string a0_0, .string a0_1, .slice A0_2 l0_2.length c0_2, .slice A0_3 l0_3.length c0_3]] rfl (by (try simp only [List.map_toArray, List.map_cons, List.map_nil]); first | done | rfl | (simp only [List.length_drop, List.length_take]; rfl)) ?_; (with_reducible refine (http_Print.calls k a0_0 a0_1 _ _ l0_2 _ _ l0_3 t299 t302 _ ?side1 ?side2 ?side3 ?side4 (by first | exact hS | (refine Sh.of_below hS ?_; repeat (first | (with_reducible first | apply bA | apply bN | apply bD) | exact HB.out | refine Below.setCell ?_ (Aside0.out (by assumption)) _)) | (refine Sh.of_below hS ?_; assumption)) A2.out).mono ?_); (case side1 => repeat (first | exact (Kd.C_below HR0_2.out HB.out) | (with_reducible refine Kd.C_alloc ?_ _) | (with_reducible refine Kd.C_drewN ?_ _) | (with_reducible refine Kd.C_drew ?_))); (case side2 => exact HC0_2.out); (case side3 => repeat (first | exact (Kd.C_below HR0_3.out HB.out) | (with_reducible refine Kd.C_alloc ?_ _) | (with_reducible refine Kd.C_drewN ?_ _) | (with_reducible refine Kd.C_drew ?_))); (case side4 => exact HC0_3.out); rintro e w7 ⟨v300, rfl, ho0, hb⟩; refine ⟨_, rfl, ?_⟩; have n0_ := Aside0.mk (Kd.R_lower ho0 (below_size (by repeat (first | (with_reducible first | apply bA | apply bN | apply bD | refine below_set ?_ GE298.out) | exact HB.out)))); have n1_ := Aside0.mk (blk_below (g := gb298) (o := .cells #[.string a0_0, .string a0_1, .slice A0_2 l0_2.length c0_2, .slice A0_3 l0_3.length c0_3] 25 (0, 0)) (by (with_reducible repeat (first | refine blk_drewN ?_ _ | refine blk_drew ?_ | refine blk_alloc ?_ _)); exact BK298.out) hb); have n2_ := Aside0.mk (below_step (by repeat (first | (with_reducible first | apply bA | apply bN | apply bD | refine below_set ?_ GE298.out) | exact HB.out)) hb); clear BK298; clear HB; have HO301 := n0_; have BK298 := n1_; have HB := n2_; clear n0_ n1_ n2_; (try clear hb); (try clear hb2); (try clear hk); (try clear hi); (try clear ho0); have hcz8_0 : w7.cell? ⟨gb298, 0, none⟩ = some (.string a0_0) := (blk_cell BK298.out 0).trans rfl; have hcz8_1 : w7.cell? ⟨gb298, 1, none⟩ = some (.string a0_1) := (blk_cell BK298.out 1).trans rfl; have hcz8_2 : w7.cell? ⟨gb298, 2, none⟩ = some (.slice A0_2 l0_2.length c0_2) := (blk_cell BK298.out 2).trans rfl; have hcz8_3 : w7.cell? ⟨gb298, 3, none⟩ = some (.slice A0_3 l0_3.length c0_3) := (blk_cell BK298.out 3).trans rfl; have hfz8_0 := blk_frozen BK298.out 0; have hfz8_1 := blk_frozen BK298.out 1; have hfz8_2 := blk_frozen BK298.out 2; have hfz8_3 := blk_frozen BK298.out 3) | ((with_reducible refine gate_callee (f := 18) rfl ?_); refine goesL_ (some 14) rfl rfl Tryz.func18 (by kernel_rfl) rfl #[.agg #[.string a0_0, .string a0_1, .slice A0_2 l0_2.length c0_2, .slice A0_3 l0_3.length c0_3]] rfl (by (try simp only [List.map_toArray, List.map_cons, List.map_nil]); first | done | rfl | (simp only [List.length_drop, List.length_take]; rfl)) ?_; (with_reducible refine (wicketmanref09_Print.calls k a0_0 a0_1 _ _ l0_2 _ _ l0_3 t303 t306 _ ?side1 ?side2 ?side3 ?side4 A3.out).mono ?_); (case side1 => repeat (first | exact (Kd.C_below HR0_2.out HB.out) | (with_reducible refine Kd.C_alloc ?_ _) | (with_reducible refine Kd.C_drewN ?_ _) | (with_reducible refine Kd.C_drew ?_))); (case side2 => exact HC0_2.out); (case side3 => repeat (first | exact (Kd.C_below HR0_3.out HB.out) | (with_reducible refine Kd.C_alloc ?_ _) | (with_reducible refine Kd.C_drewN ?_ _) | (with_reducible refine Kd.C_drew ?_))); (case side4 => exact HC0_3.out); rintro e w9 ⟨v304, rfl, ho0, hb⟩; refine ⟨_, rfl, ?_⟩; have n0_ := Aside0.mk (Kd.R_below (by (with_reducible repeat (first | apply Kd.R_alloc | apply Kd.R_drewN | apply Kd.R_drew)); exact HO301.out) hb); have n1_ := Aside0.mk (Kd.V_lower (Kd.V_mono (ok' := fun k_ => some k_ ≠ (v300 : Value).ownBlock ∧ k_ ≠ gb298) ho0 (fun k_ hk_ => ⟨(Kd.fresh' (Kd.R_lt (by (with_reducible repeat (first | apply Kd.R_alloc | apply Kd.R_drewN | apply Kd.R_drew)); exact HO301.out)) k_ hk_), (Kd.freshB (g := gb298) (o := .cells #[.string a0_0, .string a0_1, .slice A0_2 l0_2.length c0_2, .slice A0_3 l0_3.length c0_3] 25 (0, 0)) (by (with_reducible repeat (first | refine blk_drewN ?_ _ | refine blk_drew ?_ | refine blk_alloc ?_ _)); exact BK298.out) k_ hk_)⟩)) (below_size (by repeat (first | (with_reducible first | apply bA | apply bN | apply bD | refine below_set ?_ GE298.out) | exact HB.out)))); have n2_ := Aside0.mk (blk_below (g := gb298) (o := .cells #[.string a0_0, .string a0_1, .slice A0_2 l0_2.length c0_2, .slice A0_3 l0_3.length c0_3] 25 (0, 0)) (by (with_reducible repeat (first | refine blk_drewN ?_ _ | refine blk_drew ?_ | refine blk_alloc ?_ _)); exact BK298.out) hb); have n3_ := Aside0.mk (below_step (by repeat (first | (with_reducible first | apply bA | apply bN | apply bD | refine below_set ?_ GE298.out) | exact HB.out)) hb); clear HO301; clear BK298; clear HB; have HO301 := n0_; have HO305 := n1_; have BK298 := n2_; have HB := n3_; clear n0_ n1_ n2_ n3_; (try clear hb); (try clear hb2); (try clear hk); (try clear hi); (try clear ho0); (first | (have hcv10 := own_string (P := Tryz.prog) Tryz.underlying23 Tryz.underlying5 Tryz.underlying9 (Kd.own_of_R HO301.out)) | (have hcv10 := V_string10 (P := Tryz.prog) Tryz.underlying23 Tryz.underlying5 Tryz.underlying9 HO301.out)); (first | (have hcv11 := own_string (P := Tryz.prog) Tryz.underlying23 Tryz.underlying5 Tryz.underlying9 (Kd.own_of_R HO305.out)) | (have hcv11 := V_string10 (P := Tryz.prog) Tryz.underlying23 Tryz.underlying5 Tryz.underlying9 HO305.out))))
  go_ret
  exact ⟨by first | rfl | (simp [errW_none, errW_some] <;> rfl) | (simp [*, errW_none, errW_some] <;> rfl), by repeat (first | (with_reducible first | apply bA | apply bN | apply bD | refine below_set ?_ GE298.out) | exact HB.out)⟩
 ·rw [if_neg c4] at H
  have c4b0 : ((strOfNums t299).toList == (strOfNums t303).toList) = false := beq_eq_false_iff_ne.mpr c4
  have c4b1 : ((strOfNums t299).toList != (strOfNums t303).toList) = true := bne_iff_ne.mpr c4
  exact absurd (Option.some.inj H) (by rw [hTR.out]; decide)
end Go.Proofs.YtpfbemcoblganaaGreatDoor.Pall

import Derived.Test.YtpfbemcoblganaaDoorQpPall0
import Derived.Test.YtpfbemcoblganaaDoorQpPall13
import Derived.Test.YtpfbemcoblganaaDoorQpPall14
import Derived.Test.YtpfbemcoblganaaDoorQpPall22
namespace Go.Proofs.YtpfbemcoblganaaDoor.Pall
open Go.RowKit Go.Proofs.YtpfbemcoblganaaDoorW.PrintWords Go.Proofs.YtpfbemcoblganaaDoorW.PrintLast
set_option linter.unusedVariables false
set_option linter.unusedSimpArgs false
theorem V_string25 {P : Program} {e : Nat} {w : World} {base : Nat} {ok : Nat → Prop} {v : Value} {xs : List Int} {src dst el : TypeId} (hs : P.underlying src = some (.slice el)) (he : P.underlying el = some (.int .u8)) (hd : P.underlying dst = some .string) (h : Kd.V (Kd.int .u8) e w base ok v xs) : (convert src dst v).run P w = .ok (.string (strOfNums xs)) w := by
 obtain ⟨A, c, rfl, _, hf⟩ := h
 exact Kd.C_string hs he hd (Kd.F_now hf)
mutual
def wicketmanlaw10_Response.l0 : Nat → List Int → Int → Int → Int → List (S43) → List Int → Option (Int × (List (S43)) × List Int)
 | 0, _, _, _, _, _, _ => none
 | k + 1, x0, x2, x9, x700000, x700001, x700002 => if x9 < (x0.length : Int) then (wicketmanlaw10_Response.j1 k x0 x2 x9 (decide (x9 < 6)) x700000 x700001 x700002) else (wicketmanlaw10_Response.j1 k x0 x2 x9 false x700000 x700001 x700002)
def wicketmanlaw10_Response.j1 : Nat → List Int → Int → Int → Bool → Int → List (S43) → List Int → Option (Int × (List (S43)) × List Int)
 | 0, _, _, _, _, _, _, _ => none
 | k + 1, x0, x2, x9, x28, x700000, x700001, x700002 => if x28 = true then (if 0 ≤ x9 then (if x9 < (x0.length : Int) then ((some (([(97 + (Int.tmod (rd x0 x9) 26)) % 256] : List Int) : List Int)).bind fun y701 => (if 1 + (strOfNums y701).size ≤ 9223372036854775807 then (if x9 ≤ (x0.length : Int) then ((wicketmanlaw08_Line.f k (x0.drop (x9 : Int).toNat)).bind fun t705 => ((wicketmanref07_Escape.f k t705).bind fun t706 => (if x700001.length < 4398046511104 then (wicketmanlaw10_Response.l0 k x0 x2 (wrap64 (x9 + 1)) x700000 (x700001 ++ [(⟨(⟨#[88]⟩ : ByteArray) ++ (strOfNums y701), t706⟩ : S43)]) x700002) else (none)))) else (none)) else (none))) else (none)) else (none)) else (if x2 > 230 then (some (wrap64 (x2), x700001, x700002)) else (some (x700000, x700001, x700002)))
end
def wicketmanlaw10_Response.f (k : Nat) (l0 : List Int) (l1 : List Int) (a2 : Int) : Option (Int × (List (S43)) × List Int) := (wicketmanref10_Statuses.f).bind fun t695 => (if (t695.length : Int) = 0 then (none) else (if 0 ≤ (Int.tmod (wrap64 (a2)) (t695.length : Int)) then (if (Int.tmod (wrap64 (a2)) (t695.length : Int)) < (t695.length : Int) then (wicketmanlaw10_Response.l0 k l0 a2 0 (rd t695 (Int.tmod (wrap64 (a2)) (t695.length : Int))) ([] : List (S43)) l1) else (none)) else (none)))
theorem wicketmanlaw10_Response.mono_l : ∀ k, (∀ y0 y1 y2 y3 y4 y5, LeO (wicketmanlaw10_Response.l0 k y0 y1 y2 y3 y4 y5) (wicketmanlaw10_Response.l0 (k + 1) y0 y1 y2 y3 y4 y5)) ∧ (∀ y0 y1 y2 y3 y4 y5 y6, LeO (wicketmanlaw10_Response.j1 k y0 y1 y2 y3 y4 y5 y6) (wicketmanlaw10_Response.j1 (k + 1) y0 y1 y2 y3 y4 y5 y6))
 | 0 => ⟨fun _ _ _ _ _ _ r h => by simp [wicketmanlaw10_Response.l0] at h, fun _ _ _ _ _ _ _ r h => by simp [wicketmanlaw10_Response.j1] at h⟩
 | k + 1 => by
  obtain ⟨ih0, ih1⟩ := wicketmanlaw10_Response.mono_l k
  refine ⟨?_, ?_⟩
  ·intro y0 y1 y2 y3 y4 y5
   unfold wicketmanlaw10_Response.l0
   repeat' first
   | (with_reducible exact ih0 _ _ _ _ _ _)
   | (with_reducible exact ih1 _ _ _ _ _ _ _)
   | (with_reducible exact wicketmanlaw08_Line.mono _ _)
   | (with_reducible exact wicketmanref07_Escape.mono _ _)
   | (with_reducible exact LeO.refl _)
   | (with_reducible exact LeO.none _)
   | (with_reducible refine LeO.ite ?_ ?_)
   | (with_reducible refine LeO.bind ?_ (fun _ => ?_))
   | exact ih0 _ _ _ _ _ _
   | exact ih1 _ _ _ _ _ _ _
   | exact wicketmanlaw08_Line.mono _ _
   | exact wicketmanref07_Escape.mono _ _
   | exact LeO.none _
   | refine LeO.ite ?_ ?_
   | refine LeO.bind ?_ (fun _ => ?_)
  ·intro y0 y1 y2 y3 y4 y5 y6
   unfold wicketmanlaw10_Response.j1
   repeat' first
   | (with_reducible exact ih0 _ _ _ _ _ _)
   | (with_reducible exact ih1 _ _ _ _ _ _ _)
   | (with_reducible exact wicketmanlaw08_Line.mono _ _)
   | (with_reducible exact wicketmanref07_Escape.mono _ _)
   | (with_reducible exact LeO.refl _)
   | (with_reducible exact LeO.none _)
   | (with_reducible refine LeO.ite ?_ ?_)
   | (with_reducible refine LeO.bind ?_ (fun _ => ?_))
   | exact ih0 _ _ _ _ _ _
   | exact ih1 _ _ _ _ _ _ _
   | exact wicketmanlaw08_Line.mono _ _
   | exact wicketmanref07_Escape.mono _ _
   | exact LeO.none _
   | refine LeO.ite ?_ ?_
   | refine LeO.bind ?_ (fun _ => ?_)
theorem wicketmanlaw10_Response.mono : ∀ a0 a1 a2 k, LeO (wicketmanlaw10_Response.f k a0 a1 a2) (wicketmanlaw10_Response.f (k + 1) a0 a1 a2) := by
 intro a0 a1 a2 k
 obtain ⟨ih0, ih1⟩ := wicketmanlaw10_Response.mono_l k
 unfold wicketmanlaw10_Response.f
 repeat' first
   | (with_reducible exact ih0 _ _ _ _ _ _)
   | (with_reducible exact ih1 _ _ _ _ _ _ _)
   | (with_reducible exact wicketmanlaw08_Line.mono _ _)
   | (with_reducible exact wicketmanref07_Escape.mono _ _)
   | (with_reducible exact LeO.refl _)
   | (with_reducible exact LeO.none _)
   | (with_reducible refine LeO.ite ?_ ?_)
   | (with_reducible refine LeO.bind ?_ (fun _ => ?_))
   | exact ih0 _ _ _ _ _ _
   | exact ih1 _ _ _ _ _ _ _
   | exact wicketmanlaw08_Line.mono _ _
   | exact wicketmanref07_Escape.mono _ _
   | exact LeO.none _
   | refine LeO.ite ?_ ?_
   | refine LeO.bind ?_ (fun _ => ?_)
def wicketmanlaw10_Response.T6 : Bool × List (List Nat × List Nat) := (true, [([], []), ([0], [0]), ([], []), ([], []), ([2, 3], [2, 3]), ([4], [4]), ([5], [5]), ([6], [6]), ([7], [7]), ([8], [8]), ([9], [9]), ([], []), ([], []), ([11, 12], [11, 12]), ([13], [13]), ([14, 14], [14]), ([10, 15], [10, 15]), ([16], [16]), ([1, 17, 15], [1, 17]), ([0, 1, 2, 3, 4, 5, 6, 7, 8, 9, 10, 11, 12, 13, 14, 15, 16, 17, 18], []), ([19, 18, 18, 0, 1, 2, 3, 4, 5, 6, 7, 8, 9, 10, 11, 12, 13, 14, 15, 16, 17, 18], [18, 19])])
def wicketmanlaw10_Response.B6 : List Nat := [0, 1, 0, 0, 12, 28, 60, 124, 252, 508, 1020, 0, 0, 6144, 14336, 30720, 65532, 131068, 262143, 524287, 1048575]
theorem wicketmanlaw10_Response.tab6 : rtab .any (opsOf Tryd.f34 6) = wicketmanlaw10_Response.T6 := by kernel_rfl
theorem wicketmanlaw10_Response.bits6 : waitsOk wicketmanlaw10_Response.T6.2 wicketmanlaw10_Response.B6 = true := by kernel_rfl
set_option maxHeartbeats 8000000 in
set_option maxRecDepth 100000 in
theorem wicketmanlaw10_Response.calls (k : Nat) (A0 : Option Addr) (c0 : Nat) (l0 : List Int) (P1_ : Nat → Prop) (A1 : Option Addr) (c1 : Nat) (l1 : List Int) (a2 : Int) (r1 : Int) (r2 : List (S43)) (r3 : List Int) (w : World) (hr0 : Kd.C (Kd.int .u8) w A0 l0.length l0) (hc0 : l0.length ≤ c0) (hs1 : Kd.V (Kd.int .u8) 5 w w.heap.size (fun k_ => P1_ k_) (.slice A1 l1.length c1) l1) (h : wicketmanlaw10_Response.f k l0 l1 a2 = some (r1, r2, r3)) :
  Calls Tryd.prog 34 #[.slice A0 l0.length c0, .slice A1 l1.length c1, .int .u8 a2] w fun e w' => ∃ v1_ v2_ : Value, e = .returned (.agg #[.int .i64 r1, v1_, v2_]) ∧ Kd.R k43 43 w' w.heap.size (fun k_ => (w.heap.size ≤ k_)) v1_ r2 ∧ Kd.V (Kd.int .u8) 5 w' w.heap.size (fun k_ => (P1_ k_ ∨ w.heap.size ≤ k_) ∧ some k_ ≠ (v1_ : Value).ownBlock) v2_ r3 ∧ Below w.heap.size w w' := by
 have hu51 := Tryd.underlying51
 have hu43 := Tryd.underlying43
 have HR0 := Aside0.mk hr0
 have HC0 := Aside0.mk hc0
 clear hr0 hc0
 have HO1 := Aside0.mk (show Kd.V (Kd.int .u8) 5 w w.heap.size (fun k_ => (P1_ k_ ∨ w.heap.size ≤ k_)) (.slice A1 l1.length c1) l1 from Kd.V_mono hs1 (fun k_ hk => .inl hk))
 have HB := Aside0.mk (Below.refl w.heap.size w)
 have H : ((wicketmanref10_Statuses.f).bind fun t695 => (if (t695.length : Int) = 0 then (none) else (if 0 ≤ (Int.tmod (wrap64 (a2)) (t695.length : Int)) then (if (Int.tmod (wrap64 (a2)) (t695.length : Int)) < (t695.length : Int) then (wicketmanlaw10_Response.l0 k l0 a2 0 (rd t695 (Int.tmod (wrap64 (a2)) (t695.length : Int))) ([] : List (S43)) l1) else (none)) else (none)))) = some (r1, r2, r3) := h
 clear h
 replace H := Option.bind_eq_some_iff.mp H
 obtain ⟨t695, A40, H⟩ := H
 try dsimp only at H
 have A4 := Aside0.mk A40
 clear A40
 by_cases c5 : (t695.length : Int) = 0
 ·rw [if_pos c5] at H
  exact absurd H (by simp)
 ·rw [if_neg c5] at H
  have c5b0 : ((t695.length : Int) == 0) = false := beq_eq_false_iff_ne.mpr c5
  have c5b1 : ((t695.length : Int) != 0) = true := bne_iff_ne.mpr c5
  have c5b2 : ¬ (t695 = []) := fun h_ => c5 (by rw [h_]; rfl)
  obtain ⟨ji6, hji6⟩ : ∃ j_ : Int, (Int.tmod (wrap64 (a2)) (t695.length : Int)) = j_ := ⟨_, rfl⟩
  replace H : (if 0 ≤ (ji6) then (if (ji6) < (t695.length : Int) then (wicketmanlaw10_Response.l0 k l0 a2 0 (rd t695 (ji6)) ([] : List (S43)) l1) else (none)) else (none)) = some (r1, r2, r3) := by first | (rw [hji6] at H; exact H) | (simp only [hji6] at H ⊢; exact H)
  (try rw [hji6] at A4)
  by_cases c7 : 0 ≤ (ji6)
  ·rw [if_pos c7] at H
   have c7b0 : decide (0 ≤ (ji6)) = true := decide_eq_true c7
   clear c7
   by_cases c8 : (ji6) < (t695.length : Int)
   ·rw [if_pos c8] at H
    have c8b0 : decide ((ji6) < (t695.length : Int)) = true := decide_eq_true c8
    clear c8
    have H' := Aside0.mk H
    clear H
    go_enter Tryd.func34, Tryd.ntmps34
    go_wp2_with (first | ((with_reducible refine gate_dst (N := 6) rfl ?_); refine box_event ?hg (N := 6) ?hd (cs := #[.int .i64 0, .slice none 0 0, .slice none 0 0]) (t := 51) ?hr ?_; (case hd => rfl); (case hg => rfl); (case hr => first | (go_simp; done) | (go_simp; rfl)); intro gb694 hg w9 hbox hb; have n0_ := Aside0.mk (Kd.V_below (Kd.V_elderB (by (with_reducible repeat (first | apply Kd.V_alloc | apply Kd.V_drewN | apply Kd.V_drew)); exact HO1.out) gb694 (Nat.le_of_eq hg.symm)) hb); have n1_ := Aside0.mk (below_step (by repeat (first | (with_reducible first | apply bA | apply bN | apply bD) | exact HB.out)) hb); have n2_ := Aside0.mk (hbox); have n3_ := Aside0.mk ((by rw [hg]; exact (below_size (by repeat (first | (with_reducible first | apply bA | apply bN | apply bD) | exact HB.out))) : w.heap.size ≤ gb694)); have n4_ := Aside0.mk ((by rw [hg]; exact (below_size (by repeat (first | (with_reducible first | apply bA | apply bN | apply bD) | exact HB.out))) : w.heap.size ≤ gb694)); clear HO1; clear HB; have HO1 := n0_; have HB := n1_; have BK694 := n2_; have GW694 := n3_; have GE694 := n4_; clear n0_ n1_ n2_ n3_ n4_; clear hb hbox hg) | ((with_reducible refine gate_callee (f := 29) rfl ?_); refine goesL_ (some 10) rfl rfl Tryd.func29 (by kernel_rfl) rfl #[] rfl (by (try simp only [List.map_toArray, List.map_cons, List.map_nil]); first | done | rfl | (simp only [List.length_drop, List.length_take]; rfl)) ?_; (with_reducible refine (wicketmanref10_Statuses.calls  t695 _ A4.out).mono ?_); rintro e w10 ⟨v696, rfl, ho0, hb⟩; refine ⟨_, rfl, ?_⟩; have n0_ := Aside0.mk (Kd.V_elder' (by (with_reducible repeat (first | apply Kd.V_alloc | apply Kd.V_drewN | apply Kd.V_drew)); exact HO1.out) (Kd.R_base ho0) hb); have n1_ := Aside0.mk (Kd.R_lower (Kd.R_newM (M := fun k_ => (w.heap.size ≤ k_)) ho0 (below_size (by repeat (first | (with_reducible first | apply bA | apply bN | apply bD | refine below_set ?_ GE694.out) | exact HB.out))) (fun k_ h_ => h_)) (below_size (by repeat (first | (with_reducible first | apply bA | apply bN | apply bD | refine below_set ?_ GE694.out) | exact HB.out)))); have n2_ := Aside0.mk (blk_below (g := gb694) (o := .cells #[.int .i64 0, .slice none 0 0, .slice none 0 0] 51 (0, 0)) (by (with_reducible repeat (first | refine blk_drewN ?_ _ | refine blk_drew ?_ | refine blk_alloc ?_ _)); exact BK694.out) hb); have n3_ := Aside0.mk (below_step (by repeat (first | (with_reducible first | apply bA | apply bN | apply bD | refine below_set ?_ GE694.out) | exact HB.out)) hb); clear HO1; clear BK694; clear HB; have HO1 := n0_; have HO697 := n1_; have BK694 := n2_; have HB := n3_; clear n0_ n1_ n2_ n3_; (try clear hb); (try clear hb2); (try clear hk); (try clear hi); (try clear ho0); obtain ⟨Ao11, co11, eo11⟩ := Kd.R_slice HO697.out; subst eo11; have p698 : 0 ≤ ((ji6) : Int) := of_decide_eq_true (by first | (with_reducible assumption) | assumption); have q698 : (ji6) < (t695.length : Int) := of_decide_eq_true (by first | (with_reducible assumption) | assumption); obtain ⟨ad698, e698, hx698_0⟩ := Kd.at_int (Kd.R_reads' HO697.out).2.2 (ji6) p698 q698; cases e698; replace p698 := eq_true p698; replace q698 := eq_true q698) | ((with_reducible refine gate_dst (N := 8) rfl ?_); refine box_event ?hg (N := 8) ?hd (cs := #[.int .i64 0, .slice none 0 0, .slice none 0 0]) (t := 51) ?hr ?_; (case hd => rfl); (case hg => rfl); (case hr => first | (go_simp; done) | (go_simp; rfl)); intro gb699 hg w12 hbox hb; have n0_ := Aside0.mk (Kd.V_below (Kd.V_elderB (by (with_reducible repeat (first | apply Kd.V_alloc | apply Kd.V_drewN | apply Kd.V_drew)); exact HO1.out) gb699 (Nat.le_of_eq hg.symm)) hb); have n1_ := Aside0.mk (Kd.R_below (by (with_reducible repeat (first | apply Kd.R_alloc | apply Kd.R_drewN | apply Kd.R_drew)); exact HO697.out) hb); have n2_ := Aside0.mk (blk_below (g := gb694) (o := .cells #[.int .i64 0, .slice none 0 0, .slice none 0 0] 51 (0, 0)) (by (with_reducible repeat (first | refine blk_drewN ?_ _ | refine blk_drew ?_ | refine blk_alloc ?_ _)); exact BK694.out) hb); have n3_ := Aside0.mk (below_step (by repeat (first | (with_reducible first | apply bA | apply bN | apply bD | refine below_set ?_ GE694.out) | exact HB.out)) hb); have n4_ := Aside0.mk (hbox); have n5_ := Aside0.mk ((by rw [hg]; exact (below_size (by repeat (first | (with_reducible first | apply bA | apply bN | apply bD | refine below_set ?_ GE694.out) | exact HB.out))) : w.heap.size ≤ gb699)); have n6_ := Aside0.mk ((by rw [hg]; exact (below_size (by repeat (first | (with_reducible first | apply bA | apply bN | apply bD | refine below_set ?_ GE694.out) | exact HB.out))) : w.heap.size ≤ gb699)); have n7_ := Aside0.mk ((by rw [hg]; exact Nat.ne_of_lt (blk_lt (g := gb694) (o := .cells #[.int .i64 0, .slice none 0 0, .slice none 0 0] 51 (0, 0)) (by (with_reducible repeat (first | refine blk_drewN ?_ _ | refine blk_drew ?_ | refine blk_alloc ?_ _)); exact BK694.out)) : gb694 ≠ gb699)); have n8_ := Aside0.mk ((by rw [hg]; exact Nat.ne_of_gt (blk_lt (g := gb694) (o := .cells #[.int .i64 0, .slice none 0 0, .slice none 0 0] 51 (0, 0)) (by (with_reducible repeat (first | refine blk_drewN ?_ _ | refine blk_drew ?_ | refine blk_alloc ?_ _)); exact BK694.out)) : gb699 ≠ gb694)); clear HO1; clear HO697; clear BK694; clear HB; have HO1 := n0_; have HO697 := n1_; have BK694 := n2_; have HB := n3_; have BK699 := n4_; have GW699 := n5_; have GE699 := n6_; have NB694_699 := n7_; have NB699_694 := n8_; clear n0_ n1_ n2_ n3_ n4_ n5_ n6_ n7_ n8_; clear hb hbox hg; have hnb13 := NB699_694.out; have hnc13 := NB694_699.out; have hcz14_0 : w12.cell? ⟨gb699, 0, none⟩ = some (.int .i64 0) := (blk_cell BK699.out 0).trans rfl; have hcz14_1 : w12.cell? ⟨gb699, 1, none⟩ = some (.slice none 0 0) := (blk_cell BK699.out 1).trans rfl; have hcz14_2 : w12.cell? ⟨gb699, 2, none⟩ = some (.slice none 0 0) := (blk_cell BK699.out 2).trans rfl; have hfz14_0 := blk_frozen BK699.out 0; have hfz14_1 := blk_frozen BK699.out 1; have hfz14_2 := blk_frozen BK699.out 2))
    go_loopg [9] k (fun kq v9 w' => ∃ (x9_1 : Int) (x700001_1 : List (S43)) (u700001 : Value), v9 = .int .i64 x9_1 ∧ Aside0 (wicketmanlaw10_Response.l0 kq l0 a2 x9_1 (rd t695 (ji6)) x700001_1 l1 = some (r1, r2, r3)) ∧ Aside0 (kq ≤ k) ∧ Aside0 (Kd.R k43 43 w' w.heap.size (fun k_ => (w.heap.size ≤ k_)) u700001 x700001_1) ∧ Aside0 (Kd.V (Kd.int .u8) 5 w' w.heap.size (fun k_ => (P1_ k_ ∨ w.heap.size ≤ k_) ∧ some k_ ≠ (u700001 : Value).ownBlock ∧ k_ ≠ gb694 ∧ k_ ≠ gb699) (.slice A1 l1.length c1) l1) ∧ Aside0 (w'.heap[gb694]? = some (.cells #[.int .i64 0, (.slice none 0 0), (.slice none 0 0)] 51 (0, 0))) ∧ Aside0 (w'.heap[gb699]? = some (.cells #[.int .i64 (rd t695 (ji6)), u700001, (.slice A1 l1.length c1)] 51 (0, 0))) ∧ Aside0 (Below w.heap.size w w'))
    case atStart => exact ⟨(0), (([] : List (S43))), (.slice none 0 0), (by first | rfl | (simp; done) | (simp [*]; done)), H', ⟨Nat.le_refl _⟩, ⟨by first | exact Kd.R_nil _ _ _ _ _ | exact Kd.N_nil _ _ _ _ _ | exact Kd.V_nil _ _ _ _ _ | exact Kd.Q_nil _ _ _ _ _ | exact Kd.S_nil _ _ _ _ _⟩, ⟨by (with_reducible repeat (first | apply Kd.V_alloc | apply Kd.V_drewN | apply Kd.V_drew)); exact Kd.V_mono (Kd.V_far (p := ⟨gb699, 2, none⟩) (Kd.V_far (p := ⟨gb699, 1, none⟩) (Kd.V_far (p := ⟨gb699, 0, none⟩) (Kd.V_mono HO1.out (fun k_ hk => (⟨hk, hk.2⟩ : _ ∧ k_ ≠ gb699))) (fun _ hk => hk.2) (.int .i64 (rd t695 (ji6)))) (fun _ hk => hk.2) (.slice none 0 0)) (fun _ hk => hk.2) (.slice A1 l1.length c1)) (fun _ hk => ⟨hk.1.1.1.1, ⟨(by simp [Value.ownBlock]), ⟨hk.1.1.1.2, hk.1.2⟩⟩⟩)⟩, ⟨by (with_reducible repeat (first | refine blk_drewN ?_ _ | refine blk_drew ?_ | refine blk_alloc ?_ _)); refine blk_far ?_ NB694_699.out _; (with_reducible repeat (first | refine blk_drewN ?_ _ | refine blk_drew ?_ | refine blk_alloc ?_ _)); refine blk_far ?_ NB694_699.out _; (with_reducible repeat (first | refine blk_drewN ?_ _ | refine blk_drew ?_ | refine blk_alloc ?_ _)); refine blk_far ?_ NB694_699.out _; (with_reducible repeat (first | refine blk_drewN ?_ _ | refine blk_drew ?_ | refine blk_alloc ?_ _)); exact BK694.out⟩, ⟨by (with_reducible repeat (first | refine blk_drewN ?_ _ | refine blk_drew ?_ | refine blk_alloc ?_ _)); refine blk_put (cs := #[.int .i64 (rd t695 (ji6)), .slice none 0 0, .slice none 0 0]) ?_ 2 _ rfl; (with_reducible repeat (first | refine blk_drewN ?_ _ | refine blk_drew ?_ | refine blk_alloc ?_ _)); refine blk_put (cs := #[.int .i64 (rd t695 (ji6)), .slice none 0 0, .slice none 0 0]) ?_ 1 _ rfl; (with_reducible repeat (first | refine blk_drewN ?_ _ | refine blk_drew ?_ | refine blk_alloc ?_ _)); refine blk_put (cs := #[.int .i64 0, .slice none 0 0, .slice none 0 0]) ?_ 0 _ rfl; (with_reducible repeat (first | refine blk_drewN ?_ _ | refine blk_drew ?_ | refine blk_alloc ?_ _)); exact BK699.out⟩, ⟨by repeat (first | (with_reducible first | apply bA | apply bN | apply bD | refine below_set ?_ GE694.out | refine below_set ?_ GE699.out) | exact HB.out)⟩⟩
    case round =>
     clear H'
     try clear c1
     try clear c2
     try clear p2
     try clear c3
     try clear c5
     try clear c5b0
     try clear c5b1
     try clear c5b2
     try clear p6
     try clear q6
     try clear hx6
     try clear c7
     try clear c7b0
     try clear c8
     try clear c8b0
     try clear c13
     try clear hcz14_0
     try clear hcz14_1
     try clear hcz14_2
     try clear hfz14_0
     try clear hfz14_1
     try clear hfz14_2
     try clear hx698_0
     try clear p698
     try clear q698
     obtain ⟨x9_1, x700001_1, u700001, rfl, HA, HK1, HO_700001, HO_700002, BK694, BK699, HB⟩ := hrel
     cases gk with
     | zero => exact absurd HA.out (by simp [wicketmanlaw10_Response.l0])
     | succ k1 =>
      have H := HA.out
      clear HA
      simp only [wicketmanlaw10_Response.l0] at H
      have HC15 := Aside0.mk H
      clear H
      go_upto_region 4 with (fail)
      go_cut [28] (fun v28 wc => ∃ (kq : Nat) (x28_14 : Bool), v28 = .bool x28_14 ∧ Aside0 (wicketmanlaw10_Response.j1 kq l0 a2 x9_1 x28_14 (rd t695 (ji6)) x700001_1 l1 = some (r1, r2, r3)) ∧ Aside0 (kq ≤ k1) ∧ Aside0 (Kd.R k43 43 wc w.heap.size (fun k_ => (w.heap.size ≤ k_)) u700001 x700001_1) ∧ Aside0 (Kd.V (Kd.int .u8) 5 wc w.heap.size (fun k_ => (P1_ k_ ∨ w.heap.size ≤ k_) ∧ some k_ ≠ (u700001 : Value).ownBlock ∧ k_ ≠ gb694 ∧ k_ ≠ gb699) (.slice A1 l1.length c1) l1) ∧ Aside0 (wc.heap[gb694]? = some (.cells #[.int .i64 0, (.slice none 0 0), (.slice none 0 0)] 51 (0, 0))) ∧ Aside0 (wc.heap[gb699]? = some (.cells #[.int .i64 (rd t695 (ji6)), u700001, (.slice A1 l1.length c1)] 51 (0, 0))) ∧ Aside0 (Below w.heap.size w wc))
      case first =>
       have H := HC15.out
       clear HC15
       by_cases c16 : x9_1 < (l0.length : Int)
       ·rw [if_pos c16] at H
        have c16b0 : decide (x9_1 < (l0.length : Int)) = true := decide_eq_true c16
        clear c16
        (first | rw [c16b0] | (simp only [i64_w, i32_w]; rw [c16b0]) | skip)
        have H' := Aside0.mk H
        clear H
        go_wp2
        go_meet
        case rel => exact ⟨_, (decide (x9_1 < 6)), (by first | rfl | (simp; done) | (simp [*]; done)), H', ⟨by have := HK1.out; first | omega | exact Nat.le_refl _⟩, ⟨by (with_reducible repeat (first | apply Kd.R_alloc | apply Kd.R_drewN | apply Kd.R_drew)); exact HO_700001.out⟩, ⟨by (with_reducible repeat (first | apply Kd.V_alloc | apply Kd.V_drewN | apply Kd.V_drew)); exact HO_700002.out⟩, ⟨by (with_reducible repeat (first | refine blk_drewN ?_ _ | refine blk_drew ?_ | refine blk_alloc ?_ _)); exact BK694.out⟩, ⟨by (with_reducible repeat (first | refine blk_drewN ?_ _ | refine blk_drew ?_ | refine blk_alloc ?_ _)); exact BK699.out⟩, ⟨by repeat (first | (with_reducible first | apply bA | apply bN | apply bD | refine below_set ?_ GE694.out | refine below_set ?_ GE699.out) | exact HB.out)⟩⟩
       ·rw [if_neg c16] at H
        have c16b0 : decide (x9_1 < (l0.length : Int)) = false := decide_eq_false c16
        clear c16
        (first | rw [c16b0] | (simp only [i64_w, i32_w]; rw [c16b0]) | skip)
        have H' := Aside0.mk H
        clear H
        go_wp2
        go_meet
        case rel => exact ⟨_, (false), (by first | rfl | (simp; done) | (simp [*]; done)), H', ⟨by have := HK1.out; first | omega | exact Nat.le_refl _⟩, ⟨by (with_reducible repeat (first | apply Kd.R_alloc | apply Kd.R_drewN | apply Kd.R_drew)); exact HO_700001.out⟩, ⟨by (with_reducible repeat (first | apply Kd.V_alloc | apply Kd.V_drewN | apply Kd.V_drew)); exact HO_700002.out⟩, ⟨by (with_reducible repeat (first | refine blk_drewN ?_ _ | refine blk_drew ?_ | refine blk_alloc ?_ _)); exact BK694.out⟩, ⟨by (with_reducible repeat (first | refine blk_drewN ?_ _ | refine blk_drew ?_ | refine blk_alloc ?_ _)); exact BK699.out⟩, ⟨by repeat (first | (with_reducible first | apply bA | apply bN | apply bD | refine below_set ?_ GE694.out | refine below_set ?_ GE699.out) | exact HB.out)⟩⟩
      case rest =>
       clear HC15
       try clear c1
       try clear c2
       try clear p2
       try clear c3
       try clear c5
       try clear c5b0
       try clear c5b1
       try clear c5b2
       try clear p6
       try clear q6
       try clear hx6
       try clear c7
       try clear c7b0
       try clear c8
       try clear c8b0
       try clear c13
       try clear c16
       try clear c16b0
       try clear hcz14_0
       try clear hcz14_1
       try clear hcz14_2
       try clear hfz14_0
       try clear hfz14_1
       try clear hfz14_2
       try clear hx698_0
       try clear p2
       try clear p6
       try clear p698
       try clear q6
       try clear q698
       obtain ⟨kq, x28_14, rfl, HA, HJ14, HO_700001, HO_700002, BK694, BK699, HB⟩ := hcut
       cases kq with
       | zero => exact absurd HA.out (by simp [wicketmanlaw10_Response.j1])
       | succ kj14 =>
        have H := HA.out
        clear HA
        simp only [wicketmanlaw10_Response.j1] at H
        by_cases c17 : x28_14 = true
        ·subst c17
         rw [if_pos rfl] at H
         by_cases c18 : 0 ≤ x9_1
         ·rw [if_pos c18] at H
          have c18b0 : decide (0 ≤ x9_1) = true := decide_eq_true c18
          clear c18
          by_cases c19 : x9_1 < (l0.length : Int)
          ·rw [if_pos c19] at H
           have c19b0 : decide (x9_1 < (l0.length : Int)) = true := decide_eq_true c19
           clear c19
           obtain ⟨y701, hy701⟩ : ∃ y_ : List Int, y_ = (([(97 + (Int.tmod (rd l0 x9_1) 26)) % 256] : List Int)) := ⟨_, rfl⟩
           replace H : (if 1 + (strOfNums y701).size ≤ 9223372036854775807 then (if x9_1 ≤ (l0.length : Int) then ((wicketmanlaw08_Line.f kj14 (l0.drop (x9_1 : Int).toNat)).bind fun t705 => ((wicketmanref07_Escape.f kj14 t705).bind fun t706 => (if x700001_1.length < 4398046511104 then (wicketmanlaw10_Response.l0 kj14 l0 a2 (wrap64 (x9_1 + 1)) (rd t695 (ji6)) (x700001_1 ++ [(⟨(⟨#[88]⟩ : ByteArray) ++ (strOfNums y701), t706⟩ : S43)]) l1) else (none)))) else (none)) else (none)) = some (r1, r2, r3) := by first | (rw [hy701]; with_reducible exact H) | (have H2_ := (Option.bind_some _ _).symm.trans H; rw [hy701]; with_reducible exact H2_) | (have H2_ := (Option.bind_some _ _).symm.trans H; with_reducible exact H2_) | with_reducible exact H | (rw [hy701]; exact H) | exact H
           have Ny701 := Aside0.mk hy701
           clear hy701
           by_cases c20 : 1 + (strOfNums y701).size ≤ 9223372036854775807
           ·rw [if_pos c20] at H
            have c20b0 := eq_true c20
            have c20b1 : decide (1 + (strOfNums y701).size ≤ 9223372036854775807) = true := decide_eq_true c20
            try have c20b2 : (9223372036854775807 < 1 + (strOfNums y701).size) = False := eq_false (Nat.not_lt.2 c20)
            have c21b0 := eq_true (of_decide_eq_true (by first | (with_reducible assumption) | assumption) : 0 ≤ x9_1)
            by_cases c22 : x9_1 ≤ (l0.length : Int)
            ·rw [if_pos c22] at H
             have c22b0 := eq_true c22
             have c22b1 : decide (x9_1 ≤ (l0.length : Int)) = true := decide_eq_true c22
             clear c22
             replace H := Option.bind_eq_some_iff.mp H
             obtain ⟨t705, A230, H⟩ := H
             try dsimp only at H
             have A23 := Aside0.mk A230
             clear A230
             replace H := Option.bind_eq_some_iff.mp H
             obtain ⟨t706, A240, H⟩ := H
             try dsimp only at H
             have A24 := Aside0.mk A240
             clear A240
             by_cases c25 : x700001_1.length < 4398046511104
             ·rw [if_pos c25] at H
              have LMc25 := Aside0.mk c25
              clear c25
              obtain ⟨y707, hy707⟩ : ∃ y_ : List (S43), y_ = (x700001_1 ++ [(⟨(⟨#[88]⟩ : ByteArray) ++ (strOfNums y701), t706⟩ : S43)]) := ⟨_, rfl⟩
              replace H : (wicketmanlaw10_Response.l0 kj14 l0 a2 (wrap64 (x9_1 + 1)) (rd t695 (ji6)) y707 l1) = some (r1, r2, r3) := by first | (rw [hy707]; with_reducible exact H) | (have H2_ := (Option.bind_some _ _).symm.trans H; rw [hy707]; with_reducible exact H2_) | (have H2_ := (Option.bind_some _ _).symm.trans H; with_reducible exact H2_) | with_reducible exact H | (rw [hy707]; exact H) | exact H
              have Ny707 := Aside0.mk hy707
              clear hy707
              have H' := Aside0.mk H
              clear H
              obtain ⟨Ao26, co26, eo26⟩ := Kd.R_slice HO_700001.out
              subst eo26
              try go_wp2
              have n0_ := Aside0.mk (Kd.R_drew HO_700001.out)
              have n1_ := Aside0.mk (Kd.V_drew HO_700002.out)
              have n2_ := Aside0.mk (blk_drew BK694.out)
              have n3_ := Aside0.mk (blk_drew BK699.out)
              have n4_ := Aside0.mk (below_drew1 HB.out)
              clear HO_700001
              clear HO_700002
              clear BK694
              clear BK699
              clear HB
              have HO_700001 := n0_
              have HO_700002 := n1_
              have BK694 := n2_
              have BK699 := n3_
              have HB := n4_
              clear n0_ n1_ n2_ n3_ n4_
              have p700 : 0 ≤ (x9_1 : Int) := of_decide_eq_true (by first | (with_reducible assumption) | assumption)
              have q700 : x9_1 < (l0.length : Int) := of_decide_eq_true (by first | (with_reducible assumption) | assumption)
              obtain ⟨ad700, e700, hx700_0⟩ := Kd.at_int HR0.out x9_1 p700 q700
              have hw700_0 := hx700_0
              cases e700
              replace hx700_0 := (HB.out.cell (World.block_lt_of_cell? w _ hx700_0)).trans hx700_0
              replace p700 := eq_true p700
              replace q700 := eq_true q700
              obtain ⟨i028, hi028, _, hsz28, _⟩ := info_parts info5
              obtain ⟨A28, hcut28, hA28, hC28⟩ := print_drop_of (P := Tryd.prog) (Value.int .u8) 0 22 5 .i64 Tryd.underlying22 hi028 hsz28 (some ad700) c0 l0 x9_1 (of_decide_eq_true (by first | (with_reducible assumption) | assumption)) (of_decide_eq_true (by first | (with_reducible assumption) | assumption)) HC0.out
              have HR704 := Aside0.mk (Kd.C_of_reads (h1 := fun _ => rfl) (hA28 _ (Kd.reads_of_C HR0.out)))
              have HC704 := Aside0.mk hC28
              clear hA28 hC28 hi028 hsz28
              refine start_ (n := 21) (S := fun w' => w'.cell? ⟨gb699, 0, none⟩ = some (.int .i64 (rd t695 (ji6))) ∧ w'.cell? ⟨gb699, 1, none⟩ = some (.slice Ao26 x700001_1.length co26) ∧ w'.cell? ⟨gb699, 2, none⟩ = some (.slice A1 l1.length c1) ∧ w'.cell? (ad700.add (x9_1).toNat) = some (.int .u8 (rd l0 x9_1))) (ds := [20]) #[false, false, false, false, false, false, false, false, false, false, false, false, false, false, false, false, false, false, false, false, false] (by kernel_rfl) rfl rfl ⟨(blk_cell BK699.out 0).trans rfl, (blk_cell BK699.out 1).trans rfl, (blk_cell BK699.out 2).trans rfl, ((HB.out.cell (World.block_lt_of_cell? w _ hw700_0)).trans hw700_0)⟩ (fun hHeld => ?_); refine with_tabW wicketmanlaw10_Response.tab6 wicketmanlaw10_Response.bits6 (fun HT_ HW_ => ?_)
              generalize wc.drew = w27 at HO_700001 HO_700002 BK694 BK699 HB HR704 hx700_0 hHeld ⊢
              refine pure_ (i := 0) (N := some 31) (v := ?_) (a' := ?_) #[true, false, false, false, false, false, false, false, false, false, false, false, false, false, false, false, false, false, false, false, false] rfl rfl (any_of HT_.out (by kernel_rfl)) (fun _ _ _ h => h) (Or.inl ⟨by rfl, ?_⟩) ?_ ?_
              rotate_left
              ·intro w'
               go_simp
               with_reducible rfl
              rotate_left
              ·simp only [Act.put, List.setIfInBounds_toArray, List.set_cons_zero, List.set_cons_succ, i64_w, i32_w]
               rfl
              refine pure_ (i := 2) (N := some 33) (v := ?_) (a' := ?_) #[true, false, true, false, false, false, false, false, false, false, false, false, false, false, false, false, false, false, false, false, false] rfl rfl (any_of HT_.out (by kernel_rfl)) (fun _ _ _ h => h) (Or.inl ⟨by rfl, ?_⟩) ?_ ?_
              rotate_left
              ·intro w'
               go_simp
               with_reducible rfl
              rotate_left
              ·simp only [Act.put, List.setIfInBounds_toArray, List.set_cons_zero, List.set_cons_succ, i64_w, i32_w]
               rfl
              refine pure_ (i := 3) (N := some 34) (v := ?_) (a' := ?_) #[true, false, true, true, false, false, false, false, false, false, false, false, false, false, false, false, false, false, false, false, false] rfl rfl (any_of HT_.out (by kernel_rfl)) (fun _ _ _ h => h) (Or.inl ⟨by rfl, ?_⟩) ?_ ?_
              rotate_left
              ·intro w'
               go_simp
               with_reducible rfl
              rotate_left
              ·simp only [Act.put, List.setIfInBounds_toArray, List.set_cons_zero, List.set_cons_succ, i64_w, i32_w]
               rfl
              refine pure_ (i := 4) (N := some 35) (v := ?_) (a' := ?_) #[true, false, true, true, true, false, false, false, false, false, false, false, false, false, false, false, false, false, false, false, false] rfl rfl (any_of HT_.out (by kernel_rfl)) (fun _ _ _ h => h) (Or.inl ⟨by rfl, ?_⟩) ?_ ?_
              rotate_left
              ·intro w'
               go_simp
               with_reducible rfl
              rotate_left
              ·simp only [Act.put, List.setIfInBounds_toArray, List.set_cons_zero, List.set_cons_succ, i64_w, i32_w]
               rfl
              refine pure_ (i := 11) (N := some 42) (v := ?_) (a' := ?_) #[true, false, true, true, true, false, false, false, false, false, false, true, false, false, false, false, false, false, false, false, false] rfl rfl (any_of HT_.out (by kernel_rfl)) (fun _ _ _ h => h) (Or.inl ⟨by rfl, ?_⟩) ?_ ?_
              rotate_left
              ·intro w'
               go_simp
               with_reducible rfl
              rotate_left
              ·simp only [Act.put, List.setIfInBounds_toArray, List.set_cons_zero, List.set_cons_succ, i64_w, i32_w]
               rfl
              refine pure_ (i := 12) (N := some 43) (v := ?_) (a' := ?_) #[true, false, true, true, true, false, false, false, false, false, false, true, true, false, false, false, false, false, false, false, false] rfl rfl (any_of HT_.out (by kernel_rfl)) (fun _ _ _ h => h) (Or.inl ⟨by rfl, ?_⟩) ?_ ?_
              rotate_left
              ·intro w'
               go_simp
               with_reducible rfl
              rotate_left
              ·simp only [Act.put, List.setIfInBounds_toArray, List.set_cons_zero, List.set_cons_succ, i64_w, i32_w]
               rfl
              refine pure_ (i := 13) (N := some 44) (v := ?_) (a' := ?_) #[true, false, true, true, true, false, false, false, false, false, false, true, true, true, false, false, false, false, false, false, false] rfl rfl (any_of HT_.out (by kernel_rfl)) (fun _ _ _ h => h) (Or.inl ⟨by rfl, ?_⟩) ?_ ?_
              rotate_left
              ·intro w'
               go_simp
               with_reducible rfl
              rotate_left
              ·simp only [Act.put, List.setIfInBounds_toArray, List.set_cons_zero, List.set_cons_succ, i64_w, i32_w]
               rfl
              refine take_ (i := 1) (N := some 32) (v := ?_) (a' := ?_) #[true, true, true, true, true, false, false, false, false, false, false, true, true, true, false, false, false, false, false, false, false] rfl rfl (take_ofW HT_.out HW_.out (by kernel_rfl)) (fun _ _ _ h => h) (Or.inl ⟨by rfl, ?_⟩) hHeld ?_ ?_
              rotate_left
              ·rintro w' ⟨s0, s1, s2, s3⟩
               go_simp
               with_reducible rfl
              rotate_left
              ·simp only [Act.put, List.setIfInBounds_toArray, List.set_cons_zero, List.set_cons_succ, i64_w, i32_w]
               rfl
              refine take_ (i := 5) (N := some 36) (v := ?_) (a' := ?_) #[true, true, true, true, true, true, false, false, false, false, false, true, true, true, false, false, false, false, false, false, false] rfl rfl (take_ofW HT_.out HW_.out (by kernel_rfl)) (fun _ _ _ h => h) (Or.inl ⟨by rfl, ?_⟩) hHeld ?_ ?_
              rotate_left
              ·rintro w' ⟨s0, s1, s2, s3⟩
               go_simp
               with_reducible rfl
              rotate_left
              ·simp only [Act.put, List.setIfInBounds_toArray, List.set_cons_zero, List.set_cons_succ, i64_w, i32_w]
               rfl
              refine pure_ (i := 6) (N := some 37) (v := ?_) (a' := ?_) #[true, true, true, true, true, true, true, false, false, false, false, true, true, true, false, false, false, false, false, false, false] rfl rfl (any_of HT_.out (by kernel_rfl)) (fun _ _ _ h => h) (Or.inl ⟨by rfl, ?_⟩) ?_ ?_
              rotate_left
              ·intro w'
               go_simp
               with_reducible rfl
              rotate_left
              ·simp only [Act.put, List.setIfInBounds_toArray, List.set_cons_zero, List.set_cons_succ, i64_w, i32_w]
               rfl
              refine pure_ (i := 7) (N := some 38) (v := ?_) (a' := ?_) #[true, true, true, true, true, true, true, true, false, false, false, true, true, true, false, false, false, false, false, false, false] rfl rfl (any_of HT_.out (by kernel_rfl)) (fun _ _ _ h => h) (Or.inl ⟨by rfl, ?_⟩) ?_ ?_
              rotate_left
              ·intro w'
               go_simp
               with_reducible rfl
              rotate_left
              ·simp only [Act.put, List.setIfInBounds_toArray, List.set_cons_zero, List.set_cons_succ, i64_w, i32_w]
               rfl
              refine join_ (σ := Value) 5 #[true, true, true, true, true, true, true, true, true, true, true, true, true, true, true, true, false, false, false, false, false] (fun s_ => [(39, s_), (40, .string (strOfNums y701)), (45, .string t705), (46, .string t706), (41, .string ((⟨#[88]⟩ : ByteArray) ++ (strOfNums y701)))]) (fun s_ w' => (w'.cell? ⟨gb699, 0, none⟩ = some (.int .i64 (rd t695 (ji6))) ∧ w'.cell? ⟨gb699, 1, none⟩ = some (.slice Ao26 x700001_1.length co26) ∧ w'.cell? ⟨gb699, 2, none⟩ = some (.slice A1 l1.length c1) ∧ w'.cell? (ad700.add (x9_1).toNat) = some (.int .u8 (rd l0 x9_1))) ∧ (Kd.R (Kd.int .u8) 5 w' w.heap.size (fun k_ => (w.heap.size ≤ k_)) s_ y701) ∧ (Kd.R k43 43 w' w.heap.size (fun k_ => (w.heap.size ≤ k_)) (.slice Ao26 x700001_1.length co26) x700001_1) ∧ (Kd.V (Kd.int .u8) 5 w' w.heap.size (fun k_ => (P1_ k_ ∨ w.heap.size ≤ k_) ∧ some k_ ≠ (s_ : Value).ownBlock ∧ some k_ ≠ (.slice Ao26 x700001_1.length co26 : Value).ownBlock ∧ k_ ≠ gb694 ∧ k_ ≠ gb699) (.slice A1 l1.length c1) l1) ∧ (w'.heap[gb694]? = some (.cells #[.int .i64 0, .slice none 0 0, .slice none 0 0] 51 (0, 0))) ∧ (w'.heap[gb699]? = some (.cells #[.int .i64 (rd t695 (ji6)), .slice Ao26 x700001_1.length co26, .slice A1 l1.length c1] 51 (0, 0))) ∧ (Below w.heap.size w w')) ?_ ?_
              rotate_left
              ·intro hJ8_9_14_15
               refine join_ (σ := Value) 6 #[true, true, true, true, true, true, true, true, true, true, true, true, true, true, true, false, false, false, false, false, false] (fun s_ => [(39, s_), (40, .string (strOfNums y701)), (45, .string t705), (41, .string ((⟨#[88]⟩ : ByteArray) ++ (strOfNums y701)))]) (fun s_ w' => (w'.cell? ⟨gb699, 0, none⟩ = some (.int .i64 (rd t695 (ji6))) ∧ w'.cell? ⟨gb699, 1, none⟩ = some (.slice Ao26 x700001_1.length co26) ∧ w'.cell? ⟨gb699, 2, none⟩ = some (.slice A1 l1.length c1) ∧ w'.cell? (ad700.add (x9_1).toNat) = some (.int .u8 (rd l0 x9_1))) ∧ (Kd.R (Kd.int .u8) 5 w' w.heap.size (fun k_ => (w.heap.size ≤ k_)) s_ y701) ∧ (Kd.R k43 43 w' w.heap.size (fun k_ => (w.heap.size ≤ k_)) (.slice Ao26 x700001_1.length co26) x700001_1) ∧ (Kd.V (Kd.int .u8) 5 w' w.heap.size (fun k_ => (P1_ k_ ∨ w.heap.size ≤ k_) ∧ some k_ ≠ (s_ : Value).ownBlock ∧ some k_ ≠ (.slice Ao26 x700001_1.length co26 : Value).ownBlock ∧ k_ ≠ gb694 ∧ k_ ≠ gb699) (.slice A1 l1.length c1) l1) ∧ (w'.heap[gb694]? = some (.cells #[.int .i64 0, .slice none 0 0, .slice none 0 0] 51 (0, 0))) ∧ (w'.heap[gb699]? = some (.cells #[.int .i64 (rd t695 (ji6)), .slice Ao26 x700001_1.length co26, .slice A1 l1.length c1] 51 (0, 0))) ∧ (Below w.heap.size w w')) ?_ ?_
               rotate_left
               ·intro hJ8_9_14
                refine join_ (σ := Value) 7 #[true, true, true, true, true, true, true, true, true, false, false, true, true, true, true, true, false, false, false, false, false] (fun s_ => [(39, s_), (45, .string t705), (46, .string t706)]) (fun s_ w' => (w'.cell? ⟨gb699, 0, none⟩ = some (.int .i64 (rd t695 (ji6))) ∧ w'.cell? ⟨gb699, 1, none⟩ = some (.slice Ao26 x700001_1.length co26) ∧ w'.cell? ⟨gb699, 2, none⟩ = some (.slice A1 l1.length c1) ∧ w'.cell? (ad700.add (x9_1).toNat) = some (.int .u8 (rd l0 x9_1))) ∧ (Kd.R (Kd.int .u8) 5 w' w.heap.size (fun k_ => (w.heap.size ≤ k_)) s_ y701) ∧ (Kd.R k43 43 w' w.heap.size (fun k_ => (w.heap.size ≤ k_)) (.slice Ao26 x700001_1.length co26) x700001_1) ∧ (Kd.V (Kd.int .u8) 5 w' w.heap.size (fun k_ => (P1_ k_ ∨ w.heap.size ≤ k_) ∧ some k_ ≠ (s_ : Value).ownBlock ∧ some k_ ≠ (.slice Ao26 x700001_1.length co26 : Value).ownBlock ∧ k_ ≠ gb694 ∧ k_ ≠ gb699) (.slice A1 l1.length c1) l1) ∧ (w'.heap[gb694]? = some (.cells #[.int .i64 0, .slice none 0 0, .slice none 0 0] 51 (0, 0))) ∧ (w'.heap[gb699]? = some (.cells #[.int .i64 (rd t695 (ji6)), .slice Ao26 x700001_1.length co26, .slice A1 l1.length c1] 51 (0, 0))) ∧ (Below w.heap.size w w')) ?_ ?_
                rotate_left
                ·intro hJ8_14_15
                 refine join_ (σ := Value) 7 #[true, true, true, true, true, true, true, true, true, true, true, true, true, true, false, false, false, false, false, false, false] (fun s_ => [(39, s_), (40, .string (strOfNums y701)), (41, .string ((⟨#[88]⟩ : ByteArray) ++ (strOfNums y701)))]) (fun s_ w' => (w'.cell? ⟨gb699, 0, none⟩ = some (.int .i64 (rd t695 (ji6))) ∧ w'.cell? ⟨gb699, 1, none⟩ = some (.slice Ao26 x700001_1.length co26) ∧ w'.cell? ⟨gb699, 2, none⟩ = some (.slice A1 l1.length c1) ∧ w'.cell? (ad700.add (x9_1).toNat) = some (.int .u8 (rd l0 x9_1))) ∧ (Kd.R (Kd.int .u8) 5 w' w.heap.size (fun k_ => (w.heap.size ≤ k_)) s_ y701) ∧ (Kd.R k43 43 w' w.heap.size (fun k_ => (w.heap.size ≤ k_)) (.slice Ao26 x700001_1.length co26) x700001_1) ∧ (Kd.V (Kd.int .u8) 5 w' w.heap.size (fun k_ => (P1_ k_ ∨ w.heap.size ≤ k_) ∧ some k_ ≠ (s_ : Value).ownBlock ∧ some k_ ≠ (.slice Ao26 x700001_1.length co26 : Value).ownBlock ∧ k_ ≠ gb694 ∧ k_ ≠ gb699) (.slice A1 l1.length c1) l1) ∧ (w'.heap[gb694]? = some (.cells #[.int .i64 0, .slice none 0 0, .slice none 0 0] 51 (0, 0))) ∧ (w'.heap[gb699]? = some (.cells #[.int .i64 (rd t695 (ji6)), .slice Ao26 x700001_1.length co26, .slice A1 l1.length c1] 51 (0, 0))) ∧ (Below w.heap.size w w')) ?_ ?_
                 rotate_left
                 ·intro hJ8_9
                  refine join_ (σ := Value) 8 #[true, true, true, true, true, true, true, true, true, false, false, true, true, true, true, false, false, false, false, false, false] (fun s_ => [(39, s_), (45, .string t705)]) (fun s_ w' => (w'.cell? ⟨gb699, 0, none⟩ = some (.int .i64 (rd t695 (ji6))) ∧ w'.cell? ⟨gb699, 1, none⟩ = some (.slice Ao26 x700001_1.length co26) ∧ w'.cell? ⟨gb699, 2, none⟩ = some (.slice A1 l1.length c1) ∧ w'.cell? (ad700.add (x9_1).toNat) = some (.int .u8 (rd l0 x9_1))) ∧ (Kd.R (Kd.int .u8) 5 w' w.heap.size (fun k_ => (w.heap.size ≤ k_)) s_ y701) ∧ (Kd.R k43 43 w' w.heap.size (fun k_ => (w.heap.size ≤ k_)) (.slice Ao26 x700001_1.length co26) x700001_1) ∧ (Kd.V (Kd.int .u8) 5 w' w.heap.size (fun k_ => (P1_ k_ ∨ w.heap.size ≤ k_) ∧ some k_ ≠ (s_ : Value).ownBlock ∧ some k_ ≠ (.slice Ao26 x700001_1.length co26 : Value).ownBlock ∧ k_ ≠ gb694 ∧ k_ ≠ gb699) (.slice A1 l1.length c1) l1) ∧ (w'.heap[gb694]? = some (.cells #[.int .i64 0, .slice none 0 0, .slice none 0 0] 51 (0, 0))) ∧ (w'.heap[gb699]? = some (.cells #[.int .i64 (rd t695 (ji6)), .slice Ao26 x700001_1.length co26, .slice A1 l1.length c1] 51 (0, 0))) ∧ (Below w.heap.size w w')) ?_ ?_
                  rotate_left
                  ·intro hJ8_14
                   refine join_ (σ := Unit) 8 #[true, true, true, true, true, true, true, true, false, false, false, true, true, true, true, true, false, false, false, false, false] (fun s_ => [(45, .string t705), (46, .string t706)]) (fun s_ w' => (w'.cell? ⟨gb699, 0, none⟩ = some (.int .i64 (rd t695 (ji6))) ∧ w'.cell? ⟨gb699, 1, none⟩ = some (.slice Ao26 x700001_1.length co26) ∧ w'.cell? ⟨gb699, 2, none⟩ = some (.slice A1 l1.length c1) ∧ w'.cell? (ad700.add (x9_1).toNat) = some (.int .u8 (rd l0 x9_1))) ∧ (Kd.R k43 43 w' w.heap.size (fun k_ => (w.heap.size ≤ k_)) (.slice Ao26 x700001_1.length co26) x700001_1) ∧ (Kd.V (Kd.int .u8) 5 w' w.heap.size (fun k_ => (P1_ k_ ∨ w.heap.size ≤ k_) ∧ some k_ ≠ (.slice Ao26 x700001_1.length co26 : Value).ownBlock ∧ k_ ≠ gb694 ∧ k_ ≠ gb699) (.slice A1 l1.length c1) l1) ∧ (w'.heap[gb694]? = some (.cells #[.int .i64 0, .slice none 0 0, .slice none 0 0] 51 (0, 0))) ∧ (w'.heap[gb699]? = some (.cells #[.int .i64 (rd t695 (ji6)), .slice Ao26 x700001_1.length co26, .slice A1 l1.length c1] 51 (0, 0))) ∧ (Below w.heap.size w w')) ?_ ?_
                   rotate_left
                   ·intro hJ14_15
                    refine join_ (σ := Value) 9 #[true, true, true, true, true, true, true, true, true, false, false, true, true, true, false, false, false, false, false, false, false] (fun s_ => [(39, s_)]) (fun s_ w' => (w'.cell? ⟨gb699, 0, none⟩ = some (.int .i64 (rd t695 (ji6))) ∧ w'.cell? ⟨gb699, 1, none⟩ = some (.slice Ao26 x700001_1.length co26) ∧ w'.cell? ⟨gb699, 2, none⟩ = some (.slice A1 l1.length c1) ∧ w'.cell? (ad700.add (x9_1).toNat) = some (.int .u8 (rd l0 x9_1))) ∧ (Kd.R (Kd.int .u8) 5 w' w.heap.size (fun k_ => (w.heap.size ≤ k_)) s_ y701) ∧ (Kd.R k43 43 w' w.heap.size (fun k_ => (w.heap.size ≤ k_)) (.slice Ao26 x700001_1.length co26) x700001_1) ∧ (Kd.V (Kd.int .u8) 5 w' w.heap.size (fun k_ => (P1_ k_ ∨ w.heap.size ≤ k_) ∧ some k_ ≠ (s_ : Value).ownBlock ∧ some k_ ≠ (.slice Ao26 x700001_1.length co26 : Value).ownBlock ∧ k_ ≠ gb694 ∧ k_ ≠ gb699) (.slice A1 l1.length c1) l1) ∧ (w'.heap[gb694]? = some (.cells #[.int .i64 0, .slice none 0 0, .slice none 0 0] 51 (0, 0))) ∧ (w'.heap[gb699]? = some (.cells #[.int .i64 (rd t695 (ji6)), .slice Ao26 x700001_1.length co26, .slice A1 l1.length c1] 51 (0, 0))) ∧ (Below w.heap.size w w')) ?_ ?_
                    rotate_left
                    ·intro hJ8
                     refine join_ (σ := Unit) 9 #[true, true, true, true, true, true, true, true, false, false, false, true, true, true, true, false, false, false, false, false, false] (fun s_ => [(45, .string t705)]) (fun s_ w' => (w'.cell? ⟨gb699, 0, none⟩ = some (.int .i64 (rd t695 (ji6))) ∧ w'.cell? ⟨gb699, 1, none⟩ = some (.slice Ao26 x700001_1.length co26) ∧ w'.cell? ⟨gb699, 2, none⟩ = some (.slice A1 l1.length c1) ∧ w'.cell? (ad700.add (x9_1).toNat) = some (.int .u8 (rd l0 x9_1))) ∧ (Kd.R k43 43 w' w.heap.size (fun k_ => (w.heap.size ≤ k_)) (.slice Ao26 x700001_1.length co26) x700001_1) ∧ (Kd.V (Kd.int .u8) 5 w' w.heap.size (fun k_ => (P1_ k_ ∨ w.heap.size ≤ k_) ∧ some k_ ≠ (.slice Ao26 x700001_1.length co26 : Value).ownBlock ∧ k_ ≠ gb694 ∧ k_ ≠ gb699) (.slice A1 l1.length c1) l1) ∧ (w'.heap[gb694]? = some (.cells #[.int .i64 0, .slice none 0 0, .slice none 0 0] 51 (0, 0))) ∧ (w'.heap[gb699]? = some (.cells #[.int .i64 (rd t695 (ji6)), .slice Ao26 x700001_1.length co26, .slice A1 l1.length c1] 51 (0, 0))) ∧ (Below w.heap.size w w')) ?_ ?_
                     rotate_left
                     ·intro hJ14
                      refine two_ (i := 8) (j := 14) (Ni := some 39) (Nj := some 45) #[true, true, true, true, true, true, true, true, true, false, false, true, true, true, false, false, false, false, false, false, false] #[true, true, true, true, true, true, true, true, false, false, false, true, true, true, true, false, false, false, false, false, false] rfl rfl rfl rfl (two_of HT_.out (by kernel_rfl)) (by decide) (by decide) (fun K hK => ?_) (fun K hK => ?_)
                      ·skip
                       refine Kd.R_lit_step (Kd.int .u8) _ 5 ?hg (N := 39) ?hd (xs := ([(97 + (Int.tmod (rd l0 x9_1) 26)) % 256] : List Int)) (inner := [.int .u8 ((97 + (Int.tmod (rd l0 x9_1) 26)) % 256)]) (ok := fun _ => True) (okp := fun _ => True) ?hr ?hp (fun _ hk => hk) trivial (Below.refl _ _) (Nat.le_refl _) (by simp) ?_; (case hd => rfl); (case hg => rfl); (case hr => first | (go_simp; done) | (go_simp; rfl)); (case hp => exact (Reps.one (show Kd.M (Kd.int .u8) _ _ _ ((97 + (Int.tmod (rd l0 x9_1) 26)) % 256) [.int .u8 ((97 + (Int.tmod (rd l0 x9_1) 26)) % 256)] from rfl) (Reps.none _ _)))
                       intro v702 w29 ho30 hb hg_ hnew_
                       clear hg_ hnew_
                       (first | rw [← Ny701.out] at ho30 | (simp only [Int.reduceToNat] at ho30; rw [← Ny701.out] at ho30))
                       have n0_ := Aside0.mk (Kd.R_below (by (with_reducible repeat (first | apply Kd.R_alloc | apply Kd.R_drewN | apply Kd.R_drew)); exact HO_700001.out) hb)
                       have n1_ := Aside0.mk (Kd.V_elder' (by (with_reducible repeat (first | apply Kd.V_alloc | apply Kd.V_drewN | apply Kd.V_drew)); exact HO_700002.out) (Kd.R_base ho30) hb)
                       have n2_ := Aside0.mk (Kd.R_lower (Kd.R_newM (M := fun k_ => (w.heap.size ≤ k_)) ho30 (below_size (by repeat (first | (with_reducible first | apply bA | apply bN | apply bD | refine below_set ?_ GE694.out | refine below_set ?_ GE699.out) | exact HB.out))) (fun k_ h_ => h_)) (below_size (by repeat (first | (with_reducible first | apply bA | apply bN | apply bD | refine below_set ?_ GE694.out | refine below_set ?_ GE699.out) | exact HB.out))))
                       have n3_ := Aside0.mk (blk_below (g := gb694) (o := .cells #[.int .i64 0, .slice none 0 0, .slice none 0 0] 51 (0, 0)) (by (with_reducible repeat (first | refine blk_drewN ?_ _ | refine blk_drew ?_ | refine blk_alloc ?_ _)); exact BK694.out) hb)
                       have n4_ := Aside0.mk (blk_below (g := gb699) (o := .cells #[.int .i64 (rd t695 (ji6)), .slice Ao26 x700001_1.length co26, .slice A1 l1.length c1] 51 (0, 0)) (by (with_reducible repeat (first | refine blk_drewN ?_ _ | refine blk_drew ?_ | refine blk_alloc ?_ _)); exact BK699.out) hb)
                       have n5_ := Aside0.mk (below_step (by repeat (first | (with_reducible first | apply bA | apply bN | apply bD | refine below_set ?_ GE694.out | refine below_set ?_ GE699.out) | exact HB.out)) hb)
                       clear HO_700001
                       clear HO_700002
                       clear BK694
                       clear BK699
                       clear HB
                       have HO_700001 := n0_
                       have HO_700002 := n1_
                       have HO703 := n2_
                       have BK694 := n3_
                       have BK699 := n4_
                       have HB := n5_
                       clear n0_ n1_ n2_ n3_ n4_ n5_
                       clear hb ho30
                       refine hK.out _ _ ⟨(blk_cell BK699.out 0).trans rfl, (blk_cell BK699.out 1).trans rfl, (blk_cell BK699.out 2).trans rfl, ((HB.out.cell (World.block_lt_of_cell? w _ hw700_0)).trans hw700_0)⟩ (fun hHeld => ?_)
                       clear hK K
                       refine norm_ (a' := ?_) ?_ ?_
                       rotate_left
                       ·show Act.put _ (some 39) _ = _
                        simp only [Act.put, List.setIfInBounds_toArray, List.set_cons_zero, List.set_cons_succ, i64_w, i32_w]
                        rfl
                       exact norm_ (by first | (simp only [putAll, Act.put, List.setIfInBounds_toArray, List.set_cons_zero, List.set_cons_succ]; done) | (simp only [putAll, Act.put, List.setIfInBounds_toArray, List.set_cons_zero, List.set_cons_succ]; rfl)) (hJ8 (v702) _ ⟨hHeld, (by (with_reducible repeat (first | apply Kd.R_alloc | apply Kd.R_drewN | apply Kd.R_drew)); exact Kd.R_mono HO703.out (fun _ hk => hk.1)), (by (with_reducible repeat (first | apply Kd.R_alloc | apply Kd.R_drewN | apply Kd.R_drew)); exact HO_700001.out), (by (with_reducible repeat (first | apply Kd.V_alloc | apply Kd.V_drewN | apply Kd.V_drew)); exact Kd.V_mono HO_700002.out (fun _ hk => ⟨hk.1.1, ⟨hk.2, ⟨hk.1.2.1, ⟨hk.1.2.2.1, hk.1.2.2.2⟩⟩⟩⟩)), (by (with_reducible repeat (first | refine blk_drewN ?_ _ | refine blk_drew ?_ | refine blk_alloc ?_ _)); exact BK694.out), (by (with_reducible repeat (first | refine blk_drewN ?_ _ | refine blk_drew ?_ | refine blk_alloc ?_ _)); exact BK699.out), (by repeat (first | (with_reducible first | apply bA | apply bN | apply bD | refine below_set ?_ GE694.out | refine below_set ?_ GE699.out) | exact HB.out))⟩)
                      ·skip
                       refine goes_ Tryd.func22 (by kernel_rfl) rfl #[.slice A28 (l0.drop (x9_1 : Int).toNat).length (c0 - x9_1.toNat)] (by rfl) rfl rfl (by (try simp only [List.map_toArray, List.map_cons, List.map_nil]); first | done | (rw [show (l0.drop (x9_1 : Int).toNat).length = (l0.length - x9_1.toNat) from List.length_drop] <;> rfl) | rfl | (simp only [List.length_drop, List.length_take]; rfl)) ?_
                       with_reducible refine (wicketmanlaw08_Line.calls kj14 _ _ (l0.drop (x9_1 : Int).toNat) t705 _ ?side1 ?side2 A23.out).mono ?_
                       (case side1 => repeat (first | exact (Kd.C_below HR704.out HB.out) | (with_reducible refine Kd.C_alloc ?_ _) | (with_reducible refine Kd.C_drewN ?_ _) | (with_reducible refine Kd.C_drew ?_)))
                       (case side2 => exact HC704.out)
                       rintro e w29 ⟨rfl, hb⟩
                       refine ⟨_, rfl, ?_⟩
                       have n0_ := Aside0.mk (Kd.R_below (by (with_reducible repeat (first | apply Kd.R_alloc | apply Kd.R_drewN | apply Kd.R_drew)); exact HO_700001.out) hb)
                       have n1_ := Aside0.mk (Kd.V_below (by (with_reducible repeat (first | apply Kd.V_alloc | apply Kd.V_drewN | apply Kd.V_drew)); exact HO_700002.out) hb)
                       have n2_ := Aside0.mk (blk_below (g := gb694) (o := .cells #[.int .i64 0, .slice none 0 0, .slice none 0 0] 51 (0, 0)) (by (with_reducible repeat (first | refine blk_drewN ?_ _ | refine blk_drew ?_ | refine blk_alloc ?_ _)); exact BK694.out) hb)
                       have n3_ := Aside0.mk (blk_below (g := gb699) (o := .cells #[.int .i64 (rd t695 (ji6)), .slice Ao26 x700001_1.length co26, .slice A1 l1.length c1] 51 (0, 0)) (by (with_reducible repeat (first | refine blk_drewN ?_ _ | refine blk_drew ?_ | refine blk_alloc ?_ _)); exact BK699.out) hb)
                       have n4_ := Aside0.mk (below_step (by repeat (first | (with_reducible first | apply bA | apply bN | apply bD | refine below_set ?_ GE694.out | refine below_set ?_ GE699.out) | exact HB.out)) hb)
                       clear HO_700001
                       clear HO_700002
                       clear BK694
                       clear BK699
                       clear HB
                       have HO_700001 := n0_
                       have HO_700002 := n1_
                       have BK694 := n2_
                       have BK699 := n3_
                       have HB := n4_
                       clear n0_ n1_ n2_ n3_ n4_
                       (try clear hb)
                       (try clear hb2)
                       (try clear hk)
                       (try clear hi)
                       refine hK.out _ _ ⟨(blk_cell BK699.out 0).trans rfl, (blk_cell BK699.out 1).trans rfl, (blk_cell BK699.out 2).trans rfl, ((HB.out.cell (World.block_lt_of_cell? w _ hw700_0)).trans hw700_0)⟩ (fun hHeld => ?_)
                       clear hK K
                       refine norm_ (a' := ?_) ?_ ?_
                       rotate_left
                       ·show Act.put _ (some 45) _ = _
                        simp only [Act.put, List.setIfInBounds_toArray, List.set_cons_zero, List.set_cons_succ, i64_w, i32_w]
                        rfl
                       exact norm_ (by first | (simp only [putAll, Act.put, List.setIfInBounds_toArray, List.set_cons_zero, List.set_cons_succ]; done) | (simp only [putAll, Act.put, List.setIfInBounds_toArray, List.set_cons_zero, List.set_cons_succ]; rfl)) (hJ14 () _ ⟨hHeld, (by (with_reducible repeat (first | apply Kd.R_alloc | apply Kd.R_drewN | apply Kd.R_drew)); exact HO_700001.out), (by (with_reducible repeat (first | apply Kd.V_alloc | apply Kd.V_drewN | apply Kd.V_drew)); exact HO_700002.out), (by (with_reducible repeat (first | refine blk_drewN ?_ _ | refine blk_drew ?_ | refine blk_alloc ?_ _)); exact BK694.out), (by (with_reducible repeat (first | refine blk_drewN ?_ _ | refine blk_drew ?_ | refine blk_alloc ?_ _)); exact BK699.out), (by repeat (first | (with_reducible first | apply bA | apply bN | apply bD | refine below_set ?_ GE694.out | refine below_set ?_ GE699.out) | exact HB.out))⟩)
                     ·skip
                      rintro _ w30 ⟨hS_, h0_, h1_, h2_, h3_, h4_⟩
                      have n0_ : Aside0 (Kd.R k43 43 w30 w.heap.size (fun k_ => (w.heap.size ≤ k_)) (.slice Ao26 x700001_1.length co26) x700001_1) := ⟨h0_⟩
                      have n1_ : Aside0 (Kd.V (Kd.int .u8) 5 w30 w.heap.size (fun k_ => (P1_ k_ ∨ w.heap.size ≤ k_) ∧ some k_ ≠ (.slice Ao26 x700001_1.length co26 : Value).ownBlock ∧ k_ ≠ gb694 ∧ k_ ≠ gb699) (.slice A1 l1.length c1) l1) := ⟨h1_⟩
                      have n2_ : Aside0 (w30.heap[gb694]? = some (.cells #[.int .i64 0, .slice none 0 0, .slice none 0 0] 51 (0, 0))) := ⟨h2_⟩
                      have n3_ : Aside0 (w30.heap[gb699]? = some (.cells #[.int .i64 (rd t695 (ji6)), .slice Ao26 x700001_1.length co26, .slice A1 l1.length c1] 51 (0, 0))) := ⟨h3_⟩
                      have n4_ : Aside0 (Below w.heap.size w w30) := ⟨h4_⟩
                      clear HO_700001
                      clear HO_700002
                      clear BK694
                      clear BK699
                      clear HB
                      clear h0_ h1_ h2_ h3_ h4_
                      have HO_700001 := n0_
                      have HO_700002 := n1_
                      have BK694 := n2_
                      have BK699 := n3_
                      have HB := n4_
                      clear n0_ n1_ n2_ n3_ n4_
                      have hHeld : w30.cell? ⟨gb699, 0, none⟩ = some (.int .i64 (rd t695 (ji6))) ∧ w30.cell? ⟨gb699, 1, none⟩ = some (.slice Ao26 x700001_1.length co26) ∧ w30.cell? ⟨gb699, 2, none⟩ = some (.slice A1 l1.length c1) ∧ w30.cell? (ad700.add (x9_1).toNat) = some (.int .u8 (rd l0 x9_1)) := hS_
                      refine norm_ (a' := ?_) ?_ ?_
                      rotate_left
                      ·simp only [putAll, Act.put, List.setIfInBounds_toArray, List.set_cons_zero, List.set_cons_succ]
                       rfl
                      refine two_ (i := 8) (j := 15) (Ni := some 39) (Nj := some 46) #[true, true, true, true, true, true, true, true, true, false, false, true, true, true, true, false, false, false, false, false, false] #[true, true, true, true, true, true, true, true, false, false, false, true, true, true, true, true, false, false, false, false, false] rfl rfl rfl rfl (two_of HT_.out (by kernel_rfl)) (by decide) (by decide) (fun K hK => ?_) (fun K hK => ?_)
                      ·skip
                       refine Kd.R_lit_step (Kd.int .u8) _ 5 ?hg (N := 39) ?hd (xs := ([(97 + (Int.tmod (rd l0 x9_1) 26)) % 256] : List Int)) (inner := [.int .u8 ((97 + (Int.tmod (rd l0 x9_1) 26)) % 256)]) (ok := fun _ => True) (okp := fun _ => True) ?hr ?hp (fun _ hk => hk) trivial (Below.refl _ _) (Nat.le_refl _) (by simp) ?_; (case hd => rfl); (case hg => rfl); (case hr => first | (go_simp; done) | (go_simp; rfl)); (case hp => exact (Reps.one (show Kd.M (Kd.int .u8) _ _ _ ((97 + (Int.tmod (rd l0 x9_1) 26)) % 256) [.int .u8 ((97 + (Int.tmod (rd l0 x9_1) 26)) % 256)] from rfl) (Reps.none _ _)))
                       intro v702 w31 ho32 hb hg_ hnew_
                       clear hg_ hnew_
                       (first | rw [← Ny701.out] at ho32 | (simp only [Int.reduceToNat] at ho32; rw [← Ny701.out] at ho32))
                       have n0_ := Aside0.mk (Kd.R_below (by (with_reducible repeat (first | apply Kd.R_alloc | apply Kd.R_drewN | apply Kd.R_drew)); exact HO_700001.out) hb)
                       have n1_ := Aside0.mk (Kd.V_elder' (by (with_reducible repeat (first | apply Kd.V_alloc | apply Kd.V_drewN | apply Kd.V_drew)); exact HO_700002.out) (Kd.R_base ho32) hb)
                       have n2_ := Aside0.mk (Kd.R_lower (Kd.R_newM (M := fun k_ => (w.heap.size ≤ k_)) ho32 (below_size (by repeat (first | (with_reducible first | apply bA | apply bN | apply bD | refine below_set ?_ GE694.out | refine below_set ?_ GE699.out) | exact HB.out))) (fun k_ h_ => h_)) (below_size (by repeat (first | (with_reducible first | apply bA | apply bN | apply bD | refine below_set ?_ GE694.out | refine below_set ?_ GE699.out) | exact HB.out))))
                       have n3_ := Aside0.mk (blk_below (g := gb694) (o := .cells #[.int .i64 0, .slice none 0 0, .slice none 0 0] 51 (0, 0)) (by (with_reducible repeat (first | refine blk_drewN ?_ _ | refine blk_drew ?_ | refine blk_alloc ?_ _)); exact BK694.out) hb)
                       have n4_ := Aside0.mk (blk_below (g := gb699) (o := .cells #[.int .i64 (rd t695 (ji6)), .slice Ao26 x700001_1.length co26, .slice A1 l1.length c1] 51 (0, 0)) (by (with_reducible repeat (first | refine blk_drewN ?_ _ | refine blk_drew ?_ | refine blk_alloc ?_ _)); exact BK699.out) hb)
                       have n5_ := Aside0.mk (below_step (by repeat (first | (with_reducible first | apply bA | apply bN | apply bD | refine below_set ?_ GE694.out | refine below_set ?_ GE699.out) | exact HB.out)) hb)
                       clear HO_700001
                       clear HO_700002
                       clear BK694
                       clear BK699
                       clear HB
                       have HO_700001 := n0_
                       have HO_700002 := n1_
                       have HO703 := n2_
                       have BK694 := n3_
                       have BK699 := n4_
                       have HB := n5_
                       clear n0_ n1_ n2_ n3_ n4_ n5_
                       clear hb ho32
                       refine hK.out _ _ ⟨(blk_cell BK699.out 0).trans rfl, (blk_cell BK699.out 1).trans rfl, (blk_cell BK699.out 2).trans rfl, ((HB.out.cell (World.block_lt_of_cell? w _ hw700_0)).trans hw700_0)⟩ (fun hHeld => ?_)
                       clear hK K
                       refine norm_ (a' := ?_) ?_ ?_
                       rotate_left
                       ·show Act.put _ (some 39) _ = _
                        simp only [Act.put, List.setIfInBounds_toArray, List.set_cons_zero, List.set_cons_succ, i64_w, i32_w]
                        rfl
                       exact norm_ (by first | (simp only [putAll, Act.put, List.setIfInBounds_toArray, List.set_cons_zero, List.set_cons_succ]; done) | (simp only [putAll, Act.put, List.setIfInBounds_toArray, List.set_cons_zero, List.set_cons_succ]; rfl)) (hJ8_14 (v702) _ ⟨hHeld, (by (with_reducible repeat (first | apply Kd.R_alloc | apply Kd.R_drewN | apply Kd.R_drew)); exact Kd.R_mono HO703.out (fun _ hk => hk.1)), (by (with_reducible repeat (first | apply Kd.R_alloc | apply Kd.R_drewN | apply Kd.R_drew)); exact HO_700001.out), (by (with_reducible repeat (first | apply Kd.V_alloc | apply Kd.V_drewN | apply Kd.V_drew)); exact Kd.V_mono HO_700002.out (fun _ hk => ⟨hk.1.1, ⟨hk.2, ⟨hk.1.2.1, ⟨hk.1.2.2.1, hk.1.2.2.2⟩⟩⟩⟩)), (by (with_reducible repeat (first | refine blk_drewN ?_ _ | refine blk_drew ?_ | refine blk_alloc ?_ _)); exact BK694.out), (by (with_reducible repeat (first | refine blk_drewN ?_ _ | refine blk_drew ?_ | refine blk_alloc ?_ _)); exact BK699.out), (by repeat (first | (with_reducible first | apply bA | apply bN | apply bD | refine below_set ?_ GE694.out | refine below_set ?_ GE699.out) | exact HB.out))⟩)
                      ·skip
                       refine goes_ Tryd.func21 (by kernel_rfl) rfl #[.string t705] (by rfl) rfl rfl (by (try simp only [List.map_toArray, List.map_cons, List.map_nil]); first | done | rfl | (simp only [List.length_drop, List.length_take]; rfl)) ?_
                       with_reducible refine (wicketmanref07_Escape.calls kj14 t705 t706 _ A24.out).mono ?_
                       rintro e w' ⟨rfl, ⟨nd, rfl⟩⟩
                       refine ⟨_, rfl, ?_⟩
                       refine hK.out _ _ ⟨(blk_cell BK699.out 0).trans rfl, (blk_cell BK699.out 1).trans rfl, (blk_cell BK699.out 2).trans rfl, ((HB.out.cell (World.block_lt_of_cell? w _ hw700_0)).trans hw700_0)⟩ (fun hHeld => ?_)
                       clear hK K
                       refine norm_ (a' := ?_) ?_ ?_
                       rotate_left
                       ·show Act.put _ (some 46) _ = _
                        simp only [Act.put, List.setIfInBounds_toArray, List.set_cons_zero, List.set_cons_succ, i64_w, i32_w]
                        rfl
                       exact norm_ (by first | (simp only [putAll, Act.put, List.setIfInBounds_toArray, List.set_cons_zero, List.set_cons_succ]; done) | (simp only [putAll, Act.put, List.setIfInBounds_toArray, List.set_cons_zero, List.set_cons_succ]; rfl)) (hJ14_15 () _ ⟨hHeld, (by (with_reducible repeat (first | apply Kd.R_alloc | apply Kd.R_drewN | apply Kd.R_drew)); exact HO_700001.out), (by (with_reducible repeat (first | apply Kd.V_alloc | apply Kd.V_drewN | apply Kd.V_drew)); exact HO_700002.out), (by (with_reducible repeat (first | refine blk_drewN ?_ _ | refine blk_drew ?_ | refine blk_alloc ?_ _)); exact BK694.out), (by (with_reducible repeat (first | refine blk_drewN ?_ _ | refine blk_drew ?_ | refine blk_alloc ?_ _)); exact BK699.out), (by repeat (first | (with_reducible first | apply bA | apply bN | apply bD | refine below_set ?_ GE694.out | refine below_set ?_ GE699.out) | exact HB.out))⟩)
                    ·skip
                     rintro v702 w31 ⟨hS_, h0_, h1_, h2_, h3_, h4_, h5_⟩
                     have n0_ : Aside0 (Kd.R (Kd.int .u8) 5 w31 w.heap.size (fun k_ => (w.heap.size ≤ k_)) v702 y701) := ⟨h0_⟩
                     have n1_ : Aside0 (Kd.R k43 43 w31 w.heap.size (fun k_ => (w.heap.size ≤ k_)) (.slice Ao26 x700001_1.length co26) x700001_1) := ⟨h1_⟩
                     have n2_ : Aside0 (Kd.V (Kd.int .u8) 5 w31 w.heap.size (fun k_ => (P1_ k_ ∨ w.heap.size ≤ k_) ∧ some k_ ≠ (v702 : Value).ownBlock ∧ some k_ ≠ (.slice Ao26 x700001_1.length co26 : Value).ownBlock ∧ k_ ≠ gb694 ∧ k_ ≠ gb699) (.slice A1 l1.length c1) l1) := ⟨h2_⟩
                     have n3_ : Aside0 (w31.heap[gb694]? = some (.cells #[.int .i64 0, .slice none 0 0, .slice none 0 0] 51 (0, 0))) := ⟨h3_⟩
                     have n4_ : Aside0 (w31.heap[gb699]? = some (.cells #[.int .i64 (rd t695 (ji6)), .slice Ao26 x700001_1.length co26, .slice A1 l1.length c1] 51 (0, 0))) := ⟨h4_⟩
                     have n5_ : Aside0 (Below w.heap.size w w31) := ⟨h5_⟩
                     clear HO_700001
                     clear HO_700002
                     clear BK694
                     clear BK699
                     clear HB
                     clear h0_ h1_ h2_ h3_ h4_ h5_
                     have HO703 := n0_
                     have HO_700001 := n1_
                     have HO_700002 := n2_
                     have BK694 := n3_
                     have BK699 := n4_
                     have HB := n5_
                     clear n0_ n1_ n2_ n3_ n4_ n5_
                     have hHeld : w31.cell? ⟨gb699, 0, none⟩ = some (.int .i64 (rd t695 (ji6))) ∧ w31.cell? ⟨gb699, 1, none⟩ = some (.slice Ao26 x700001_1.length co26) ∧ w31.cell? ⟨gb699, 2, none⟩ = some (.slice A1 l1.length c1) ∧ w31.cell? (ad700.add (x9_1).toNat) = some (.int .u8 (rd l0 x9_1)) := hS_
                     refine norm_ (a' := ?_) ?_ ?_
                     rotate_left
                     ·simp only [putAll, Act.put, List.setIfInBounds_toArray, List.set_cons_zero, List.set_cons_succ]
                      rfl
                     refine two_ (i := 9) (j := 14) (Ni := some 40) (Nj := some 45) #[true, true, true, true, true, true, true, true, true, true, false, true, true, true, false, false, false, false, false, false, false] #[true, true, true, true, true, true, true, true, true, false, false, true, true, true, true, false, false, false, false, false, false] rfl rfl rfl rfl (two_of HT_.out (by kernel_rfl)) (by decide) (by decide) (fun K hK => ?_) (fun K hK => ?_)
                     ·skip
                      (first | (have hcv32 := own_string (P := Tryd.prog) Tryd.underlying22 Tryd.underlying5 Tryd.underlying9 (Kd.own_of_R HO703.out)) | (have hcv32 := V_string25 (P := Tryd.prog) Tryd.underlying22 Tryd.underlying5 Tryd.underlying9 HO703.out))
                      refine value_ (w1 := ?_) (v := ?_) (by rfl) rfl ?_ ?_
                      rotate_left 2
                      ·go_simp
                       constructor
                       ·rfl
                       ·rfl
                      clear hcv32
                      refine hK.out _ _ ⟨(blk_cell BK699.out 0).trans rfl, (blk_cell BK699.out 1).trans rfl, (blk_cell BK699.out 2).trans rfl, ((HB.out.cell (World.block_lt_of_cell? w _ hw700_0)).trans hw700_0)⟩ (fun hHeld => ?_)
                      clear hK K
                      refine norm_ (a' := ?_) ?_ ?_
                      rotate_left
                      ·show Act.put _ (some 40) _ = _
                       simp only [Act.put, List.setIfInBounds_toArray, List.set_cons_zero, List.set_cons_succ, i64_w, i32_w]
                       rfl
                      refine pure_ (i := 10) (N := some 41) (v := ?_) (a' := ?_) #[true, true, true, true, true, true, true, true, true, true, true, true, true, true, false, false, false, false, false, false, false] rfl rfl (any_of HT_.out (by kernel_rfl)) (fun _ _ _ h => h) (Or.inl ⟨by rfl, ?_⟩) ?_ ?_
                      rotate_left
                      ·intro w'
                       go_simp
                       with_reducible rfl
                      rotate_left
                      ·simp only [Act.put, List.setIfInBounds_toArray, List.set_cons_zero, List.set_cons_succ, i64_w, i32_w]
                       rfl
                      exact norm_ (by first | (simp only [putAll, Act.put, List.setIfInBounds_toArray, List.set_cons_zero, List.set_cons_succ]; done) | (simp only [putAll, Act.put, List.setIfInBounds_toArray, List.set_cons_zero, List.set_cons_succ]; rfl)) (hJ8_9 (v702) _ ⟨hHeld, (by (with_reducible repeat (first | apply Kd.R_alloc | apply Kd.R_drewN | apply Kd.R_drew)); exact HO703.out), (by (with_reducible repeat (first | apply Kd.R_alloc | apply Kd.R_drewN | apply Kd.R_drew)); exact HO_700001.out), (by (with_reducible repeat (first | apply Kd.V_alloc | apply Kd.V_drewN | apply Kd.V_drew)); exact HO_700002.out), (by (with_reducible repeat (first | refine blk_drewN ?_ _ | refine blk_drew ?_ | refine blk_alloc ?_ _)); exact BK694.out), (by (with_reducible repeat (first | refine blk_drewN ?_ _ | refine blk_drew ?_ | refine blk_alloc ?_ _)); exact BK699.out), (by repeat (first | (with_reducible first | apply bA | apply bN | apply bD | refine below_set ?_ GE694.out | refine below_set ?_ GE699.out) | exact HB.out))⟩)
                     ·skip
                      refine goes_ Tryd.func22 (by kernel_rfl) rfl #[.slice A28 (l0.drop (x9_1 : Int).toNat).length (c0 - x9_1.toNat)] (by rfl) rfl rfl (by (try simp only [List.map_toArray, List.map_cons, List.map_nil]); first | done | (rw [show (l0.drop (x9_1 : Int).toNat).length = (l0.length - x9_1.toNat) from List.length_drop] <;> rfl) | rfl | (simp only [List.length_drop, List.length_take]; rfl)) ?_
                      with_reducible refine (wicketmanlaw08_Line.calls kj14 _ _ (l0.drop (x9_1 : Int).toNat) t705 _ ?side1 ?side2 A23.out).mono ?_
                      (case side1 => repeat (first | exact (Kd.C_below HR704.out HB.out) | (with_reducible refine Kd.C_alloc ?_ _) | (with_reducible refine Kd.C_drewN ?_ _) | (with_reducible refine Kd.C_drew ?_)))
                      (case side2 => exact HC704.out)
                      rintro e w32 ⟨rfl, hb⟩
                      refine ⟨_, rfl, ?_⟩
                      have n0_ := Aside0.mk (Kd.R_below (by (with_reducible repeat (first | apply Kd.R_alloc | apply Kd.R_drewN | apply Kd.R_drew)); exact HO_700001.out) hb)
                      have n1_ := Aside0.mk (Kd.V_below (by (with_reducible repeat (first | apply Kd.V_alloc | apply Kd.V_drewN | apply Kd.V_drew)); exact HO_700002.out) hb)
                      have n2_ := Aside0.mk (Kd.R_below (by (with_reducible repeat (first | apply Kd.R_alloc | apply Kd.R_drewN | apply Kd.R_drew)); exact HO703.out) hb)
                      have n3_ := Aside0.mk (blk_below (g := gb694) (o := .cells #[.int .i64 0, .slice none 0 0, .slice none 0 0] 51 (0, 0)) (by (with_reducible repeat (first | refine blk_drewN ?_ _ | refine blk_drew ?_ | refine blk_alloc ?_ _)); exact BK694.out) hb)
                      have n4_ := Aside0.mk (blk_below (g := gb699) (o := .cells #[.int .i64 (rd t695 (ji6)), .slice Ao26 x700001_1.length co26, .slice A1 l1.length c1] 51 (0, 0)) (by (with_reducible repeat (first | refine blk_drewN ?_ _ | refine blk_drew ?_ | refine blk_alloc ?_ _)); exact BK699.out) hb)
                      have n5_ := Aside0.mk (below_step (by repeat (first | (with_reducible first | apply bA | apply bN | apply bD | refine below_set ?_ GE694.out | refine below_set ?_ GE699.out) | exact HB.out)) hb)
                      clear HO_700001
                      clear HO_700002
                      clear HO703
                      clear BK694
                      clear BK699
                      clear HB
                      have HO_700001 := n0_
                      have HO_700002 := n1_
                      have HO703 := n2_
                      have BK694 := n3_
                      have BK699 := n4_
                      have HB := n5_
                      clear n0_ n1_ n2_ n3_ n4_ n5_
                      (try clear hb)
                      (try clear hb2)
                      (try clear hk)
                      (try clear hi)
                      refine hK.out _ _ ⟨(blk_cell BK699.out 0).trans rfl, (blk_cell BK699.out 1).trans rfl, (blk_cell BK699.out 2).trans rfl, ((HB.out.cell (World.block_lt_of_cell? w _ hw700_0)).trans hw700_0)⟩ (fun hHeld => ?_)
                      clear hK K
                      refine norm_ (a' := ?_) ?_ ?_
                      rotate_left
                      ·show Act.put _ (some 45) _ = _
                       simp only [Act.put, List.setIfInBounds_toArray, List.set_cons_zero, List.set_cons_succ, i64_w, i32_w]
                       rfl
                      exact norm_ (by first | (simp only [putAll, Act.put, List.setIfInBounds_toArray, List.set_cons_zero, List.set_cons_succ]; done) | (simp only [putAll, Act.put, List.setIfInBounds_toArray, List.set_cons_zero, List.set_cons_succ]; rfl)) (hJ8_14 (v702) _ ⟨hHeld, (by (with_reducible repeat (first | apply Kd.R_alloc | apply Kd.R_drewN | apply Kd.R_drew)); exact HO703.out), (by (with_reducible repeat (first | apply Kd.R_alloc | apply Kd.R_drewN | apply Kd.R_drew)); exact HO_700001.out), (by (with_reducible repeat (first | apply Kd.V_alloc | apply Kd.V_drewN | apply Kd.V_drew)); exact HO_700002.out), (by (with_reducible repeat (first | refine blk_drewN ?_ _ | refine blk_drew ?_ | refine blk_alloc ?_ _)); exact BK694.out), (by (with_reducible repeat (first | refine blk_drewN ?_ _ | refine blk_drew ?_ | refine blk_alloc ?_ _)); exact BK699.out), (by repeat (first | (with_reducible first | apply bA | apply bN | apply bD | refine below_set ?_ GE694.out | refine below_set ?_ GE699.out) | exact HB.out))⟩)
                   ·skip
                    rintro _ w30 ⟨hS_, h0_, h1_, h2_, h3_, h4_⟩
                    have n0_ : Aside0 (Kd.R k43 43 w30 w.heap.size (fun k_ => (w.heap.size ≤ k_)) (.slice Ao26 x700001_1.length co26) x700001_1) := ⟨h0_⟩
                    have n1_ : Aside0 (Kd.V (Kd.int .u8) 5 w30 w.heap.size (fun k_ => (P1_ k_ ∨ w.heap.size ≤ k_) ∧ some k_ ≠ (.slice Ao26 x700001_1.length co26 : Value).ownBlock ∧ k_ ≠ gb694 ∧ k_ ≠ gb699) (.slice A1 l1.length c1) l1) := ⟨h1_⟩
                    have n2_ : Aside0 (w30.heap[gb694]? = some (.cells #[.int .i64 0, .slice none 0 0, .slice none 0 0] 51 (0, 0))) := ⟨h2_⟩
                    have n3_ : Aside0 (w30.heap[gb699]? = some (.cells #[.int .i64 (rd t695 (ji6)), .slice Ao26 x700001_1.length co26, .slice A1 l1.length c1] 51 (0, 0))) := ⟨h3_⟩
                    have n4_ : Aside0 (Below w.heap.size w w30) := ⟨h4_⟩
                    clear HO_700001
                    clear HO_700002
                    clear BK694
                    clear BK699
                    clear HB
                    clear h0_ h1_ h2_ h3_ h4_
                    have HO_700001 := n0_
                    have HO_700002 := n1_
                    have BK694 := n2_
                    have BK699 := n3_
                    have HB := n4_
                    clear n0_ n1_ n2_ n3_ n4_
                    have hHeld : w30.cell? ⟨gb699, 0, none⟩ = some (.int .i64 (rd t695 (ji6))) ∧ w30.cell? ⟨gb699, 1, none⟩ = some (.slice Ao26 x700001_1.length co26) ∧ w30.cell? ⟨gb699, 2, none⟩ = some (.slice A1 l1.length c1) ∧ w30.cell? (ad700.add (x9_1).toNat) = some (.int .u8 (rd l0 x9_1)) := hS_
                    refine norm_ (a' := ?_) ?_ ?_
                    rotate_left
                    ·simp only [putAll, Act.put, List.setIfInBounds_toArray, List.set_cons_zero, List.set_cons_succ]
                     rfl
                    refine one_ (i := 8) (N := some 39) #[true, true, true, true, true, true, true, true, true, false, false, true, true, true, true, true, false, false, false, false, false] rfl rfl (one_of HT_.out (by kernel_rfl)) (by decide) (fun K hK => ?_)
                    refine Kd.R_lit_step (Kd.int .u8) _ 5 ?hg (N := 39) ?hd (xs := ([(97 + (Int.tmod (rd l0 x9_1) 26)) % 256] : List Int)) (inner := [.int .u8 ((97 + (Int.tmod (rd l0 x9_1) 26)) % 256)]) (ok := fun _ => True) (okp := fun _ => True) ?hr ?hp (fun _ hk => hk) trivial (Below.refl _ _) (Nat.le_refl _) (by simp) ?_; (case hd => rfl); (case hg => rfl); (case hr => first | (go_simp; done) | (go_simp; rfl)); (case hp => exact (Reps.one (show Kd.M (Kd.int .u8) _ _ _ ((97 + (Int.tmod (rd l0 x9_1) 26)) % 256) [.int .u8 ((97 + (Int.tmod (rd l0 x9_1) 26)) % 256)] from rfl) (Reps.none _ _)))
                    intro v702 w31 ho32 hb hg_ hnew_
                    clear hg_ hnew_
                    (first | rw [← Ny701.out] at ho32 | (simp only [Int.reduceToNat] at ho32; rw [← Ny701.out] at ho32))
                    have n0_ := Aside0.mk (Kd.R_below (by (with_reducible repeat (first | apply Kd.R_alloc | apply Kd.R_drewN | apply Kd.R_drew)); exact HO_700001.out) hb)
                    have n1_ := Aside0.mk (Kd.V_elder' (by (with_reducible repeat (first | apply Kd.V_alloc | apply Kd.V_drewN | apply Kd.V_drew)); exact HO_700002.out) (Kd.R_base ho32) hb)
                    have n2_ := Aside0.mk (Kd.R_lower (Kd.R_newM (M := fun k_ => (w.heap.size ≤ k_)) ho32 (below_size (by repeat (first | (with_reducible first | apply bA | apply bN | apply bD | refine below_set ?_ GE694.out | refine below_set ?_ GE699.out) | exact HB.out))) (fun k_ h_ => h_)) (below_size (by repeat (first | (with_reducible first | apply bA | apply bN | apply bD | refine below_set ?_ GE694.out | refine below_set ?_ GE699.out) | exact HB.out))))
                    have n3_ := Aside0.mk (blk_below (g := gb694) (o := .cells #[.int .i64 0, .slice none 0 0, .slice none 0 0] 51 (0, 0)) (by (with_reducible repeat (first | refine blk_drewN ?_ _ | refine blk_drew ?_ | refine blk_alloc ?_ _)); exact BK694.out) hb)
                    have n4_ := Aside0.mk (blk_below (g := gb699) (o := .cells #[.int .i64 (rd t695 (ji6)), .slice Ao26 x700001_1.length co26, .slice A1 l1.length c1] 51 (0, 0)) (by (with_reducible repeat (first | refine blk_drewN ?_ _ | refine blk_drew ?_ | refine blk_alloc ?_ _)); exact BK699.out) hb)
                    have n5_ := Aside0.mk (below_step (by repeat (first | (with_reducible first | apply bA | apply bN | apply bD | refine below_set ?_ GE694.out | refine below_set ?_ GE699.out) | exact HB.out)) hb)
                    clear HO_700001
                    clear HO_700002
                    clear BK694
                    clear BK699
                    clear HB
                    have HO_700001 := n0_
                    have HO_700002 := n1_
                    have HO703 := n2_
                    have BK694 := n3_
                    have BK699 := n4_
                    have HB := n5_
                    clear n0_ n1_ n2_ n3_ n4_ n5_
                    clear hb ho32
                    refine hK.out _ _ ⟨(blk_cell BK699.out 0).trans rfl, (blk_cell BK699.out 1).trans rfl, (blk_cell BK699.out 2).trans rfl, ((HB.out.cell (World.block_lt_of_cell? w _ hw700_0)).trans hw700_0)⟩ (fun hHeld => ?_)
                    clear hK K
                    refine norm_ (a' := ?_) ?_ ?_
                    rotate_left
                    ·show Act.put _ (some 39) _ = _
                     simp only [Act.put, List.setIfInBounds_toArray, List.set_cons_zero, List.set_cons_succ, i64_w, i32_w]
                     rfl
                    exact norm_ (by first | (simp only [putAll, Act.put, List.setIfInBounds_toArray, List.set_cons_zero, List.set_cons_succ]; done) | (simp only [putAll, Act.put, List.setIfInBounds_toArray, List.set_cons_zero, List.set_cons_succ]; rfl)) (hJ8_14_15 (v702) _ ⟨hHeld, (by (with_reducible repeat (first | apply Kd.R_alloc | apply Kd.R_drewN | apply Kd.R_drew)); exact Kd.R_mono HO703.out (fun _ hk => hk.1)), (by (with_reducible repeat (first | apply Kd.R_alloc | apply Kd.R_drewN | apply Kd.R_drew)); exact HO_700001.out), (by (with_reducible repeat (first | apply Kd.V_alloc | apply Kd.V_drewN | apply Kd.V_drew)); exact Kd.V_mono HO_700002.out (fun _ hk => ⟨hk.1.1, ⟨hk.2, ⟨hk.1.2.1, ⟨hk.1.2.2.1, hk.1.2.2.2⟩⟩⟩⟩)), (by (with_reducible repeat (first | refine blk_drewN ?_ _ | refine blk_drew ?_ | refine blk_alloc ?_ _)); exact BK694.out), (by (with_reducible repeat (first | refine blk_drewN ?_ _ | refine blk_drew ?_ | refine blk_alloc ?_ _)); exact BK699.out), (by repeat (first | (with_reducible first | apply bA | apply bN | apply bD | refine below_set ?_ GE694.out | refine below_set ?_ GE699.out) | exact HB.out))⟩)
                  ·skip
                   rintro v702 w32 ⟨hS_, h0_, h1_, h2_, h3_, h4_, h5_⟩
                   have n0_ : Aside0 (Kd.R (Kd.int .u8) 5 w32 w.heap.size (fun k_ => (w.heap.size ≤ k_)) v702 y701) := ⟨h0_⟩
                   have n1_ : Aside0 (Kd.R k43 43 w32 w.heap.size (fun k_ => (w.heap.size ≤ k_)) (.slice Ao26 x700001_1.length co26) x700001_1) := ⟨h1_⟩
                   have n2_ : Aside0 (Kd.V (Kd.int .u8) 5 w32 w.heap.size (fun k_ => (P1_ k_ ∨ w.heap.size ≤ k_) ∧ some k_ ≠ (v702 : Value).ownBlock ∧ some k_ ≠ (.slice Ao26 x700001_1.length co26 : Value).ownBlock ∧ k_ ≠ gb694 ∧ k_ ≠ gb699) (.slice A1 l1.length c1) l1) := ⟨h2_⟩
                   have n3_ : Aside0 (w32.heap[gb694]? = some (.cells #[.int .i64 0, .slice none 0 0, .slice none 0 0] 51 (0, 0))) := ⟨h3_⟩
                   have n4_ : Aside0 (w32.heap[gb699]? = some (.cells #[.int .i64 (rd t695 (ji6)), .slice Ao26 x700001_1.length co26, .slice A1 l1.length c1] 51 (0, 0))) := ⟨h4_⟩
                   have n5_ : Aside0 (Below w.heap.size w w32) := ⟨h5_⟩
                   clear HO_700001
                   clear HO_700002
                   clear BK694
                   clear BK699
                   clear HB
                   clear h0_ h1_ h2_ h3_ h4_ h5_
                   have HO703 := n0_
                   have HO_700001 := n1_
                   have HO_700002 := n2_
                   have BK694 := n3_
                   have BK699 := n4_
                   have HB := n5_
                   clear n0_ n1_ n2_ n3_ n4_ n5_
                   have hHeld : w32.cell? ⟨gb699, 0, none⟩ = some (.int .i64 (rd t695 (ji6))) ∧ w32.cell? ⟨gb699, 1, none⟩ = some (.slice Ao26 x700001_1.length co26) ∧ w32.cell? ⟨gb699, 2, none⟩ = some (.slice A1 l1.length c1) ∧ w32.cell? (ad700.add (x9_1).toNat) = some (.int .u8 (rd l0 x9_1)) := hS_
                   refine norm_ (a' := ?_) ?_ ?_
                   rotate_left
                   ·simp only [putAll, Act.put, List.setIfInBounds_toArray, List.set_cons_zero, List.set_cons_succ]
                    rfl
                   refine two_ (i := 9) (j := 15) (Ni := some 40) (Nj := some 46) #[true, true, true, true, true, true, true, true, true, true, false, true, true, true, true, false, false, false, false, false, false] #[true, true, true, true, true, true, true, true, true, false, false, true, true, true, true, true, false, false, false, false, false] rfl rfl rfl rfl (two_of HT_.out (by kernel_rfl)) (by decide) (by decide) (fun K hK => ?_) (fun K hK => ?_)
                   ·skip
                    (first | (have hcv33 := own_string (P := Tryd.prog) Tryd.underlying22 Tryd.underlying5 Tryd.underlying9 (Kd.own_of_R HO703.out)) | (have hcv33 := V_string25 (P := Tryd.prog) Tryd.underlying22 Tryd.underlying5 Tryd.underlying9 HO703.out))
                    refine value_ (w1 := ?_) (v := ?_) (by rfl) rfl ?_ ?_
                    rotate_left 2
                    ·go_simp
                     constructor
                     ·rfl
                     ·rfl
                    clear hcv33
                    refine hK.out _ _ ⟨(blk_cell BK699.out 0).trans rfl, (blk_cell BK699.out 1).trans rfl, (blk_cell BK699.out 2).trans rfl, ((HB.out.cell (World.block_lt_of_cell? w _ hw700_0)).trans hw700_0)⟩ (fun hHeld => ?_)
                    clear hK K
                    refine norm_ (a' := ?_) ?_ ?_
                    rotate_left
                    ·show Act.put _ (some 40) _ = _
                     simp only [Act.put, List.setIfInBounds_toArray, List.set_cons_zero, List.set_cons_succ, i64_w, i32_w]
                     rfl
                    refine pure_ (i := 10) (N := some 41) (v := ?_) (a' := ?_) #[true, true, true, true, true, true, true, true, true, true, true, true, true, true, true, false, false, false, false, false, false] rfl rfl (any_of HT_.out (by kernel_rfl)) (fun _ _ _ h => h) (Or.inl ⟨by rfl, ?_⟩) ?_ ?_
                    rotate_left
                    ·intro w'
                     go_simp
                     with_reducible rfl
                    rotate_left
                    ·simp only [Act.put, List.setIfInBounds_toArray, List.set_cons_zero, List.set_cons_succ, i64_w, i32_w]
                     rfl
                    exact norm_ (by first | (simp only [putAll, Act.put, List.setIfInBounds_toArray, List.set_cons_zero, List.set_cons_succ]; done) | (simp only [putAll, Act.put, List.setIfInBounds_toArray, List.set_cons_zero, List.set_cons_succ]; rfl)) (hJ8_9_14 (v702) _ ⟨hHeld, (by (with_reducible repeat (first | apply Kd.R_alloc | apply Kd.R_drewN | apply Kd.R_drew)); exact HO703.out), (by (with_reducible repeat (first | apply Kd.R_alloc | apply Kd.R_drewN | apply Kd.R_drew)); exact HO_700001.out), (by (with_reducible repeat (first | apply Kd.V_alloc | apply Kd.V_drewN | apply Kd.V_drew)); exact HO_700002.out), (by (with_reducible repeat (first | refine blk_drewN ?_ _ | refine blk_drew ?_ | refine blk_alloc ?_ _)); exact BK694.out), (by (with_reducible repeat (first | refine blk_drewN ?_ _ | refine blk_drew ?_ | refine blk_alloc ?_ _)); exact BK699.out), (by repeat (first | (with_reducible first | apply bA | apply bN | apply bD | refine below_set ?_ GE694.out | refine below_set ?_ GE699.out) | exact HB.out))⟩)
                   ·skip
                    refine goes_ Tryd.func21 (by kernel_rfl) rfl #[.string t705] (by rfl) rfl rfl (by (try simp only [List.map_toArray, List.map_cons, List.map_nil]); first | done | rfl | (simp only [List.length_drop, List.length_take]; rfl)) ?_
                    with_reducible refine (wicketmanref07_Escape.calls kj14 t705 t706 _ A24.out).mono ?_
                    rintro e w' ⟨rfl, ⟨nd, rfl⟩⟩
                    refine ⟨_, rfl, ?_⟩
                    refine hK.out _ _ ⟨(blk_cell BK699.out 0).trans rfl, (blk_cell BK699.out 1).trans rfl, (blk_cell BK699.out 2).trans rfl, ((HB.out.cell (World.block_lt_of_cell? w _ hw700_0)).trans hw700_0)⟩ (fun hHeld => ?_)
                    clear hK K
                    refine norm_ (a' := ?_) ?_ ?_
                    rotate_left
                    ·show Act.put _ (some 46) _ = _
                     simp only [Act.put, List.setIfInBounds_toArray, List.set_cons_zero, List.set_cons_succ, i64_w, i32_w]
                     rfl
                    exact norm_ (by first | (simp only [putAll, Act.put, List.setIfInBounds_toArray, List.set_cons_zero, List.set_cons_succ]; done) | (simp only [putAll, Act.put, List.setIfInBounds_toArray, List.set_cons_zero, List.set_cons_succ]; rfl)) (hJ8_14_15 (v702) _ ⟨hHeld, (by (with_reducible repeat (first | apply Kd.R_alloc | apply Kd.R_drewN | apply Kd.R_drew)); exact HO703.out), (by (with_reducible repeat (first | apply Kd.R_alloc | apply Kd.R_drewN | apply Kd.R_drew)); exact HO_700001.out), (by (with_reducible repeat (first | apply Kd.V_alloc | apply Kd.V_drewN | apply Kd.V_drew)); exact HO_700002.out), (by (with_reducible repeat (first | refine blk_drewN ?_ _ | refine blk_drew ?_ | refine blk_alloc ?_ _)); exact BK694.out), (by (with_reducible repeat (first | refine blk_drewN ?_ _ | refine blk_drew ?_ | refine blk_alloc ?_ _)); exact BK699.out), (by repeat (first | (with_reducible first | apply bA | apply bN | apply bD | refine below_set ?_ GE694.out | refine below_set ?_ GE699.out) | exact HB.out))⟩)
                 ·skip
                  rintro v702 w32 ⟨hS_, h0_, h1_, h2_, h3_, h4_, h5_⟩
                  have n0_ : Aside0 (Kd.R (Kd.int .u8) 5 w32 w.heap.size (fun k_ => (w.heap.size ≤ k_)) v702 y701) := ⟨h0_⟩
                  have n1_ : Aside0 (Kd.R k43 43 w32 w.heap.size (fun k_ => (w.heap.size ≤ k_)) (.slice Ao26 x700001_1.length co26) x700001_1) := ⟨h1_⟩
                  have n2_ : Aside0 (Kd.V (Kd.int .u8) 5 w32 w.heap.size (fun k_ => (P1_ k_ ∨ w.heap.size ≤ k_) ∧ some k_ ≠ (v702 : Value).ownBlock ∧ some k_ ≠ (.slice Ao26 x700001_1.length co26 : Value).ownBlock ∧ k_ ≠ gb694 ∧ k_ ≠ gb699) (.slice A1 l1.length c1) l1) := ⟨h2_⟩
                  have n3_ : Aside0 (w32.heap[gb694]? = some (.cells #[.int .i64 0, .slice none 0 0, .slice none 0 0] 51 (0, 0))) := ⟨h3_⟩
                  have n4_ : Aside0 (w32.heap[gb699]? = some (.cells #[.int .i64 (rd t695 (ji6)), .slice Ao26 x700001_1.length co26, .slice A1 l1.length c1] 51 (0, 0))) := ⟨h4_⟩
                  have n5_ : Aside0 (Below w.heap.size w w32) := ⟨h5_⟩
                  clear HO_700001
                  clear HO_700002
                  clear BK694
                  clear BK699
                  clear HB
                  clear h0_ h1_ h2_ h3_ h4_ h5_
                  have HO703 := n0_
                  have HO_700001 := n1_
                  have HO_700002 := n2_
                  have BK694 := n3_
                  have BK699 := n4_
                  have HB := n5_
                  clear n0_ n1_ n2_ n3_ n4_ n5_
                  have hHeld : w32.cell? ⟨gb699, 0, none⟩ = some (.int .i64 (rd t695 (ji6))) ∧ w32.cell? ⟨gb699, 1, none⟩ = some (.slice Ao26 x700001_1.length co26) ∧ w32.cell? ⟨gb699, 2, none⟩ = some (.slice A1 l1.length c1) ∧ w32.cell? (ad700.add (x9_1).toNat) = some (.int .u8 (rd l0 x9_1)) := hS_
                  refine norm_ (a' := ?_) ?_ ?_
                  rotate_left
                  ·simp only [putAll, Act.put, List.setIfInBounds_toArray, List.set_cons_zero, List.set_cons_succ]
                   rfl
                  refine one_ (i := 14) (N := some 45) #[true, true, true, true, true, true, true, true, true, true, true, true, true, true, true, false, false, false, false, false, false] rfl rfl (one_of HT_.out (by kernel_rfl)) (by decide) (fun K hK => ?_)
                  refine goes_ Tryd.func22 (by kernel_rfl) rfl #[.slice A28 (l0.drop (x9_1 : Int).toNat).length (c0 - x9_1.toNat)] (by rfl) rfl rfl (by (try simp only [List.map_toArray, List.map_cons, List.map_nil]); first | done | (rw [show (l0.drop (x9_1 : Int).toNat).length = (l0.length - x9_1.toNat) from List.length_drop] <;> rfl) | rfl | (simp only [List.length_drop, List.length_take]; rfl)) ?_
                  with_reducible refine (wicketmanlaw08_Line.calls kj14 _ _ (l0.drop (x9_1 : Int).toNat) t705 _ ?side1 ?side2 A23.out).mono ?_
                  (case side1 => repeat (first | exact (Kd.C_below HR704.out HB.out) | (with_reducible refine Kd.C_alloc ?_ _) | (with_reducible refine Kd.C_drewN ?_ _) | (with_reducible refine Kd.C_drew ?_)))
                  (case side2 => exact HC704.out)
                  rintro e w33 ⟨rfl, hb⟩
                  refine ⟨_, rfl, ?_⟩
                  have n0_ := Aside0.mk (Kd.R_below (by (with_reducible repeat (first | apply Kd.R_alloc | apply Kd.R_drewN | apply Kd.R_drew)); exact HO_700001.out) hb)
                  have n1_ := Aside0.mk (Kd.V_below (by (with_reducible repeat (first | apply Kd.V_alloc | apply Kd.V_drewN | apply Kd.V_drew)); exact HO_700002.out) hb)
                  have n2_ := Aside0.mk (Kd.R_below (by (with_reducible repeat (first | apply Kd.R_alloc | apply Kd.R_drewN | apply Kd.R_drew)); exact HO703.out) hb)
                  have n3_ := Aside0.mk (blk_below (g := gb694) (o := .cells #[.int .i64 0, .slice none 0 0, .slice none 0 0] 51 (0, 0)) (by (with_reducible repeat (first | refine blk_drewN ?_ _ | refine blk_drew ?_ | refine blk_alloc ?_ _)); exact BK694.out) hb)
                  have n4_ := Aside0.mk (blk_below (g := gb699) (o := .cells #[.int .i64 (rd t695 (ji6)), .slice Ao26 x700001_1.length co26, .slice A1 l1.length c1] 51 (0, 0)) (by (with_reducible repeat (first | refine blk_drewN ?_ _ | refine blk_drew ?_ | refine blk_alloc ?_ _)); exact BK699.out) hb)
                  have n5_ := Aside0.mk (below_step (by repeat (first | (with_reducible first | apply bA | apply bN | apply bD | refine below_set ?_ GE694.out | refine below_set ?_ GE699.out) | exact HB.out)) hb)
                  clear HO_700001
                  clear HO_700002
                  clear HO703
                  clear BK694
                  clear BK699
                  clear HB
                  have HO_700001 := n0_
                  have HO_700002 := n1_
                  have HO703 := n2_
                  have BK694 := n3_
                  have BK699 := n4_
                  have HB := n5_
                  clear n0_ n1_ n2_ n3_ n4_ n5_
                  (try clear hb)
                  (try clear hb2)
                  (try clear hk)
                  (try clear hi)
                  refine hK.out _ _ ⟨(blk_cell BK699.out 0).trans rfl, (blk_cell BK699.out 1).trans rfl, (blk_cell BK699.out 2).trans rfl, ((HB.out.cell (World.block_lt_of_cell? w _ hw700_0)).trans hw700_0)⟩ (fun hHeld => ?_)
                  clear hK K
                  refine norm_ (a' := ?_) ?_ ?_
                  rotate_left
                  ·show Act.put _ (some 45) _ = _
                   simp only [Act.put, List.setIfInBounds_toArray, List.set_cons_zero, List.set_cons_succ, i64_w, i32_w]
                   rfl
                  exact norm_ (by first | (simp only [putAll, Act.put, List.setIfInBounds_toArray, List.set_cons_zero, List.set_cons_succ]; done) | (simp only [putAll, Act.put, List.setIfInBounds_toArray, List.set_cons_zero, List.set_cons_succ]; rfl)) (hJ8_9_14 (v702) _ ⟨hHeld, (by (with_reducible repeat (first | apply Kd.R_alloc | apply Kd.R_drewN | apply Kd.R_drew)); exact HO703.out), (by (with_reducible repeat (first | apply Kd.R_alloc | apply Kd.R_drewN | apply Kd.R_drew)); exact HO_700001.out), (by (with_reducible repeat (first | apply Kd.V_alloc | apply Kd.V_drewN | apply Kd.V_drew)); exact HO_700002.out), (by (with_reducible repeat (first | refine blk_drewN ?_ _ | refine blk_drew ?_ | refine blk_alloc ?_ _)); exact BK694.out), (by (with_reducible repeat (first | refine blk_drewN ?_ _ | refine blk_drew ?_ | refine blk_alloc ?_ _)); exact BK699.out), (by repeat (first | (with_reducible first | apply bA | apply bN | apply bD | refine below_set ?_ GE694.out | refine below_set ?_ GE699.out) | exact HB.out))⟩)
                ·skip
                 rintro v702 w32 ⟨hS_, h0_, h1_, h2_, h3_, h4_, h5_⟩
                 have n0_ : Aside0 (Kd.R (Kd.int .u8) 5 w32 w.heap.size (fun k_ => (w.heap.size ≤ k_)) v702 y701) := ⟨h0_⟩
                 have n1_ : Aside0 (Kd.R k43 43 w32 w.heap.size (fun k_ => (w.heap.size ≤ k_)) (.slice Ao26 x700001_1.length co26) x700001_1) := ⟨h1_⟩
                 have n2_ : Aside0 (Kd.V (Kd.int .u8) 5 w32 w.heap.size (fun k_ => (P1_ k_ ∨ w.heap.size ≤ k_) ∧ some k_ ≠ (v702 : Value).ownBlock ∧ some k_ ≠ (.slice Ao26 x700001_1.length co26 : Value).ownBlock ∧ k_ ≠ gb694 ∧ k_ ≠ gb699) (.slice A1 l1.length c1) l1) := ⟨h2_⟩
                 have n3_ : Aside0 (w32.heap[gb694]? = some (.cells #[.int .i64 0, .slice none 0 0, .slice none 0 0] 51 (0, 0))) := ⟨h3_⟩
                 have n4_ : Aside0 (w32.heap[gb699]? = some (.cells #[.int .i64 (rd t695 (ji6)), .slice Ao26 x700001_1.length co26, .slice A1 l1.length c1] 51 (0, 0))) := ⟨h4_⟩
                 have n5_ : Aside0 (Below w.heap.size w w32) := ⟨h5_⟩
                 clear HO_700001
                 clear HO_700002
                 clear BK694
                 clear BK699
                 clear HB
                 clear h0_ h1_ h2_ h3_ h4_ h5_
                 have HO703 := n0_
                 have HO_700001 := n1_
                 have HO_700002 := n2_
                 have BK694 := n3_
                 have BK699 := n4_
                 have HB := n5_
                 clear n0_ n1_ n2_ n3_ n4_ n5_
                 have hHeld : w32.cell? ⟨gb699, 0, none⟩ = some (.int .i64 (rd t695 (ji6))) ∧ w32.cell? ⟨gb699, 1, none⟩ = some (.slice Ao26 x700001_1.length co26) ∧ w32.cell? ⟨gb699, 2, none⟩ = some (.slice A1 l1.length c1) ∧ w32.cell? (ad700.add (x9_1).toNat) = some (.int .u8 (rd l0 x9_1)) := hS_
                 refine norm_ (a' := ?_) ?_ ?_
                 rotate_left
                 ·simp only [putAll, Act.put, List.setIfInBounds_toArray, List.set_cons_zero, List.set_cons_succ]
                  rfl
                 refine one_ (i := 9) (N := some 40) #[true, true, true, true, true, true, true, true, true, true, false, true, true, true, true, true, false, false, false, false, false] rfl rfl (one_of HT_.out (by kernel_rfl)) (by decide) (fun K hK => ?_)
                 (first | (have hcv33 := own_string (P := Tryd.prog) Tryd.underlying22 Tryd.underlying5 Tryd.underlying9 (Kd.own_of_R HO703.out)) | (have hcv33 := V_string25 (P := Tryd.prog) Tryd.underlying22 Tryd.underlying5 Tryd.underlying9 HO703.out))
                 refine value_ (w1 := ?_) (v := ?_) (by rfl) rfl ?_ ?_
                 rotate_left 2
                 ·go_simp
                  constructor
                  ·rfl
                  ·rfl
                 clear hcv33
                 refine hK.out _ _ ⟨(blk_cell BK699.out 0).trans rfl, (blk_cell BK699.out 1).trans rfl, (blk_cell BK699.out 2).trans rfl, ((HB.out.cell (World.block_lt_of_cell? w _ hw700_0)).trans hw700_0)⟩ (fun hHeld => ?_)
                 clear hK K
                 refine norm_ (a' := ?_) ?_ ?_
                 rotate_left
                 ·show Act.put _ (some 40) _ = _
                  simp only [Act.put, List.setIfInBounds_toArray, List.set_cons_zero, List.set_cons_succ, i64_w, i32_w]
                  rfl
                 refine pure_ (i := 10) (N := some 41) (v := ?_) (a' := ?_) #[true, true, true, true, true, true, true, true, true, true, true, true, true, true, true, true, false, false, false, false, false] rfl rfl (any_of HT_.out (by kernel_rfl)) (fun _ _ _ h => h) (Or.inl ⟨by rfl, ?_⟩) ?_ ?_
                 rotate_left
                 ·intro w'
                  go_simp
                  with_reducible rfl
                 rotate_left
                 ·simp only [Act.put, List.setIfInBounds_toArray, List.set_cons_zero, List.set_cons_succ, i64_w, i32_w]
                  rfl
                 exact norm_ (by first | (simp only [putAll, Act.put, List.setIfInBounds_toArray, List.set_cons_zero, List.set_cons_succ]; done) | (simp only [putAll, Act.put, List.setIfInBounds_toArray, List.set_cons_zero, List.set_cons_succ]; rfl)) (hJ8_9_14_15 (v702) _ ⟨hHeld, (by (with_reducible repeat (first | apply Kd.R_alloc | apply Kd.R_drewN | apply Kd.R_drew)); exact HO703.out), (by (with_reducible repeat (first | apply Kd.R_alloc | apply Kd.R_drewN | apply Kd.R_drew)); exact HO_700001.out), (by (with_reducible repeat (first | apply Kd.V_alloc | apply Kd.V_drewN | apply Kd.V_drew)); exact HO_700002.out), (by (with_reducible repeat (first | refine blk_drewN ?_ _ | refine blk_drew ?_ | refine blk_alloc ?_ _)); exact BK694.out), (by (with_reducible repeat (first | refine blk_drewN ?_ _ | refine blk_drew ?_ | refine blk_alloc ?_ _)); exact BK699.out), (by repeat (first | (with_reducible first | apply bA | apply bN | apply bD | refine below_set ?_ GE694.out | refine below_set ?_ GE699.out) | exact HB.out))⟩)
               ·skip
                rintro v702 w33 ⟨hS_, h0_, h1_, h2_, h3_, h4_, h5_⟩
                have n0_ : Aside0 (Kd.R (Kd.int .u8) 5 w33 w.heap.size (fun k_ => (w.heap.size ≤ k_)) v702 y701) := ⟨h0_⟩
                have n1_ : Aside0 (Kd.R k43 43 w33 w.heap.size (fun k_ => (w.heap.size ≤ k_)) (.slice Ao26 x700001_1.length co26) x700001_1) := ⟨h1_⟩
                have n2_ : Aside0 (Kd.V (Kd.int .u8) 5 w33 w.heap.size (fun k_ => (P1_ k_ ∨ w.heap.size ≤ k_) ∧ some k_ ≠ (v702 : Value).ownBlock ∧ some k_ ≠ (.slice Ao26 x700001_1.length co26 : Value).ownBlock ∧ k_ ≠ gb694 ∧ k_ ≠ gb699) (.slice A1 l1.length c1) l1) := ⟨h2_⟩
                have n3_ : Aside0 (w33.heap[gb694]? = some (.cells #[.int .i64 0, .slice none 0 0, .slice none 0 0] 51 (0, 0))) := ⟨h3_⟩
                have n4_ : Aside0 (w33.heap[gb699]? = some (.cells #[.int .i64 (rd t695 (ji6)), .slice Ao26 x700001_1.length co26, .slice A1 l1.length c1] 51 (0, 0))) := ⟨h4_⟩
                have n5_ : Aside0 (Below w.heap.size w w33) := ⟨h5_⟩
                clear HO_700001
                clear HO_700002
                clear BK694
                clear BK699
                clear HB
                clear h0_ h1_ h2_ h3_ h4_ h5_
                have HO703 := n0_
                have HO_700001 := n1_
                have HO_700002 := n2_
                have BK694 := n3_
                have BK699 := n4_
                have HB := n5_
                clear n0_ n1_ n2_ n3_ n4_ n5_
                have hHeld : w33.cell? ⟨gb699, 0, none⟩ = some (.int .i64 (rd t695 (ji6))) ∧ w33.cell? ⟨gb699, 1, none⟩ = some (.slice Ao26 x700001_1.length co26) ∧ w33.cell? ⟨gb699, 2, none⟩ = some (.slice A1 l1.length c1) ∧ w33.cell? (ad700.add (x9_1).toNat) = some (.int .u8 (rd l0 x9_1)) := hS_
                refine norm_ (a' := ?_) ?_ ?_
                rotate_left
                ·simp only [putAll, Act.put, List.setIfInBounds_toArray, List.set_cons_zero, List.set_cons_succ]
                 rfl
                refine one_ (i := 15) (N := some 46) #[true, true, true, true, true, true, true, true, true, true, true, true, true, true, true, true, false, false, false, false, false] rfl rfl (one_of HT_.out (by kernel_rfl)) (by decide) (fun K hK => ?_)
                refine goes_ Tryd.func21 (by kernel_rfl) rfl #[.string t705] (by rfl) rfl rfl (by (try simp only [List.map_toArray, List.map_cons, List.map_nil]); first | done | rfl | (simp only [List.length_drop, List.length_take]; rfl)) ?_
                with_reducible refine (wicketmanref07_Escape.calls kj14 t705 t706 _ A24.out).mono ?_
                rintro e w' ⟨rfl, ⟨nd, rfl⟩⟩
                refine ⟨_, rfl, ?_⟩
                refine hK.out _ _ ⟨(blk_cell BK699.out 0).trans rfl, (blk_cell BK699.out 1).trans rfl, (blk_cell BK699.out 2).trans rfl, ((HB.out.cell (World.block_lt_of_cell? w _ hw700_0)).trans hw700_0)⟩ (fun hHeld => ?_)
                clear hK K
                refine norm_ (a' := ?_) ?_ ?_
                rotate_left
                ·show Act.put _ (some 46) _ = _
                 simp only [Act.put, List.setIfInBounds_toArray, List.set_cons_zero, List.set_cons_succ, i64_w, i32_w]
                 rfl
                exact norm_ (by first | (simp only [putAll, Act.put, List.setIfInBounds_toArray, List.set_cons_zero, List.set_cons_succ]; done) | (simp only [putAll, Act.put, List.setIfInBounds_toArray, List.set_cons_zero, List.set_cons_succ]; rfl)) (hJ8_9_14_15 (v702) _ ⟨hHeld, (by (with_reducible repeat (first | apply Kd.R_alloc | apply Kd.R_drewN | apply Kd.R_drew)); exact HO703.out), (by (with_reducible repeat (first | apply Kd.R_alloc | apply Kd.R_drewN | apply Kd.R_drew)); exact HO_700001.out), (by (with_reducible repeat (first | apply Kd.V_alloc | apply Kd.V_drewN | apply Kd.V_drew)); exact HO_700002.out), (by (with_reducible repeat (first | refine blk_drewN ?_ _ | refine blk_drew ?_ | refine blk_alloc ?_ _)); exact BK694.out), (by (with_reducible repeat (first | refine blk_drewN ?_ _ | refine blk_drew ?_ | refine blk_alloc ?_ _)); exact BK699.out), (by repeat (first | (with_reducible first | apply bA | apply bN | apply bD | refine below_set ?_ GE694.out | refine below_set ?_ GE699.out) | exact HB.out))⟩)
              rintro v702 w33 ⟨hS_, h0_, h1_, h2_, h3_, h4_, h5_⟩
              have n0_ : Aside0 (Kd.R (Kd.int .u8) 5 w33 w.heap.size (fun k_ => (w.heap.size ≤ k_)) v702 y701) := ⟨h0_⟩
              have n1_ : Aside0 (Kd.R k43 43 w33 w.heap.size (fun k_ => (w.heap.size ≤ k_)) (.slice Ao26 x700001_1.length co26) x700001_1) := ⟨h1_⟩
              have n2_ : Aside0 (Kd.V (Kd.int .u8) 5 w33 w.heap.size (fun k_ => (P1_ k_ ∨ w.heap.size ≤ k_) ∧ some k_ ≠ (v702 : Value).ownBlock ∧ some k_ ≠ (.slice Ao26 x700001_1.length co26 : Value).ownBlock ∧ k_ ≠ gb694 ∧ k_ ≠ gb699) (.slice A1 l1.length c1) l1) := ⟨h2_⟩
              have n3_ : Aside0 (w33.heap[gb694]? = some (.cells #[.int .i64 0, .slice none 0 0, .slice none 0 0] 51 (0, 0))) := ⟨h3_⟩
              have n4_ : Aside0 (w33.heap[gb699]? = some (.cells #[.int .i64 (rd t695 (ji6)), .slice Ao26 x700001_1.length co26, .slice A1 l1.length c1] 51 (0, 0))) := ⟨h4_⟩
              have n5_ : Aside0 (Below w.heap.size w w33) := ⟨h5_⟩
              clear HO_700001
              clear HO_700002
              clear BK694
              clear BK699
              clear HB
              clear h0_ h1_ h2_ h3_ h4_ h5_
              have HO703 := n0_
              have HO_700001 := n1_
              have HO_700002 := n2_
              have BK694 := n3_
              have BK699 := n4_
              have HB := n5_
              clear n0_ n1_ n2_ n3_ n4_ n5_
              have hHeld : w33.cell? ⟨gb699, 0, none⟩ = some (.int .i64 (rd t695 (ji6))) ∧ w33.cell? ⟨gb699, 1, none⟩ = some (.slice Ao26 x700001_1.length co26) ∧ w33.cell? ⟨gb699, 2, none⟩ = some (.slice A1 l1.length c1) ∧ w33.cell? (ad700.add (x9_1).toNat) = some (.int .u8 (rd l0 x9_1)) := hS_
              refine norm_ (a' := ?_) ?_ ?_
              rotate_left
              ·simp only [putAll, Act.put, List.setIfInBounds_toArray, List.set_cons_zero, List.set_cons_succ]
               rfl
              refine pure_ (i := 16) (N := some 47) (v := ?_) (a' := ?_) #[true, true, true, true, true, true, true, true, true, true, true, true, true, true, true, true, true, false, false, false, false] rfl rfl (any_of HT_.out (by kernel_rfl)) (fun _ _ _ h => h) (Or.inl ⟨by rfl, ?_⟩) ?_ ?_
              rotate_left
              ·intro w'
               go_simp
               with_reducible rfl
              rotate_left
              ·simp only [Act.put, List.setIfInBounds_toArray, List.set_cons_zero, List.set_cons_succ, i64_w, i32_w]
               rfl
              refine one_ (i := 17) (N := some 48) #[true, true, true, true, true, true, true, true, true, true, true, true, true, true, true, true, true, true, false, false, false] rfl rfl (one_of HT_.out (by kernel_rfl)) (by decide) (fun K hK => ?_)
              refine value_ (w1 := ?_) (v := ?_) (by rfl) rfl ?_ ?_
              rotate_left 2
              ·go_simp
               constructor
               ·rfl
               ·rfl
              refine hK.out _ _ ⟨(blk_cell (blk_alloc BK699.out _) 0).trans rfl, (blk_cell (blk_alloc BK699.out _) 1).trans rfl, (blk_cell (blk_alloc BK699.out _) 2).trans rfl, (World.cell?_alloc_lt _ _ _ (World.block_lt_of_cell? _ _ (((HB.out.cell (World.block_lt_of_cell? w _ hw700_0)).trans hw700_0)))).trans (((HB.out.cell (World.block_lt_of_cell? w _ hw700_0)).trans hw700_0))⟩ (fun hHeld => ?_)
              clear hK K
              refine norm_ (a' := ?_) ?_ ?_
              rotate_left
              ·show Act.put _ (some 48) _ = _
               simp only [Act.put, List.setIfInBounds_toArray, List.set_cons_zero, List.set_cons_succ, i64_w, i32_w]
               rfl
              refine one_ (i := 18) (N := some 49) #[true, true, true, true, true, true, true, true, true, true, true, true, true, true, true, true, true, true, true, false, false] rfl rfl (one_of HT_.out (by kernel_rfl)) (by decide) (fun K hK => ?_)
              refine Kd.R_append_step k43 (w0 := w) w.heap.size (by rfl) (.tmp 32) (.tmp 48) 34 43 (.agg #[(.string ⟨#[]⟩), (.string ⟨#[]⟩)]) 32 rfl Tryd.underlying34 info43 rfl (by decide) (by omega) (.slice Ao26 x700001_1.length co26) x700001_1 (⟨(⟨#[88]⟩ : ByteArray) ++ (strOfNums y701), t706⟩ : S43) [.string ((⟨#[88]⟩ : ByteArray) ++ (strOfNums y701)), .string t706] (fun k_ => (w.heap.size ≤ k_)) (fun _ => False) rfl rfl ?aP (fun _ hk => hk.elim) ?aF ?aO ?aB ?aS ?aL ?_
              (case aP => exact k43_mkM _ _ _ (⟨(⟨#[88]⟩ : ByteArray) ++ (strOfNums y701), t706⟩ : S43))
              (case aB => exact (by repeat (first | (with_reducible first | apply bA | apply bN | apply bD | refine below_set ?_ GE694.out | refine below_set ?_ GE699.out) | exact HB.out)))
              (case aF => exact (fun k_ hk => (Nat.le_trans (below_size (by repeat (first | (with_reducible first | apply bA | apply bN | apply bD | refine below_set ?_ GE694.out | refine below_set ?_ GE699.out) | exact HB.out))) hk)))
              (case aO => exact (by (with_reducible repeat (first | apply Kd.R_alloc | apply Kd.R_drewN | apply Kd.R_drew)); exact HO_700001.out))
              (case aS => exact (below_size (by repeat (first | (with_reducible first | apply bA | apply bN | apply bD | refine below_set ?_ GE694.out | refine below_set ?_ GE699.out) | exact HB.out))))
              (case aL => have := LMc25.out; omega)
              intro v708 w34 ho hb hg hat
              rw [← Ny707.out] at ho
              have n0_ := Aside0.mk (Kd.V_afterv (ok := (fun k_ => (P1_ k_ ∨ w.heap.size ≤ k_) ∧ some k_ ≠ (v702 : Value).ownBlock ∧ k_ ≠ gb694 ∧ k_ ≠ gb699)) (by (with_reducible repeat (first | apply Kd.V_alloc | apply Kd.V_drewN | apply Kd.V_drew)); exact Kd.V_mono HO_700002.out (fun _ hk => ⟨⟨hk.1, ⟨hk.2.1, ⟨hk.2.2.2.1, hk.2.2.2.2⟩⟩⟩, hk.2.2.1⟩)) hg hat)
              have n1_ := Aside0.mk (blk_grown (g := gb694) (o := .cells #[.int .i64 0, .slice none 0 0, .slice none 0 0] 51 (0, 0)) (by (with_reducible repeat (first | refine blk_drewN ?_ _ | refine blk_drew ?_ | refine blk_alloc ?_ _)); exact BK694.out) hg (Kd.R_ne HO_700001.out BK694.out (by decide)))
              have n2_ := Aside0.mk (blk_grown (g := gb699) (o := .cells #[.int .i64 (rd t695 (ji6)), .slice Ao26 x700001_1.length co26, .slice A1 l1.length c1] 51 (0, 0)) (by (with_reducible repeat (first | refine blk_drewN ?_ _ | refine blk_drew ?_ | refine blk_alloc ?_ _)); exact BK699.out) hg (Kd.R_ne HO_700001.out BK699.out (by decide)))
              have n3_ := Aside0.mk (Kd.R_over' (by (with_reducible repeat (first | apply Kd.R_alloc | apply Kd.R_drewN | apply Kd.R_drew)); exact HO703.out) (Kd.R_typed (by (with_reducible repeat (first | apply Kd.R_alloc | apply Kd.R_drewN | apply Kd.R_drew)); exact HO_700001.out)) (by decide) hg)
              have n4_ := Aside0.mk (hb)
              have n5_ := Aside0.mk (ho)
              clear HO_700002
              clear BK694
              clear BK699
              clear HO703
              clear HB
              clear HO_700001
              have HO_700002 := n0_
              have BK694 := n1_
              have BK699 := n2_
              have HO703 := n3_
              have HB := n4_
              have HO709 := n5_
              clear n0_ n1_ n2_ n3_ n4_ n5_
              clear ho hb hg hat
              obtain ⟨Ao35, co35, eo35⟩ := Kd.R_slice HO709.out
              (first | subst eo35 | (injection eo35 with f1_ f2_ f3_; have f4_ := f1_.symm; have f5_ := f3_.symm; clear f1_ f2_ f3_; subst f4_; subst f5_))
              refine hK.out _ _ ⟨(blk_cell BK699.out 0).trans rfl, (blk_cell BK699.out 1).trans rfl, (blk_cell BK699.out 2).trans rfl, ((HB.out.cell (World.block_lt_of_cell? w _ hw700_0)).trans hw700_0)⟩ (fun hHeld => ?_)
              clear hK K
              refine norm_ (a' := ?_) ?_ ?_
              rotate_left
              ·show Act.put _ (some 49) _ = _
               simp only [Act.put, List.setIfInBounds_toArray, List.set_cons_zero, List.set_cons_succ, i64_w, i32_w]
               rfl
              refine pure_ (i := 19) (N := some 50) (v := ?_) (a' := ?_) #[true, true, true, true, true, true, true, true, true, true, true, true, true, true, true, true, true, true, true, true, false] rfl rfl (any_of HT_.out (by kernel_rfl)) (fun _ _ _ h => h) (Or.inl ⟨by rfl, ?_⟩) ?_ ?_
              rotate_left
              ·intro w'
               go_simp
               with_reducible rfl
              rotate_left
              ·simp only [Act.put, List.setIfInBounds_toArray, List.set_cons_zero, List.set_cons_succ, i64_w, i32_w]
               rfl
              refine last_ (i := 20) (N := none) #[true, true, true, true, true, true, true, true, true, true, true, true, true, true, true, true, true, true, true, true, true] rfl rfl (one_of HT_.out (by kernel_rfl)) (by decide) (fun K hK => ?_)
              have hs36 : w34.cell? ⟨gb699, 1, none⟩ = some (.slice Ao26 x700001_1.length co26) := (blk_cell BK699.out 1).trans rfl
              have hfs36 := blk_frozen BK699.out 1
              have hns36_0 := NB694_699.out
              have hms36_0 := NB699_694.out
              refine skip_ (w1 := ?_) (by rfl) rfl ?_ ?_
              rotate_left
              ·go_simp
               rfl
              refine hK.out _ _ ?_
              clear hK K
              refine done_ (done_of HT_.out (by kernel_rfl)) ?_
              try go_wp2
              go_roundg kj14
              case measure => have := HK1.out; have := HJ14.out; omega
              case rel => exact ⟨(wrap64 (x9_1 + 1)), (y707), (.slice Ao35 y707.length co35), (by first | rfl | (simp; done) | (simp [*]; done)), H', ⟨by have := HK1.out; have := HJ14.out; omega⟩, ⟨by (with_reducible repeat (first | apply Kd.R_alloc | apply Kd.R_drewN | apply Kd.R_drew)); exact Kd.R_mono (Kd.R_far (p := ⟨gb699, 1, none⟩) (Kd.R_types HO709.out BK699.out (by decide)) (fun _ hk => hk.2) (.slice Ao35 y707.length co35)) (fun _ hk => hk.1)⟩, ⟨by (with_reducible repeat (first | apply Kd.V_alloc | apply Kd.V_drewN | apply Kd.V_drew)); exact Kd.V_mono (Kd.V_far (p := ⟨gb699, 1, none⟩) (Kd.V_mono HO_700002.out (fun k_ hk => (⟨hk, hk.1.2.2.2⟩ : _ ∧ k_ ≠ gb699))) (fun _ hk => hk.2) (.slice Ao35 y707.length co35)) (fun _ hk => ⟨hk.1.1.1, ⟨hk.1.2, ⟨hk.1.1.2.2.1, hk.1.1.2.2.2⟩⟩⟩)⟩, ⟨by (with_reducible repeat (first | refine blk_drewN ?_ _ | refine blk_drew ?_ | refine blk_alloc ?_ _)); refine blk_far ?_ NB694_699.out _; (with_reducible repeat (first | refine blk_drewN ?_ _ | refine blk_drew ?_ | refine blk_alloc ?_ _)); exact BK694.out⟩, ⟨by (with_reducible repeat (first | refine blk_drewN ?_ _ | refine blk_drew ?_ | refine blk_alloc ?_ _)); refine blk_put (cs := #[.int .i64 (rd t695 (ji6)), .slice Ao26 x700001_1.length co26, .slice A1 l1.length c1]) ?_ 1 _ rfl; (with_reducible repeat (first | refine blk_drewN ?_ _ | refine blk_drew ?_ | refine blk_alloc ?_ _)); exact BK699.out⟩, ⟨by repeat (first | (with_reducible first | apply bA | apply bN | apply bD | refine below_set ?_ GE694.out | refine below_set ?_ GE699.out) | exact HB.out)⟩⟩
             ·rw [if_neg c25] at H
              exact absurd H (by simp)
            ·rw [if_neg c22] at H
             exact absurd H (by simp)
           ·rw [if_neg c20] at H
            exact absurd H (by simp)
          ·rw [if_neg c19] at H
           exact absurd H (by simp)
         ·rw [if_neg c18] at H
          exact absurd H (by simp)
        ·replace c17 := Bool.eq_false_iff.mpr c17
         subst c17
         rw [if_neg (show ¬ (false = true) by decide)] at H
         by_cases c37 : a2 > 230
         ·rw [if_pos c37] at H
          have c37b0 : decide (230 < a2) = true := decide_eq_true c37
          clear c37
          simp only [Option.some.injEq, Prod.mk.injEq] at H
          obtain ⟨rfl, rfl, rfl⟩ := H
          have hnb38 := NB699_694.out
          have hnc38 := NB694_699.out
          have hcz39_0 : wc.cell? ⟨gb699, 0, none⟩ = some (.int .i64 (rd t695 (ji6))) := (blk_cell BK699.out 0).trans rfl
          have hcz39_1 : wc.cell? ⟨gb699, 1, none⟩ = some (u700001) := (blk_cell BK699.out 1).trans rfl
          have hcz39_2 : wc.cell? ⟨gb699, 2, none⟩ = some (.slice A1 l1.length c1) := (blk_cell BK699.out 2).trans rfl
          have hfz39_0 := blk_frozen BK699.out 0
          have hfz39_1 := blk_frozen BK699.out 1
          have hfz39_2 := blk_frozen BK699.out 2
          have hcz40_0 : wc.cell? ⟨gb694, 0, none⟩ = some (.int .i64 0) := (blk_cell BK694.out 0).trans rfl
          have hcz40_1 : wc.cell? ⟨gb694, 1, none⟩ = some (.slice none 0 0) := (blk_cell BK694.out 1).trans rfl
          have hcz40_2 : wc.cell? ⟨gb694, 2, none⟩ = some (.slice none 0 0) := (blk_cell BK694.out 2).trans rfl
          have hfz40_0 := blk_frozen BK694.out 0
          have hfz40_1 := blk_frozen BK694.out 1
          have hfz40_2 := blk_frozen BK694.out 2
          obtain ⟨Ao41, co41, eo41⟩ := Kd.R_slice HO_700001.out
          subst eo41
          go_wp2
          refine bodyPost_ret (results_cell_row rfl _ _ gb694 51 #[.int .i64 (wrap64 (a2)), .slice Ao41 x700001_1.length co41, .slice A1 l1.length c1] (0, 0) _ rfl (by (with_reducible repeat (first | refine blk_drewN ?_ _ | refine blk_drew ?_ | refine blk_alloc ?_ _)); refine blk_put (cs := #[.int .i64 (wrap64 (a2)), .slice Ao41 x700001_1.length co41, .slice none 0 0]) ?_ 2 _ rfl; (with_reducible repeat (first | refine blk_drewN ?_ _ | refine blk_drew ?_ | refine blk_alloc ?_ _)); refine blk_put (cs := #[.int .i64 (wrap64 (a2)), .slice none 0 0, .slice none 0 0]) ?_ 1 _ rfl; (with_reducible repeat (first | refine blk_drewN ?_ _ | refine blk_drew ?_ | refine blk_alloc ?_ _)); refine blk_put (cs := #[.int .i64 0, .slice none 0 0, .slice none 0 0]) ?_ 0 _ rfl; (with_reducible repeat (first | refine blk_drewN ?_ _ | refine blk_drew ?_ | refine blk_alloc ?_ _)); refine blk_far ?_ NB694_699.out _; (with_reducible repeat (first | refine blk_drewN ?_ _ | refine blk_drew ?_ | refine blk_alloc ?_ _)); exact BK694.out) Tryd.underlying51 rfl (by kernel_rfl)) rfl ?_
          exact ⟨_, _, by first | rfl | (simp [errW_none, errW_some] <;> rfl) | (simp only [← hji6]; first | rfl | (simp [errW_none, errW_some] <;> rfl)) | (simp [*, errW_none, errW_some] <;> rfl), by (with_reducible repeat (first | apply Kd.R_alloc | apply Kd.R_drewN | apply Kd.R_drew)); exact Kd.R_mono (Kd.R_far (p := ⟨gb694, 2, none⟩) (Kd.R_far (p := ⟨gb694, 1, none⟩) (Kd.R_far (p := ⟨gb694, 0, none⟩) (Kd.R_far (p := ⟨gb699, 0, none⟩) (Kd.R_types (Kd.R_types HO_700001.out BK699.out (by decide)) BK694.out (by decide)) (fun _ hk => hk.1.2) (.int .i64 (wrap64 (a2)))) (fun _ hk => hk.2) (.int .i64 (wrap64 (a2)))) (fun _ hk => hk.2) (.slice Ao41 x700001_1.length co41)) (fun _ hk => hk.2) (.slice A1 l1.length c1)) (fun _ hk => hk.1.1), by (with_reducible repeat (first | apply Kd.V_alloc | apply Kd.V_drewN | apply Kd.V_drew)); exact Kd.V_mono (Kd.V_far (p := ⟨gb694, 2, none⟩) (Kd.V_far (p := ⟨gb694, 1, none⟩) (Kd.V_far (p := ⟨gb694, 0, none⟩) (Kd.V_far (p := ⟨gb699, 0, none⟩) (Kd.V_mono (Kd.V_mono HO_700002.out (fun k_ hk => (⟨hk, hk.2.2.2⟩ : _ ∧ k_ ≠ gb699))) (fun k_ hk => (⟨hk, hk.1.2.2.1⟩ : _ ∧ k_ ≠ gb694))) (fun _ hk => hk.1.2) (.int .i64 (wrap64 (a2)))) (fun _ hk => hk.2) (.int .i64 (wrap64 (a2)))) (fun _ hk => hk.2) (.slice Ao41 x700001_1.length co41)) (fun _ hk => hk.2) (.slice A1 l1.length c1)) (fun _ hk => ⟨hk.1.1.1, hk.1.1.2.1⟩), by repeat (first | (with_reducible first | apply bA | apply bN | apply bD | refine below_set ?_ GE694.out | refine below_set ?_ GE699.out) | exact HB.out)⟩
         ·rw [if_neg c37] at H
          have c37b0 : decide (230 < a2) = false := decide_eq_false c37
          clear c37
          simp only [Option.some.injEq, Prod.mk.injEq] at H
          obtain ⟨rfl, rfl, rfl⟩ := H
          have hnb42 := NB699_694.out
          have hnc42 := NB694_699.out
          have hcz43_0 : wc.cell? ⟨gb699, 0, none⟩ = some (.int .i64 (rd t695 (ji6))) := (blk_cell BK699.out 0).trans rfl
          have hcz43_1 : wc.cell? ⟨gb699, 1, none⟩ = some (u700001) := (blk_cell BK699.out 1).trans rfl
          have hcz43_2 : wc.cell? ⟨gb699, 2, none⟩ = some (.slice A1 l1.length c1) := (blk_cell BK699.out 2).trans rfl
          have hfz43_0 := blk_frozen BK699.out 0
          have hfz43_1 := blk_frozen BK699.out 1
          have hfz43_2 := blk_frozen BK699.out 2
          have hcz44_0 : wc.cell? ⟨gb694, 0, none⟩ = some (.int .i64 0) := (blk_cell BK694.out 0).trans rfl
          have hcz44_1 : wc.cell? ⟨gb694, 1, none⟩ = some (.slice none 0 0) := (blk_cell BK694.out 1).trans rfl
          have hcz44_2 : wc.cell? ⟨gb694, 2, none⟩ = some (.slice none 0 0) := (blk_cell BK694.out 2).trans rfl
          have hfz44_0 := blk_frozen BK694.out 0
          have hfz44_1 := blk_frozen BK694.out 1
          have hfz44_2 := blk_frozen BK694.out 2
          obtain ⟨Ao45, co45, eo45⟩ := Kd.R_slice HO_700001.out
          subst eo45
          go_wp2
          refine bodyPost_ret (results_cell_row rfl _ _ gb694 51 #[.int .i64 (rd t695 (ji6)), .slice Ao45 x700001_1.length co45, .slice A1 l1.length c1] (0, 0) _ rfl (by (with_reducible repeat (first | refine blk_drewN ?_ _ | refine blk_drew ?_ | refine blk_alloc ?_ _)); refine blk_put (cs := #[.int .i64 (rd t695 (ji6)), .slice Ao45 x700001_1.length co45, .slice none 0 0]) ?_ 2 _ rfl; (with_reducible repeat (first | refine blk_drewN ?_ _ | refine blk_drew ?_ | refine blk_alloc ?_ _)); refine blk_put (cs := #[.int .i64 (rd t695 (ji6)), .slice none 0 0, .slice none 0 0]) ?_ 1 _ rfl; (with_reducible repeat (first | refine blk_drewN ?_ _ | refine blk_drew ?_ | refine blk_alloc ?_ _)); refine blk_put (cs := #[.int .i64 0, .slice none 0 0, .slice none 0 0]) ?_ 0 _ rfl; (with_reducible repeat (first | refine blk_drewN ?_ _ | refine blk_drew ?_ | refine blk_alloc ?_ _)); exact BK694.out) Tryd.underlying51 rfl (by kernel_rfl)) rfl ?_
          exact ⟨_, _, by first | rfl | (simp [errW_none, errW_some] <;> rfl) | (simp only [← hji6]; first | rfl | (simp [errW_none, errW_some] <;> rfl)) | (simp [*, errW_none, errW_some] <;> rfl), by (with_reducible repeat (first | apply Kd.R_alloc | apply Kd.R_drewN | apply Kd.R_drew)); exact Kd.R_mono (Kd.R_far (p := ⟨gb694, 2, none⟩) (Kd.R_far (p := ⟨gb694, 1, none⟩) (Kd.R_far (p := ⟨gb694, 0, none⟩) (Kd.R_types HO_700001.out BK694.out (by decide)) (fun _ hk => hk.2) (.int .i64 (rd t695 (ji6)))) (fun _ hk => hk.2) (.slice Ao45 x700001_1.length co45)) (fun _ hk => hk.2) (.slice A1 l1.length c1)) (fun _ hk => hk.1), by (with_reducible repeat (first | apply Kd.V_alloc | apply Kd.V_drewN | apply Kd.V_drew)); exact Kd.V_mono (Kd.V_far (p := ⟨gb694, 2, none⟩) (Kd.V_far (p := ⟨gb694, 1, none⟩) (Kd.V_far (p := ⟨gb694, 0, none⟩) (Kd.V_mono HO_700002.out (fun k_ hk => (⟨hk, hk.2.2.1⟩ : _ ∧ k_ ≠ gb694))) (fun _ hk => hk.2) (.int .i64 (rd t695 (ji6)))) (fun _ hk => hk.2) (.slice Ao45 x700001_1.length co45)) (fun _ hk => hk.2) (.slice A1 l1.length c1)) (fun _ hk => ⟨hk.1.1, hk.1.2.1⟩), by repeat (first | (with_reducible first | apply bA | apply bN | apply bD | refine below_set ?_ GE694.out | refine below_set ?_ GE699.out) | exact HB.out)⟩
   ·rw [if_neg c8] at H
    exact absurd H (by simp)
  ·rw [if_neg c7] at H
   exact absurd H (by simp)
end Go.Proofs.YtpfbemcoblganaaDoor.Pall

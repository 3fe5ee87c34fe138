import Derived.Test.YtpfbemcoblganaaDoorQpPall0
import Derived.Test.YtpfbemcoblganaaDoorQpPall5
import Derived.Test.YtpfbemcoblganaaDoorQpPall7
import Derived.Test.YtpfbemcoblganaaDoorQpPall8
import Derived.Test.YtpfbemcoblganaaDoorQpPall29
namespace Go.Proofs.YtpfbemcoblganaaDoor.Pall
open Go.RowKit Go.Proofs.YtpfbemcoblganaaDoorW.PrintWords Go.Proofs.YtpfbemcoblganaaDoorW.PrintLast
set_option linter.unusedVariables false
set_option linter.unusedSimpArgs false
theorem V_string31 {P : Program} {e : Nat} {w : World} {base : Nat} {ok : Nat → Prop} {v : Value} {xs : List Int} {src dst el : TypeId} (hs : P.underlying src = some (.slice el)) (he : P.underlying el = some (.int .u8)) (hd : P.underlying dst = some .string) (h : Kd.V (Kd.int .u8) e w base ok v xs) : (convert src dst v).run P w = .ok (.string (strOfNums xs)) w := by
 obtain ⟨A, c, rfl, _, hf⟩ := h
 exact Kd.C_string hs he hd (Kd.F_now hf)
mutual
def wicketmanref10_Parse.j0 : Nat → List Int → List ByteArray → Int → Bool → Option (Int × (List (S43)) × List Int × Int)
 | 0, _, _, _, _ => none
 | k + 1, x0, x4, x5, x34 => if x34 = true then (some (0, ([] : List (S43)), ([] : List Int), 10)) else (if 0 < (x4.length : Int) then (if 9 ≤ 12 then (if 12 ≤ ((rdOf ByteArray.empty x4 0).size : Int) then ((wicketmanref01_Decimal.f k ((rdOf ByteArray.empty x4 0).extract 9 12) 999).bind fun bt825 => (if 0 ≤ x5 then (if x5 ≤ (x0.length : Int) then (wicketmanref10_Parse.l0 k x0 x4 1 bt825.1 ([] : List (S43)) (x0.drop (x5 : Int).toNat)) else (none)) else (none))) else (none)) else (none)) else (none))
def wicketmanref10_Parse.l0 : Nat → List Int → List ByteArray → Int → Int → List (S43) → List Int → Option (Int × (List (S43)) × List Int × Int)
 | 0, _, _, _, _, _, _ => none
 | k + 1, x0, x4, x10, x833000, x833001, x833002 => if x10 < (wrap64 ((x4.length : Int) - 1)) then (if 0 ≤ x10 then (if x10 < (x4.length : Int) then ((wicketmanref08_Field.f k (rdOf ByteArray.empty x4 x10)).bind fun bt834 => (if bt834.2.2 = 0 then (if x833001.length < 4398046511104 then (wicketmanref10_Parse.l0 k x0 x4 (wrap64 (x10 + 1)) x833000 (x833001 ++ [(⟨bt834.1, bt834.2.1⟩ : S43)]) x833002) else (none)) else (some (0, ([] : List (S43)), ([] : List Int), 10)))) else (none)) else (none)) else ((wicketmanref10_Print.f k x833000 x833001 x833002).bind fun bt841 => (if bt841.2 = 0 then (if (strOfNums bt841.1).toList = (strOfNums x0).toList then (some (x833000, x833001, x833002, 0)) else (some (0, ([] : List (S43)), ([] : List Int), 10))) else (some (0, ([] : List (S43)), ([] : List Int), 10))))
end
def wicketmanref10_Parse.f (k : Nat) (l0 : List Int) : Option (Int × (List (S43)) × List Int × Int) := (wicketmanref09_Lines.f k l0).bind fun bt818 => (if bt818.2.2 = true then (if (bt818.1.length : Int) < 2 then (wicketmanref10_Parse.j0 k l0 bt818.1 bt818.2.1 true) else (if 0 < (bt818.1.length : Int) then (wicketmanref10_Parse.j0 k l0 bt818.1 bt818.2.1 (decide (((rdOf ByteArray.empty bt818.1 0).size : Int) < 12))) else (none))) else (wicketmanref10_Parse.j0 k l0 bt818.1 bt818.2.1 true))
theorem wicketmanref10_Parse.mono_l : ∀ k, (∀ y0 y1 y2 y3, LeO (wicketmanref10_Parse.j0 k y0 y1 y2 y3) (wicketmanref10_Parse.j0 (k + 1) y0 y1 y2 y3)) ∧ (∀ y0 y1 y2 y3 y4 y5, LeO (wicketmanref10_Parse.l0 k y0 y1 y2 y3 y4 y5) (wicketmanref10_Parse.l0 (k + 1) y0 y1 y2 y3 y4 y5))
 | 0 => ⟨fun _ _ _ _ r h => by simp [wicketmanref10_Parse.j0] at h, fun _ _ _ _ _ _ r h => by simp [wicketmanref10_Parse.l0] at h⟩
 | k + 1 => by
  obtain ⟨ih0, ih1⟩ := wicketmanref10_Parse.mono_l k
  refine ⟨?_, ?_⟩
  ·intro y0 y1 y2 y3
   unfold wicketmanref10_Parse.j0
   repeat' first
   | (with_reducible exact ih0 _ _ _ _)
   | (with_reducible exact ih1 _ _ _ _ _ _)
   | (with_reducible exact wicketmanref01_Decimal.mono _ _ _)
   | (with_reducible exact wicketmanref08_Field.mono _ _)
   | (with_reducible exact wicketmanref09_Lines.mono _ _)
   | (with_reducible exact wicketmanref10_Print.mono _ _ _ _)
   | (with_reducible exact LeO.refl _)
   | (with_reducible exact LeO.none _)
   | (with_reducible refine LeO.ite ?_ ?_)
   | (with_reducible refine LeO.bind ?_ (fun _ => ?_))
   | exact ih0 _ _ _ _
   | exact ih1 _ _ _ _ _ _
   | exact wicketmanref01_Decimal.mono _ _ _
   | exact wicketmanref08_Field.mono _ _
   | exact wicketmanref09_Lines.mono _ _
   | exact wicketmanref10_Print.mono _ _ _ _
   | exact LeO.none _
   | refine LeO.ite ?_ ?_
   | refine LeO.bind ?_ (fun _ => ?_)
  ·intro y0 y1 y2 y3 y4 y5
   unfold wicketmanref10_Parse.l0
   repeat' first
   | (with_reducible exact ih0 _ _ _ _)
   | (with_reducible exact ih1 _ _ _ _ _ _)
   | (with_reducible exact wicketmanref01_Decimal.mono _ _ _)
   | (with_reducible exact wicketmanref08_Field.mono _ _)
   | (with_reducible exact wicketmanref09_Lines.mono _ _)
   | (with_reducible exact wicketmanref10_Print.mono _ _ _ _)
   | (with_reducible exact LeO.refl _)
   | (with_reducible exact LeO.none _)
   | (with_reducible refine LeO.ite ?_ ?_)
   | (with_reducible refine LeO.bind ?_ (fun _ => ?_))
   | exact ih0 _ _ _ _
   | exact ih1 _ _ _ _ _ _
   | exact wicketmanref01_Decimal.mono _ _ _
   | exact wicketmanref08_Field.mono _ _
   | exact wicketmanref09_Lines.mono _ _
   | exact wicketmanref10_Print.mono _ _ _ _
   | exact LeO.none _
   | refine LeO.ite ?_ ?_
   | refine LeO.bind ?_ (fun _ => ?_)
theorem wicketmanref10_Parse.mono : ∀ a0 k, LeO (wicketmanref10_Parse.f k a0) (wicketmanref10_Parse.f (k + 1) a0) := by
 intro a0 k
 obtain ⟨ih0, ih1⟩ := wicketmanref10_Parse.mono_l k
 unfold wicketmanref10_Parse.f
 repeat' first
   | (with_reducible exact ih0 _ _ _ _)
   | (with_reducible exact ih1 _ _ _ _ _ _)
   | (with_reducible exact wicketmanref01_Decimal.mono _ _ _)
   | (with_reducible exact wicketmanref08_Field.mono _ _)
   | (with_reducible exact wicketmanref09_Lines.mono _ _)
   | (with_reducible exact wicketmanref10_Print.mono _ _ _ _)
   | (with_reducible exact LeO.refl _)
   | (with_reducible exact LeO.none _)
   | (with_reducible refine LeO.ite ?_ ?_)
   | (with_reducible refine LeO.bind ?_ (fun _ => ?_))
   | exact ih0 _ _ _ _
   | exact ih1 _ _ _ _ _ _
   | exact wicketmanref01_Decimal.mono _ _ _
   | exact wicketmanref08_Field.mono _ _
   | exact wicketmanref09_Lines.mono _ _
   | exact wicketmanref10_Print.mono _ _ _ _
   | exact LeO.none _
   | refine LeO.ite ?_ ?_
   | refine LeO.bind ?_ (fun _ => ?_)
set_option maxHeartbeats 8000000 in
set_option maxRecDepth 100000 in
theorem wicketmanref10_Parse.calls (k : Nat) (P0_ : Nat → Prop) (A0 : Option Addr) (c0 : Nat) (l0 : List Int) (r1 : Int) (r2 : List (S43)) (r3 : List Int) (r4 : Int) (w : World) (hs0 : Kd.V (Kd.int .u8) 5 w w.heap.size (fun k_ => P0_ k_) (.slice A0 l0.length c0) l0) (hT : Tb w) (h : wicketmanref10_Parse.f k l0 = some (r1, r2, r3, r4)) :
  Calls Tryd.prog 64 #[.slice A0 l0.length c0] w fun e w' => ∃ v1_ v2_ : Value, e = .returned (.tuple #[.agg #[.int .i64 r1, v1_, v2_], .int .i64 r4]) ∧ Kd.R k43 43 w' w.heap.size (fun k_ => (w.heap.size ≤ k_)) v1_ r2 ∧ Kd.V (Kd.int .u8) 5 w' w.heap.size (fun k_ => (P0_ k_ ∨ w.heap.size ≤ k_) ∧ some k_ ≠ (v1_ : Value).ownBlock) v2_ r3 ∧ Below w.heap.size w w' := by
 have hu51 := Tryd.underlying51
 have hu43 := Tryd.underlying43
 have HO0 := Aside0.mk (show Kd.V (Kd.int .u8) 5 w w.heap.size (fun k_ => (P0_ k_ ∨ w.heap.size ≤ k_)) (.slice A0 l0.length c0) l0 from Kd.V_mono hs0 (fun k_ hk => .inl hk))
 have HB := Aside0.mk (Below.refl w.heap.size w)
 have H : ((wicketmanref09_Lines.f k l0).bind fun bt818 => (if bt818.2.2 = true then (if (bt818.1.length : Int) < 2 then (wicketmanref10_Parse.j0 k l0 bt818.1 bt818.2.1 true) else (if 0 < (bt818.1.length : Int) then (wicketmanref10_Parse.j0 k l0 bt818.1 bt818.2.1 (decide (((rdOf ByteArray.empty bt818.1 0).size : Int) < 12))) else (none))) else (wicketmanref10_Parse.j0 k l0 bt818.1 bt818.2.1 true))) = some (r1, r2, r3, r4) := h
 clear h
 replace H := Option.bind_eq_some_iff.mp H
 obtain ⟨⟨t818, t819, t820⟩, A20, H⟩ := H
 try dsimp only at H
 have A2 := Aside0.mk A20
 clear A20
 have HC3 := Aside0.mk H
 clear H
 go_enter Tryd.func64, Tryd.ntmps64
 go_upto_region 2 with (first | ((with_reducible refine gate_dst (N := 2) rfl ?_); (try (refine gate_guard (by rfl) ?_; dsimp only)); refine box_event ?hg (N := 2) ?hd (cs := #[.int .i64 0, .slice none 0 0, .slice none 0 0]) (t := 51) ?hr ?_; (case hd => rfl); (case hg => rfl); (case hr => first | (go_simp; done) | (go_simp; rfl)); intro gb817 hg w4 hbox hb; have n0_ := Aside0.mk (Kd.V_below (Kd.V_elderB (by (with_reducible repeat (first | apply Kd.V_alloc | apply Kd.V_drewN | apply Kd.V_drew)); exact HO0.out) gb817 (Nat.le_of_eq hg.symm)) hb); have n1_ := Aside0.mk (below_step (by repeat (first | (with_reducible first | apply bA | apply bN | apply bD) | exact HB.out)) hb); have n2_ := Aside0.mk (hbox); have n3_ := Aside0.mk ((by rw [hg]; exact (below_size (by repeat (first | (with_reducible first | apply bA | apply bN | apply bD) | exact HB.out))) : w.heap.size ≤ gb817)); have n4_ := Aside0.mk ((by rw [hg]; exact (below_size (by repeat (first | (with_reducible first | apply bA | apply bN | apply bD) | exact HB.out))) : w.heap.size ≤ gb817)); clear HO0; clear HB; have HO0 := n0_; have HB := n1_; have BK817 := n2_; have GW817 := n3_; have GE817 := n4_; clear n0_ n1_ n2_ n3_ n4_; clear hb hbox hg) | ((with_reducible refine gate_callee (f := 45) rfl ?_); refine goesL_ (some 17) rfl rfl Tryd.func45 (by kernel_rfl) rfl #[.slice A0 l0.length c0] rfl (by (try simp only [List.map_toArray, List.map_cons, List.map_nil]); first | done | rfl | (simp only [List.length_drop, List.length_take]; rfl)) ?_; (with_reducible refine (wicketmanref09_Lines.calls k _ _ l0 t818 t819 t820 _ ?side1 ?side2 A2.out).mono ?_); (case side1 => repeat (first | exact (Kd.V_reads' HO0.out).2.2 | (with_reducible refine Kd.C_alloc ?_ _) | (with_reducible refine Kd.C_drewN ?_ _) | (with_reducible refine Kd.C_drew ?_))); (case side2 => exact (Kd.V_reads' HO0.out).2.1); rintro e w5 ⟨v821, rfl, ho0, hb⟩; refine ⟨_, rfl, ?_⟩; have n0_ := Aside0.mk (Kd.V_elder' (by (with_reducible repeat (first | apply Kd.V_alloc | apply Kd.V_drewN | apply Kd.V_drew)); exact HO0.out) (Kd.R_base ho0) hb); have n1_ := Aside0.mk (Kd.R_lower (Kd.R_newM (M := fun k_ => (w.heap.size ≤ k_)) ho0 (below_size (by repeat (first | (with_reducible first | apply bA | apply bN | apply bD | refine below_set ?_ GE817.out) | exact HB.out))) (fun k_ h_ => h_)) (below_size (by repeat (first | (with_reducible first | apply bA | apply bN | apply bD | refine below_set ?_ GE817.out) | exact HB.out)))); have n2_ := Aside0.mk (blk_below (g := gb817) (o := .cells #[.int .i64 0, .slice none 0 0, .slice none 0 0] 51 (0, 0)) (by (with_reducible repeat (first | refine blk_drewN ?_ _ | refine blk_drew ?_ | refine blk_alloc ?_ _)); exact BK817.out) hb); have n3_ := Aside0.mk (below_step (by repeat (first | (with_reducible first | apply bA | apply bN | apply bD | refine below_set ?_ GE817.out) | exact HB.out)) hb); clear HO0; clear BK817; clear HB; have HO0 := n0_; have HO822 := n1_; have BK817 := n2_; have HB := n3_; clear n0_ n1_ n2_ n3_; (try clear hb); (try clear hb2); (try clear hk); (try clear hi); (try clear ho0)))
 (try simp only [Act.put, List.setIfInBounds_toArray, List.set_cons_zero, List.set_cons_succ])
 go_cut [34] (fun v34 wc => ∃ (kq : Nat) (x34_2 : Bool), v34 = .bool x34_2 ∧ Aside0 (wicketmanref10_Parse.j0 kq l0 t818 t819 x34_2 = some (r1, r2, r3, r4)) ∧ Aside0 (kq ≤ k) ∧ Aside0 (Kd.V (Kd.int .u8) 5 wc w.heap.size (fun k_ => (P0_ k_ ∨ w.heap.size ≤ k_) ∧ some k_ ≠ (v821 : Value).ownBlock ∧ k_ ≠ gb817) (.slice A0 l0.length c0) l0) ∧ Aside0 (Kd.R Kd.string 9 wc w.heap.size (fun k_ => (w.heap.size ≤ k_)) v821 t818) ∧ Aside0 (wc.heap[gb817]? = some (.cells #[.int .i64 0, (.slice none 0 0), (.slice none 0 0)] 51 (0, 0))) ∧ Aside0 (Below w.heap.size w wc))
 case first =>
  have H := HC3.out
  clear HC3
  by_cases c6 : t820 = true
  ·subst c6
   rw [if_pos rfl] at H
   by_cases c7 : (t818.length : Int) < 2
   ·rw [if_pos c7] at H
    have c7b0 : decide ((t818.length : Int) < 2) = true := decide_eq_true c7
    have c7b1 : decide (t818.length < 2) = true := decide_eq_true (by omega)
    clear c7
    (first | rw [c7b0] | (simp only [i64_w, i32_w]; rw [c7b0]) | skip)
    have H' := Aside0.mk H
    clear H
    obtain ⟨Ao8, co8, eo8⟩ := Kd.R_slice HO822.out
    subst eo8
    go_wp2
    go_meet
    case rel => exact ⟨_, (true), (by first | rfl | (simp; done) | (simp [*]; done)), H', ⟨by first | omega | exact Nat.le_refl _⟩, ⟨by (with_reducible repeat (first | apply Kd.V_alloc | apply Kd.V_drewN | apply Kd.V_drew)); exact Kd.V_mono HO0.out (fun _ hk => ⟨hk.1.1, ⟨hk.2, hk.1.2⟩⟩)⟩, ⟨by (with_reducible repeat (first | apply Kd.R_alloc | apply Kd.R_drewN | apply Kd.R_drew)); exact Kd.R_mono HO822.out (fun _ hk => hk.1)⟩, ⟨by (with_reducible repeat (first | refine blk_drewN ?_ _ | refine blk_drew ?_ | refine blk_alloc ?_ _)); exact BK817.out⟩, ⟨by repeat (first | (with_reducible first | apply bA | apply bN | apply bD | refine below_set ?_ GE817.out) | exact HB.out)⟩⟩
   ·rw [if_neg c7] at H
    have c7b0 : decide ((t818.length : Int) < 2) = false := decide_eq_false c7
    have c7b1 : decide (t818.length < 2) = false := decide_eq_false (by omega)
    clear c7
    (first | rw [c7b0] | (simp only [i64_w, i32_w]; rw [c7b0]) | skip)
    by_cases c9 : 0 < (t818.length : Int)
    ·rw [if_pos c9] at H
     have c9b0 : decide (0 < (t818.length : Int)) = true := decide_eq_true c9
     have c9b1 : decide (0 < t818.length) = true := decide_eq_true (by omega)
     clear c9
     have H' := Aside0.mk H
     clear H
     obtain ⟨Ao10, co10, eo10⟩ := Kd.R_slice HO822.out
     subst eo10
     have p823 : 0 ≤ (0 : Int) := (by omega)
     have q823 : 0 < (t818.length : Int) := of_decide_eq_true (by first | (with_reducible assumption) | assumption)
     obtain ⟨ad823, e823, hx823_0⟩ := Kd.at_string (Kd.R_reads' HO822.out).2.2 0 p823 q823
     cases e823
     have qi823 : (0 < t818.length) = True := eq_true (by omega)
     (try rw [show ((0 : Int)).toNat = 0 from rfl] at hx823_0)
     (try rw [Addr.add_zero'] at hx823_0)
     replace p823 := eq_true p823
     replace q823 := eq_true q823
     go_wp2
     go_meet
     case rel => exact ⟨_, (decide (((rdOf ByteArray.empty t818 0).size : Int) < 12)), (by first | rfl | (simp; done) | (simp [*]; done)), H', ⟨by first | omega | exact Nat.le_refl _⟩, ⟨by (with_reducible repeat (first | apply Kd.V_alloc | apply Kd.V_drewN | apply Kd.V_drew)); exact Kd.V_mono HO0.out (fun _ hk => ⟨hk.1.1, ⟨hk.2, hk.1.2⟩⟩)⟩, ⟨by (with_reducible repeat (first | apply Kd.R_alloc | apply Kd.R_drewN | apply Kd.R_drew)); exact Kd.R_mono HO822.out (fun _ hk => hk.1)⟩, ⟨by (with_reducible repeat (first | refine blk_drewN ?_ _ | refine blk_drew ?_ | refine blk_alloc ?_ _)); exact BK817.out⟩, ⟨by repeat (first | (with_reducible first | apply bA | apply bN | apply bD | refine below_set ?_ GE817.out) | exact HB.out)⟩⟩
    ·rw [if_neg c9] at H
     exact absurd H (by simp)
  ·replace c6 := Bool.eq_false_iff.mpr c6
   subst c6
   rw [if_neg (show ¬ (false = true) by decide)] at H
   have H' := Aside0.mk H
   clear H
   go_wp2
   go_meet
   case rel => exact ⟨_, (true), (by first | rfl | (simp; done) | (simp [*]; done)), H', ⟨by first | omega | exact Nat.le_refl _⟩, ⟨by (with_reducible repeat (first | apply Kd.V_alloc | apply Kd.V_drewN | apply Kd.V_drew)); exact Kd.V_mono HO0.out (fun _ hk => ⟨hk.1.1, ⟨hk.2, hk.1.2⟩⟩)⟩, ⟨by (with_reducible repeat (first | apply Kd.R_alloc | apply Kd.R_drewN | apply Kd.R_drew)); exact Kd.R_mono HO822.out (fun _ hk => hk.1)⟩, ⟨by (with_reducible repeat (first | refine blk_drewN ?_ _ | refine blk_drew ?_ | refine blk_alloc ?_ _)); exact BK817.out⟩, ⟨by repeat (first | (with_reducible first | apply bA | apply bN | apply bD | refine below_set ?_ GE817.out) | exact HB.out)⟩⟩
 case rest =>
  clear HC3
  try clear p2
  try clear c4
  try clear c6
  try clear c7
  try clear c7b0
  try clear c7b1
  try clear p8
  try clear q8
  try clear hx8
  try clear qi8
  try clear c9
  try clear c9b0
  try clear c9b1
  try clear hx823_0
  try clear p823
  try clear q823
  obtain ⟨kq, x34_2, rfl, HA, HJ2, HO_0, HO_4, BK817, HB⟩ := hcut
  cases kq with
  | zero => exact absurd HA.out (by simp [wicketmanref10_Parse.j0])
  | succ kj2 =>
   have H := HA.out
   clear HA
   simp only [wicketmanref10_Parse.j0] at H
   by_cases c11 : x34_2 = true
   ·subst c11
    rw [if_pos rfl] at H
    simp only [Option.some.injEq, Prod.mk.injEq] at H
    obtain ⟨rfl, rfl, rfl, rfl⟩ := H
    have hcz12_0 : wc.cell? ⟨gb817, 0, none⟩ = some (.int .i64 0) := (blk_cell BK817.out 0).trans rfl
    have hcz12_1 : wc.cell? ⟨gb817, 1, none⟩ = some (.slice none 0 0) := (blk_cell BK817.out 1).trans rfl
    have hcz12_2 : wc.cell? ⟨gb817, 2, none⟩ = some (.slice none 0 0) := (blk_cell BK817.out 2).trans rfl
    have hfz12_0 := blk_frozen BK817.out 0
    have hfz12_1 := blk_frozen BK817.out 1
    have hfz12_2 := blk_frozen BK817.out 2
    go_wp2
    refine bodyPost_ret (results_ct rfl _ _ gb817 51 #[.int .i64 0, .slice none 0 0, .slice none 0 0] (0, 0) _ rfl (by (with_reducible repeat (first | refine blk_drewN ?_ _ | refine blk_drew ?_ | refine blk_alloc ?_ _)); refine blk_put (cs := #[.int .i64 0, .slice none 0 0, .slice none 0 0]) ?_ 2 _ rfl; (with_reducible repeat (first | refine blk_drewN ?_ _ | refine blk_drew ?_ | refine blk_alloc ?_ _)); refine blk_put (cs := #[.int .i64 0, .slice none 0 0, .slice none 0 0]) ?_ 1 _ rfl; (with_reducible repeat (first | refine blk_drewN ?_ _ | refine blk_drew ?_ | refine blk_alloc ?_ _)); refine blk_put (cs := #[.int .i64 0, .slice none 0 0, .slice none 0 0]) ?_ 0 _ rfl; (with_reducible repeat (first | refine blk_drewN ?_ _ | refine blk_drew ?_ | refine blk_alloc ?_ _)); exact BK817.out) Tryd.underlying51 rfl (by kernel_rfl)) rfl ?_
    exact ⟨_, _, by first | rfl | (simp [errW_none, errW_some] <;> rfl) | (simp [*, errW_none, errW_some] <;> rfl), by first | exact Kd.R_nil _ _ _ _ _ | exact Kd.N_nil _ _ _ _ _ | exact Kd.V_nil _ _ _ _ _ | exact Kd.Q_nil _ _ _ _ _ | exact Kd.S_nil _ _ _ _ _, Kd.V_nil _ _ _ _ _, by repeat (first | (with_reducible first | apply bA | apply bN | apply bD | refine below_set ?_ GE817.out) | exact HB.out)⟩
   ·replace c11 := Bool.eq_false_iff.mpr c11
    subst c11
    rw [if_neg (show ¬ (false = true) by decide)] at H
    by_cases c13 : 0 < (t818.length : Int)
    ·rw [if_pos c13] at H
     have c13b0 : decide (0 < (t818.length : Int)) = true := decide_eq_true c13
     have c13b1 : decide (0 < t818.length) = true := decide_eq_true (by omega)
     clear c13
     by_cases c14 : 9 ≤ 12
     ·rw [if_pos c14] at H
      have c14b0 := eq_true c14
      have c14b1 : decide (9 ≤ 12) = true := decide_eq_true c14
      clear c14
      by_cases c15 : 12 ≤ ((rdOf ByteArray.empty t818 0).size : Int)
      ·rw [if_pos c15] at H
       have c15b0 := eq_true c15
       have c15b1 : decide (12 ≤ ((rdOf ByteArray.empty t818 0).size : Int)) = true := decide_eq_true c15
       clear c15
       replace H := Option.bind_eq_some_iff.mp H
       obtain ⟨⟨t825, t826⟩, A160, H⟩ := H
       try dsimp only at H
       have A16 := Aside0.mk A160
       clear A160
       by_cases c17 : 0 ≤ t819
       ·rw [if_pos c17] at H
        have c17b0 := eq_true c17
        have c17b1 : decide (0 ≤ t819) = true := decide_eq_true c17
        clear c17
        by_cases c18 : t819 ≤ (l0.length : Int)
        ·rw [if_pos c18] at H
         have c18b0 := eq_true c18
         have c18b1 : decide (t819 ≤ (l0.length : Int)) = true := decide_eq_true c18
         clear c18
         obtain ⟨y827, hy827⟩ : ∃ y_ : List Int, y_ = (l0.drop (t819 : Int).toNat) := ⟨_, rfl⟩
         replace H : (wicketmanref10_Parse.l0 kj2 l0 t818 1 t825 ([] : List (S43)) y827) = some (r1, r2, r3, r4) := by first | (rw [hy827]; with_reducible exact H) | (have H2_ := (Option.bind_some _ _).symm.trans H; rw [hy827]; with_reducible exact H2_) | (have H2_ := (Option.bind_some _ _).symm.trans H; with_reducible exact H2_) | with_reducible exact H | (rw [hy827]; exact H) | exact H
         have Ny827 := Aside0.mk hy827
         clear hy827
         have H' := Aside0.mk H
         clear H
         obtain ⟨Ao19, co19, eo19⟩ := Kd.R_slice HO_4.out
         subst eo19
         have p824 : 0 ≤ (0 : Int) := (by omega)
         have q824 : 0 < (t818.length : Int) := of_decide_eq_true (by first | (with_reducible assumption) | assumption)
         obtain ⟨ad824, e824, hx824_0⟩ := Kd.at_string (Kd.R_reads' HO_4.out).2.2 0 p824 q824
         cases e824
         have qi824 : (0 < t818.length) = True := eq_true (by omega)
         (try rw [show ((0 : Int)).toNat = 0 from rfl] at hx824_0)
         (try rw [Addr.add_zero'] at hx824_0)
         replace p824 := eq_true p824
         replace q824 := eq_true q824
         go_wp2_with (first | ((with_reducible refine gate_callee (f := 84) rfl ?_); refine goesL_ (some 41) rfl rfl Tryd.func84 (by kernel_rfl) rfl #[.string ((rdOf ByteArray.empty t818 0).extract 9 12), .int .i64 999] rfl (by (try simp only [List.map_toArray, List.map_cons, List.map_nil]); first | done | rfl | (simp only [List.length_drop, List.length_take]; rfl)) ?_; (with_reducible refine (wicketmanref01_Decimal.calls kj2 ((rdOf ByteArray.empty t818 0).extract 9 12) 999 t825 t826 _ A16.out).mono ?_); rintro e w' ⟨rfl, ⟨nd, rfl⟩⟩; refine ⟨_, rfl, ?_⟩; (try (rw [drewN_self wc]; generalize hq_ : World.drewN wc _ = wc; have n0_ : Aside0 (Kd.V (Kd.int .u8) 5 wc w.heap.size (fun k_ => (P0_ k_ ∨ w.heap.size ≤ k_) ∧ some k_ ≠ (.slice (some ad824) t818.length co19 : Value).ownBlock ∧ k_ ≠ gb817) (.slice A0 l0.length c0) l0) := ⟨by rw [← hq_]; exact (by (with_reducible repeat (first | apply Kd.V_alloc | apply Kd.V_drewN | apply Kd.V_drew)); exact HO_0.out)⟩; have n1_ : Aside0 (Kd.R Kd.string 9 wc w.heap.size (fun k_ => (w.heap.size ≤ k_)) (.slice (some ad824) t818.length co19) t818) := ⟨by rw [← hq_]; exact (by (with_reducible repeat (first | apply Kd.R_alloc | apply Kd.R_drewN | apply Kd.R_drew)); exact HO_4.out)⟩; have n2_ : Aside0 (wc.heap[gb817]? = some (.cells #[.int .i64 0, .slice none 0 0, .slice none 0 0] 51 (0, 0))) := ⟨by rw [← hq_]; exact (by (with_reducible repeat (first | refine blk_drewN ?_ _ | refine blk_drew ?_ | refine blk_alloc ?_ _)); exact BK817.out)⟩; have n3_ : Aside0 (Below w.heap.size w wc) := ⟨by rw [← hq_]; exact (by repeat (first | (with_reducible first | apply bA | apply bN | apply bD | refine below_set ?_ GE817.out) | exact HB.out))⟩; clear HO_0 HO_4 BK817 HB hq_; have HO_0 := n0_; have HO_4 := n1_; have BK817 := n2_; have HB := n3_; clear n0_ n1_ n2_ n3_)); have q20 : (t819 : Int) ≤ ((l0.length : Int) : Int) := of_decide_eq_true (by first | (with_reducible assumption) | assumption); obtain ⟨i020, hi020, _, hsz20, _⟩ := info_parts info5; have hroom20 : l0.length ≤ c0 := (Kd.V_reads' HO_0.out).2.1; have hC20 : Kd.F (Kd.int .u8) _ _ A0 l0.length l0 := (Kd.V_at (base := w.heap.size) HO_0.out).2.2; have q020 : (0 : Int) ≤ (t819 : Int) := of_decide_eq_true (by first | (with_reducible assumption) | assumption); have hcut20 := cut_from (P := Tryd.prog) 22 5 .i64 Tryd.underlying22 hi020 1 hsz20 A0 l0.length c0 t819 q020 q20; have hr20 := Kd.F_cut (m := (t819 : Int).toNat) (c := c0) hC20 (by omega) hroom20; obtain ⟨A20, hA20⟩ : ∃ A1, A1 = (if c0 = (t819 : Int).toNat then A0 else (A0 : Option Addr).map (·.add ((t819 : Int).toNat * 1))) := ⟨_, rfl⟩; obtain ⟨c20, hc20⟩ : ∃ c1, c1 = c0 - (t819 : Int).toNat := ⟨_, rfl⟩; have hy20 : y827.length = l0.length - (t819 : Int).toNat := (by rw [Ny827.out, List.length_drop] <;> omega); rw [show (l0).drop (t819 : Int).toNat = y827 from Ny827.out.symm] at hr20; replace hr20 : Kd.F (Kd.int .u8) _ _ A20 y827.length y827 := (by rw [hA20]; exact hr20); rw [← hy20, ← hA20, ← hc20] at hcut20; have HO831 := Aside0.mk (show Kd.V (Kd.int .u8) 5 _ w.heap.size _ (.slice A20 y827.length c20) y827 from Kd.V_mk (by rw [hy20, hc20]; exact Nat.sub_le_sub_right hroom20 _) hr20); have HC831 := Aside0.mk (show y827.length ≤ c20 from by rw [hy20, hc20]; exact Nat.sub_le_sub_right hroom20 _); clear hr20 hC20 hroom20 hi020 hsz20 hc20; have KY20 := Aside0.mk hy20; have KA20 := Aside0.mk hA20; clear hy20 hA20; replace q20 := eq_true q20) | ((with_reducible refine gate_dst (N := 9) rfl ?_); (try (refine gate_guard (by rfl) ?_; dsimp only)); refine box_event ?hg (N := 9) ?hd (cs := #[.int .i64 0, .slice none 0 0, .slice none 0 0]) (t := 51) ?hr ?_; (case hd => rfl); (case hg => rfl); (case hr => first | (go_simp; done) | (go_simp; rfl)); intro gb832 hg w21 hbox hb; have n0_ := Aside0.mk (Kd.V_below (Kd.V_elderB (by (with_reducible repeat (first | apply Kd.V_alloc | apply Kd.V_drewN | apply Kd.V_drew)); exact HO_0.out) gb832 (Nat.le_of_eq hg.symm)) hb); have n1_ := Aside0.mk (Kd.R_below (by (with_reducible repeat (first | apply Kd.R_alloc | apply Kd.R_drewN | apply Kd.R_drew)); exact HO_4.out) hb); have n2_ := Aside0.mk (Kd.V_below (Kd.V_elderB (by (with_reducible repeat (first | apply Kd.V_alloc | apply Kd.V_drewN | apply Kd.V_drew)); exact HO831.out) gb832 (Nat.le_of_eq hg.symm)) hb); have n3_ := Aside0.mk (blk_below (g := gb817) (o := .cells #[.int .i64 0, .slice none 0 0, .slice none 0 0] 51 (0, 0)) (by (with_reducible repeat (first | refine blk_drewN ?_ _ | refine blk_drew ?_ | refine blk_alloc ?_ _)); exact BK817.out) hb); have n4_ := Aside0.mk (below_step (by repeat (first | (with_reducible first | apply bA | apply bN | apply bD | refine below_set ?_ GE817.out) | exact HB.out)) hb); have n5_ := Aside0.mk (hbox); have n6_ := Aside0.mk ((by rw [hg]; exact (below_size (by repeat (first | (with_reducible first | apply bA | apply bN | apply bD | refine below_set ?_ GE817.out) | exact HB.out))) : w.heap.size ≤ gb832)); have n7_ := Aside0.mk ((by rw [hg]; exact (below_size (by repeat (first | (with_reducible first | apply bA | apply bN | apply bD | refine below_set ?_ GE817.out) | exact HB.out))) : w.heap.size ≤ gb832)); have n8_ := Aside0.mk ((by rw [hg]; exact Nat.ne_of_lt (blk_lt (g := gb817) (o := .cells #[.int .i64 0, .slice none 0 0, .slice none 0 0] 51 (0, 0)) (by (with_reducible repeat (first | refine blk_drewN ?_ _ | refine blk_drew ?_ | refine blk_alloc ?_ _)); exact BK817.out)) : gb817 ≠ gb832)); have n9_ := Aside0.mk ((by rw [hg]; exact Nat.ne_of_gt (blk_lt (g := gb817) (o := .cells #[.int .i64 0, .slice none 0 0, .slice none 0 0] 51 (0, 0)) (by (with_reducible repeat (first | refine blk_drewN ?_ _ | refine blk_drew ?_ | refine blk_alloc ?_ _)); exact BK817.out)) : gb832 ≠ gb817)); clear HO_0; clear HO_4; clear HO831; clear BK817; clear HB; have HO_0 := n0_; have HO_4 := n1_; have HO831 := n2_; have BK817 := n3_; have HB := n4_; have BK832 := n5_; have GW832 := n6_; have GE832 := n7_; have NB817_832 := n8_; have NB832_817 := n9_; clear n0_ n1_ n2_ n3_ n4_ n5_ n6_ n7_ n8_ n9_; clear hb hbox hg; have hnb22 := NB832_817.out; have hnc22 := NB817_832.out; have hcz23_0 : w21.cell? ⟨gb832, 0, none⟩ = some (.int .i64 0) := (blk_cell BK832.out 0).trans rfl; have hcz23_1 : w21.cell? ⟨gb832, 1, none⟩ = some (.slice none 0 0) := (blk_cell BK832.out 1).trans rfl; have hcz23_2 : w21.cell? ⟨gb832, 2, none⟩ = some (.slice none 0 0) := (blk_cell BK832.out 2).trans rfl; have hfz23_0 := blk_frozen BK832.out 0; have hfz23_1 := blk_frozen BK832.out 1; have hfz23_2 := blk_frozen BK832.out 2))
         go_loopg [10] kj2 (fun kq v10 w' => ∃ (x10_2 : Int) (x818000_2 : Int) (x833001_2 : List (S43)) (u833001 : Value), v10 = .int .i64 x10_2 ∧ Aside0 (wicketmanref10_Parse.l0 kq l0 t818 x10_2 t825 x833001_2 y827 = some (r1, r2, r3, r4)) ∧ Aside0 (kq ≤ kj2) ∧ Aside0 (Kd.V (Kd.int .u8) 5 w' w.heap.size (fun k_ => (P0_ k_ ∨ w.heap.size ≤ k_) ∧ some k_ ≠ ((.slice (some ad824) t818.length co19) : Value).ownBlock ∧ some k_ ≠ (u833001 : Value).ownBlock ∧ k_ ≠ gb817 ∧ k_ ≠ gb832) (.slice A0 l0.length c0) l0) ∧ Aside0 (Kd.R Kd.string 9 w' w.heap.size (fun k_ => (w.heap.size ≤ k_)) (.slice (some ad824) t818.length co19) t818) ∧ Aside0 (Kd.R k43 43 w' w.heap.size (fun k_ => (w.heap.size ≤ k_)) u833001 x833001_2) ∧ Aside0 (Kd.V (Kd.int .u8) 5 w' w.heap.size (fun k_ => (P0_ k_ ∨ w.heap.size ≤ k_) ∧ some k_ ≠ ((.slice (some ad824) t818.length co19) : Value).ownBlock ∧ some k_ ≠ (u833001 : Value).ownBlock ∧ k_ ≠ gb817 ∧ k_ ≠ gb832) (.slice A20 y827.length c20) y827) ∧ Aside0 (w'.heap[gb817]? = some (.cells #[.int .i64 x818000_2, (.slice none 0 0), (.slice none 0 0)] 51 (0, 0))) ∧ Aside0 (w'.heap[gb832]? = some (.cells #[.int .i64 t825, u833001, (.slice A20 y827.length c20)] 51 (0, 0))) ∧ Aside0 (Below w.heap.size w w'))
         case atStart => exact ⟨(1), (0), (([] : List (S43))), (.slice none 0 0), (by first | rfl | (simp; done) | (simp [*]; done)), H', ⟨Nat.le_refl _⟩, ⟨by (with_reducible repeat (first | apply Kd.V_alloc | apply Kd.V_drewN | apply Kd.V_drew)); exact Kd.V_mono (Kd.V_far (p := ⟨gb832, 2, none⟩) (Kd.V_far (p := ⟨gb832, 1, none⟩) (Kd.V_far (p := ⟨gb832, 0, none⟩) (Kd.V_mono HO_0.out (fun k_ hk => (⟨hk, hk.2⟩ : _ ∧ k_ ≠ gb832))) (fun _ hk => hk.2) (.int .i64 t825)) (fun _ hk => hk.2) (.slice none 0 0)) (fun _ hk => hk.2) (.slice A20 y827.length c20)) (fun _ hk => ⟨hk.1.1.1, ⟨hk.1.1.2.1, ⟨(by simp [Value.ownBlock]), ⟨hk.1.1.2.2, hk.1.2⟩⟩⟩⟩)⟩, ⟨by (with_reducible repeat (first | apply Kd.R_alloc | apply Kd.R_drewN | apply Kd.R_drew)); exact Kd.R_mono (Kd.R_far (p := ⟨gb832, 2, none⟩) (Kd.R_far (p := ⟨gb832, 1, none⟩) (Kd.R_far (p := ⟨gb832, 0, none⟩) (Kd.R_types HO_4.out BK832.out (by decide)) (fun _ hk => hk.2) (.int .i64 t825)) (fun _ hk => hk.2) (.slice none 0 0)) (fun _ hk => hk.2) (.slice A20 y827.length c20)) (fun _ hk => hk.1)⟩, ⟨by first | exact Kd.R_nil _ _ _ _ _ | exact Kd.N_nil _ _ _ _ _ | exact Kd.V_nil _ _ _ _ _ | exact Kd.Q_nil _ _ _ _ _ | exact Kd.S_nil _ _ _ _ _⟩, ⟨by (with_reducible repeat (first | apply Kd.V_alloc | apply Kd.V_drewN | apply Kd.V_drew)); exact Kd.V_mono (Kd.V_far (p := ⟨gb832, 2, none⟩) (Kd.V_far (p := ⟨gb832, 1, none⟩) (Kd.V_far (p := ⟨gb832, 0, none⟩) (Kd.V_mono HO831.out (fun k_ hk => (⟨hk, hk.2⟩ : _ ∧ k_ ≠ gb832))) (fun _ hk => hk.2) (.int .i64 t825)) (fun _ hk => hk.2) (.slice none 0 0)) (fun _ hk => hk.2) (.slice A20 y827.length c20)) (fun _ hk => ⟨hk.1.1.1, ⟨hk.1.1.2.1, ⟨(by simp [Value.ownBlock]), ⟨hk.1.1.2.2, hk.1.2⟩⟩⟩⟩)⟩, ⟨by (with_reducible repeat (first | refine blk_drewN ?_ _ | refine blk_drew ?_ | refine blk_alloc ?_ _)); refine blk_far ?_ NB817_832.out _; (with_reducible repeat (first | refine blk_drewN ?_ _ | refine blk_drew ?_ | refine blk_alloc ?_ _)); refine blk_far ?_ NB817_832.out _; (with_reducible repeat (first | refine blk_drewN ?_ _ | refine blk_drew ?_ | refine blk_alloc ?_ _)); refine blk_far ?_ NB817_832.out _; (with_reducible repeat (first | refine blk_drewN ?_ _ | refine blk_drew ?_ | refine blk_alloc ?_ _)); exact BK817.out⟩, ⟨by (with_reducible repeat (first | refine blk_drewN ?_ _ | refine blk_drew ?_ | refine blk_alloc ?_ _)); refine blk_put (cs := #[.int .i64 t825, .slice none 0 0, .slice none 0 0]) ?_ 2 _ rfl; (with_reducible repeat (first | refine blk_drewN ?_ _ | refine blk_drew ?_ | refine blk_alloc ?_ _)); refine blk_put (cs := #[.int .i64 t825, .slice none 0 0, .slice none 0 0]) ?_ 1 _ rfl; (with_reducible repeat (first | refine blk_drewN ?_ _ | refine blk_drew ?_ | refine blk_alloc ?_ _)); refine blk_put (cs := #[.int .i64 0, .slice none 0 0, .slice none 0 0]) ?_ 0 _ rfl; (with_reducible repeat (first | refine blk_drewN ?_ _ | refine blk_drew ?_ | refine blk_alloc ?_ _)); exact BK832.out⟩, ⟨by repeat (first | (with_reducible first | apply bA | apply bN | apply bD | refine below_set ?_ GE817.out | refine below_set ?_ GE832.out) | exact HB.out)⟩⟩
         case round =>
          clear H'
          try clear c1
          try clear c2
          try clear p2
          try clear q2
          try clear c4
          try clear c6
          try clear c7
          try clear c7b0
          try clear c7b1
          try clear c8
          try clear p8
          try clear q8
          try clear hx8
          try clear qi8
          try clear c9
          try clear c9b0
          try clear c9b1
          try clear c11
          try clear c13
          try clear c13b0
          try clear c13b1
          try clear c14
          try clear c14b0
          try clear c14b1
          try clear c15
          try clear c15b0
          try clear c15b1
          try clear c17
          try clear c17b0
          try clear c17b1
          try clear c18
          try clear c18b0
          try clear c18b1
          try clear c20
          try clear q20
          try clear c22
          try clear hcz12_0
          try clear hcz12_1
          try clear hcz12_2
          try clear hcz23_0
          try clear hcz23_1
          try clear hcz23_2
          try clear hfz12_0
          try clear hfz12_1
          try clear hfz12_2
          try clear hfz23_0
          try clear hfz23_1
          try clear hfz23_2
          try clear hx823_0
          try clear hx824_0
          try clear p2
          try clear p8
          try clear p823
          try clear p824
          try clear q020
          try clear q20
          try clear q8
          try clear q823
          try clear q824
          obtain ⟨x10_2, x818000_2, x833001_2, u833001, rfl, HA, HK2, HO_0, HO_4, HO_833001, HO_833002, BK817, BK832, HB⟩ := hrel
          cases gk with
          | zero => exact absurd HA.out (by simp [wicketmanref10_Parse.l0])
          | succ k2 =>
           have H := HA.out
           clear HA
           simp only [wicketmanref10_Parse.l0] at H
           by_cases c24 : x10_2 < (wrap64 ((t818.length : Int) - 1))
           ·rw [if_pos c24] at H
            have c24b0 : decide (x10_2 < (wrap64 ((t818.length : Int) - 1))) = true := decide_eq_true c24
            clear c24
            by_cases c25 : 0 ≤ x10_2
            ·rw [if_pos c25] at H
             have c25b0 : decide (0 ≤ x10_2) = true := decide_eq_true c25
             clear c25
             by_cases c26 : x10_2 < (t818.length : Int)
             ·rw [if_pos c26] at H
              have c26b0 : decide (x10_2 < (t818.length : Int)) = true := decide_eq_true c26
              clear c26
              replace H := Option.bind_eq_some_iff.mp H
              obtain ⟨⟨t834, t835, t836⟩, A270, H⟩ := H
              try dsimp only at H
              have A27 := Aside0.mk A270
              clear A270
              by_cases c28 : t836 = 0
              ·rw [if_pos c28] at H
               have c28b0 : (t836 == 0) = true := beq_iff_eq.mpr c28
               have c28b1 : (t836 != 0) = false := bne_eq_false_iff_eq.mpr c28
               clear c28
               by_cases c29 : x833001_2.length < 4398046511104
               ·rw [if_pos c29] at H
                have LMc29 := Aside0.mk c29
                clear c29
                obtain ⟨y838, hy838⟩ : ∃ y_ : List (S43), y_ = (x833001_2 ++ [(⟨t834, t835⟩ : S43)]) := ⟨_, rfl⟩
                replace H : (wicketmanref10_Parse.l0 k2 l0 t818 (wrap64 (x10_2 + 1)) t825 y838 y827) = some (r1, r2, r3, r4) := by first | (rw [hy838]; with_reducible exact H) | (have H2_ := (Option.bind_some _ _).symm.trans H; rw [hy838]; with_reducible exact H2_) | (have H2_ := (Option.bind_some _ _).symm.trans H; with_reducible exact H2_) | with_reducible exact H | (rw [hy838]; exact H) | exact H
                have Ny838 := Aside0.mk hy838
                clear hy838
                have H' := Aside0.mk H
                clear H
                have p833 : 0 ≤ (x10_2 : Int) := of_decide_eq_true (by first | (with_reducible assumption) | assumption)
                have q833 : x10_2 < (t818.length : Int) := of_decide_eq_true (by first | (with_reducible assumption) | assumption)
                obtain ⟨ad833, e833, hx833_0⟩ := Kd.at_string (Kd.R_reads' HO_4.out).2.2 x10_2 p833 q833
                obtain rfl : ad824 = ad833 := (by injection e833)
                replace p833 := eq_true p833
                replace q833 := eq_true q833
                go_wp2_with (first | ((with_reducible refine gate_callee (f := 85) rfl ?_); refine goesL_ (some 61) rfl rfl Tryd.func85 (by kernel_rfl) rfl #[.string (rdOf ByteArray.empty t818 x10_2)] rfl (by (try simp only [List.map_toArray, List.map_cons, List.map_nil]); first | done | rfl | (simp only [List.length_drop, List.length_take]; rfl)) ?_; (with_reducible refine (wicketmanref08_Field.calls k2 (rdOf ByteArray.empty t818 x10_2) t834 t835 t836 _ A27.out).mono ?_); rintro e w30 ⟨rfl, hb⟩; refine ⟨_, rfl, ?_⟩; have n0_ := Aside0.mk (Kd.V_below (by (with_reducible repeat (first | apply Kd.V_alloc | apply Kd.V_drewN | apply Kd.V_drew)); exact HO_0.out) hb); have n1_ := Aside0.mk (Kd.R_below (by (with_reducible repeat (first | apply Kd.R_alloc | apply Kd.R_drewN | apply Kd.R_drew)); exact HO_4.out) hb); have n2_ := Aside0.mk (Kd.R_below (by (with_reducible repeat (first | apply Kd.R_alloc | apply Kd.R_drewN | apply Kd.R_drew)); exact HO_833001.out) hb); have n3_ := Aside0.mk (Kd.V_below (by (with_reducible repeat (first | apply Kd.V_alloc | apply Kd.V_drewN | apply Kd.V_drew)); exact HO_833002.out) hb); have n4_ := Aside0.mk (blk_below (g := gb817) (o := .cells #[.int .i64 x818000_2, .slice none 0 0, .slice none 0 0] 51 (0, 0)) (by (with_reducible repeat (first | refine blk_drewN ?_ _ | refine blk_drew ?_ | refine blk_alloc ?_ _)); exact BK817.out) hb); have n5_ := Aside0.mk (blk_below (g := gb832) (o := .cells #[.int .i64 t825, u833001, .slice A20 y827.length c20] 51 (0, 0)) (by (with_reducible repeat (first | refine blk_drewN ?_ _ | refine blk_drew ?_ | refine blk_alloc ?_ _)); exact BK832.out) hb); have n6_ := Aside0.mk (below_step (by repeat (first | (with_reducible first | apply bA | apply bN | apply bD | refine below_set ?_ GE817.out | refine below_set ?_ GE832.out) | exact HB.out)) hb); clear HO_0; clear HO_4; clear HO_833001; clear HO_833002; clear BK817; clear BK832; clear HB; have HO_0 := n0_; have HO_4 := n1_; have HO_833001 := n2_; have HO_833002 := n3_; have BK817 := n4_; have BK832 := n5_; have HB := n6_; clear n0_ n1_ n2_ n3_ n4_ n5_ n6_; (try clear hb); (try clear hb2); (try clear hk); (try clear hi)) | ((with_reducible refine gate_dst (N := 11) rfl ?_); (try (refine gate_guard (by rfl) ?_; dsimp only)); refine box_event ?hg (N := 11) ?hd (cs := #[.string (⟨#[]⟩ : ByteArray), .string (⟨#[]⟩ : ByteArray)]) (t := 43) ?hr ?_; (case hd => rfl); (case hg => rfl); (case hr => first | (go_simp; done) | (go_simp; rfl)); intro gb837 hg w31 hbox hb; have n0_ := Aside0.mk (Kd.V_below (Kd.V_elderB (by (with_reducible repeat (first | apply Kd.V_alloc | apply Kd.V_drewN | apply Kd.V_drew)); exact HO_0.out) gb837 (Nat.le_of_eq hg.symm)) hb); have n1_ := Aside0.mk (Kd.R_below (by (with_reducible repeat (first | apply Kd.R_alloc | apply Kd.R_drewN | apply Kd.R_drew)); exact HO_4.out) hb); have n2_ := Aside0.mk (Kd.R_below (Kd.R_elderB (by (with_reducible repeat (first | apply Kd.R_alloc | apply Kd.R_drewN | apply Kd.R_drew)); exact HO_833001.out) gb837 (Nat.le_of_eq hg.symm)) hb); have n3_ := Aside0.mk (Kd.V_below (Kd.V_elderB (by (with_reducible repeat (first | apply Kd.V_alloc | apply Kd.V_drewN | apply Kd.V_drew)); exact HO_833002.out) gb837 (Nat.le_of_eq hg.symm)) hb); have n4_ := Aside0.mk (blk_below (g := gb817) (o := .cells #[.int .i64 x818000_2, .slice none 0 0, .slice none 0 0] 51 (0, 0)) (by (with_reducible repeat (first | refine blk_drewN ?_ _ | refine blk_drew ?_ | refine blk_alloc ?_ _)); exact BK817.out) hb); have n5_ := Aside0.mk (blk_below (g := gb832) (o := .cells #[.int .i64 t825, u833001, .slice A20 y827.length c20] 51 (0, 0)) (by (with_reducible repeat (first | refine blk_drewN ?_ _ | refine blk_drew ?_ | refine blk_alloc ?_ _)); exact BK832.out) hb); have n6_ := Aside0.mk (below_step (by repeat (first | (with_reducible first | apply bA | apply bN | apply bD | refine below_set ?_ GE817.out | refine below_set ?_ GE832.out) | exact HB.out)) hb); have n7_ := Aside0.mk (hbox); have n8_ := Aside0.mk ((by rw [hg]; exact (below_size (by repeat (first | (with_reducible first | apply bA | apply bN | apply bD | refine below_set ?_ GE817.out | refine below_set ?_ GE832.out) | exact HB.out))) : w.heap.size ≤ gb837)); have n9_ := Aside0.mk ((by rw [hg]; exact (below_size (by repeat (first | (with_reducible first | apply bA | apply bN | apply bD | refine below_set ?_ GE817.out | refine below_set ?_ GE832.out) | exact HB.out))) : w.heap.size ≤ gb837)); have n10_ := Aside0.mk ((by rw [hg]; exact Nat.ne_of_lt (blk_lt (g := gb817) (o := .cells #[.int .i64 x818000_2, .slice none 0 0, .slice none 0 0] 51 (0, 0)) (by (with_reducible repeat (first | refine blk_drewN ?_ _ | refine blk_drew ?_ | refine blk_alloc ?_ _)); exact BK817.out)) : gb817 ≠ gb837)); have n11_ := Aside0.mk ((by rw [hg]; exact Nat.ne_of_gt (blk_lt (g := gb817) (o := .cells #[.int .i64 x818000_2, .slice none 0 0, .slice none 0 0] 51 (0, 0)) (by (with_reducible repeat (first | refine blk_drewN ?_ _ | refine blk_drew ?_ | refine blk_alloc ?_ _)); exact BK817.out)) : gb837 ≠ gb817)); have n12_ := Aside0.mk ((by rw [hg]; exact Nat.ne_of_lt (blk_lt (g := gb832) (o := .cells #[.int .i64 t825, u833001, .slice A20 y827.length c20] 51 (0, 0)) (by (with_reducible repeat (first | refine blk_drewN ?_ _ | refine blk_drew ?_ | refine blk_alloc ?_ _)); exact BK832.out)) : gb832 ≠ gb837)); have n13_ := Aside0.mk ((by rw [hg]; exact Nat.ne_of_gt (blk_lt (g := gb832) (o := .cells #[.int .i64 t825, u833001, .slice A20 y827.length c20] 51 (0, 0)) (by (with_reducible repeat (first | refine blk_drewN ?_ _ | refine blk_drew ?_ | refine blk_alloc ?_ _)); exact BK832.out)) : gb837 ≠ gb832)); clear HO_0; clear HO_4; clear HO_833001; clear HO_833002; clear BK817; clear BK832; clear HB; have HO_0 := n0_; have HO_4 := n1_; have HO_833001 := n2_; have HO_833002 := n3_; have BK817 := n4_; have BK832 := n5_; have HB := n6_; have BK837 := n7_; have GW837 := n8_; have GE837 := n9_; have NB817_837 := n10_; have NB837_817 := n11_; have NB832_837 := n12_; have NB837_832 := n13_; clear n0_ n1_ n2_ n3_ n4_ n5_ n6_ n7_ n8_ n9_ n10_ n11_ n12_ n13_; clear hb hbox hg; have hnb32 := NB837_817.out; have hnc32 := NB817_837.out; have hnb33 := NB837_832.out; have hnc33 := NB832_837.out; have hcz34_0 : w31.cell? ⟨gb837, 0, none⟩ = some (.string (⟨#[]⟩ : ByteArray)) := (blk_cell BK837.out 0).trans rfl; have hcz34_1 : w31.cell? ⟨gb837, 1, none⟩ = some (.string (⟨#[]⟩ : ByteArray)) := (blk_cell BK837.out 1).trans rfl; have hfz34_0 := blk_frozen BK837.out 0; have hfz34_1 := blk_frozen BK837.out 1; have hnb35 := NB832_817.out; have hnc35 := NB817_832.out; have hcz36_0 : w31.cell? ⟨gb832, 0, none⟩ = some (.int .i64 t825) := (blk_cell BK832.out 0).trans rfl; have hcz36_1 : w31.cell? ⟨gb832, 1, none⟩ = some (u833001) := (blk_cell BK832.out 1).trans rfl; have hcz36_2 : w31.cell? ⟨gb832, 2, none⟩ = some (.slice A20 y827.length c20) := (blk_cell BK832.out 2).trans rfl; have hfz36_0 := blk_frozen BK832.out 0; have hfz36_1 := blk_frozen BK832.out 1; have hfz36_2 := blk_frozen BK832.out 2) | ((with_reducible refine gate_builtin (b := .append) (xs := #[.tmp 68, .tmp 70]) rfl ?_); (try (refine gate_guard (by rfl) ?_; dsimp only)); at_builtin; refine Kd.R_append k43 (w0 := w) w.heap.size rfl (.tmp 68) (.tmp 70) 34 43 (.agg #[(.string ⟨#[]⟩), (.string ⟨#[]⟩)]) 32 rfl Tryd.underlying34 info43 rfl (by decide) (by omega) u833001 x833001_2 (⟨t834, t835⟩ : S43) [.string t834, .string t835] (fun k_ => (w.heap.size ≤ k_) ∧ k_ ≠ gb837) (fun _ => False) rfl (by first | (go_simp; done) | (go_simp; rfl)) ?aP (fun _ hk => hk.elim) ?aF ?aO ?aB ?aS ?aL ?_; (case aP => exact k43_mkM _ _ _ (⟨t834, t835⟩ : S43)); (case aB => exact (by repeat (first | (with_reducible first | apply bA | apply bN | apply bD | refine below_set ?_ GE817.out | refine below_set ?_ GE832.out | refine below_set ?_ GE837.out) | exact HB.out))); (case aF => exact (fun k_ hk => ⟨(Nat.le_trans (below_size (by repeat (first | (with_reducible first | apply bA | apply bN | apply bD | refine below_set ?_ GE817.out | refine below_set ?_ GE832.out | refine below_set ?_ GE837.out) | exact HB.out))) hk), Kd.freshB (g := gb837) (o := .cells #[.string t834, .string t835] 43 (0, 0)) (by (with_reducible repeat (first | refine blk_drewN ?_ _ | refine blk_drew ?_ | refine blk_alloc ?_ _)); refine blk_put (cs := #[.string t834, .string (⟨#[]⟩ : ByteArray)]) ?_ 1 _ rfl; (with_reducible repeat (first | refine blk_drewN ?_ _ | refine blk_drew ?_ | refine blk_alloc ?_ _)); refine blk_put (cs := #[.string (⟨#[]⟩ : ByteArray), .string (⟨#[]⟩ : ByteArray)]) ?_ 0 _ rfl; (with_reducible repeat (first | refine blk_drewN ?_ _ | refine blk_drew ?_ | refine blk_alloc ?_ _)); exact BK837.out) k_ hk⟩)); (case aO => exact (by (with_reducible repeat (first | apply Kd.R_alloc | apply Kd.R_drewN | apply Kd.R_drew)); exact Kd.R_mono (Kd.R_far (p := ⟨gb837, 1, none⟩) (Kd.R_far (p := ⟨gb837, 0, none⟩) (Kd.R_mono HO_833001.out (fun k_ hk => (⟨hk, hk.2⟩ : _ ∧ k_ ≠ gb837))) (fun _ hk => hk.2) (.string t834)) (fun _ hk => hk.2) (.string t835)) (fun _ hk => ⟨hk.1.1, hk.1.2⟩))); (case aS => exact (below_size (by repeat (first | (with_reducible first | apply bA | apply bN | apply bD | refine below_set ?_ GE817.out | refine below_set ?_ GE832.out | refine below_set ?_ GE837.out) | exact HB.out)))); (case aL => have := LMc29.out; omega); intro v839 w37 ho hb hg hat; rw [← Ny838.out] at ho; have n0_ := Aside0.mk (Kd.V_afterv (ok := (fun k_ => (P0_ k_ ∨ w.heap.size ≤ k_) ∧ some k_ ≠ (.slice (some ad824) t818.length co19 : Value).ownBlock ∧ k_ ≠ gb817 ∧ k_ ≠ gb832 ∧ k_ ≠ gb837)) (by (with_reducible repeat (first | apply Kd.V_alloc | apply Kd.V_drewN | apply Kd.V_drew)); exact Kd.V_mono (Kd.V_far (p := ⟨gb837, 1, none⟩) (Kd.V_far (p := ⟨gb837, 0, none⟩) (Kd.V_mono HO_0.out (fun k_ hk => (⟨hk, hk.2⟩ : _ ∧ k_ ≠ gb837))) (fun _ hk => hk.2) (.string t834)) (fun _ hk => hk.2) (.string t835)) (fun _ hk => ⟨⟨hk.1.1.1, ⟨hk.1.1.2.1, ⟨hk.1.1.2.2.2.1, ⟨hk.1.1.2.2.2.2, hk.1.2⟩⟩⟩⟩, hk.1.1.2.2.1⟩)) hg hat); have n1_ := Aside0.mk (Kd.R_over' (by (with_reducible repeat (first | apply Kd.R_alloc | apply Kd.R_drewN | apply Kd.R_drew)); exact (Kd.R_mono (Kd.R_far (p := ⟨gb837, 1, none⟩) (Kd.R_far (p := ⟨gb837, 0, none⟩) (Kd.R_types HO_4.out BK837.out (by decide)) (fun _ hk => hk.2) (.string t834)) (fun _ hk => hk.2) (.string t835)) (fun _ h_ => h_.1))) (Kd.R_typed (by (with_reducible repeat (first | apply Kd.R_alloc | apply Kd.R_drewN | apply Kd.R_drew)); exact (Kd.R_mono (Kd.R_far (p := ⟨gb837, 1, none⟩) (Kd.R_far (p := ⟨gb837, 0, none⟩) (Kd.R_mono HO_833001.out (fun k_ hk => (⟨hk, hk.2⟩ : _ ∧ k_ ≠ gb837))) (fun _ hk => hk.2) (.string t834)) (fun _ hk => hk.2) (.string t835)) (fun _ h_ => h_.1)))) (by decide) hg); have n2_ := Aside0.mk (Kd.V_afterv (ok := (fun k_ => (P0_ k_ ∨ w.heap.size ≤ k_) ∧ some k_ ≠ (.slice (some ad824) t818.length co19 : Value).ownBlock ∧ k_ ≠ gb817 ∧ k_ ≠ gb832 ∧ k_ ≠ gb837)) (by (with_reducible repeat (first | apply Kd.V_alloc | apply Kd.V_drewN | apply Kd.V_drew)); exact Kd.V_mono (Kd.V_far (p := ⟨gb837, 1, none⟩) (Kd.V_far (p := ⟨gb837, 0, none⟩) (Kd.V_mono HO_833002.out (fun k_ hk => (⟨hk, hk.2⟩ : _ ∧ k_ ≠ gb837))) (fun _ hk => hk.2) (.string t834)) (fun _ hk => hk.2) (.string t835)) (fun _ hk => ⟨⟨hk.1.1.1, ⟨hk.1.1.2.1, ⟨hk.1.1.2.2.2.1, ⟨hk.1.1.2.2.2.2, hk.1.2⟩⟩⟩⟩, hk.1.1.2.2.1⟩)) hg hat); have n3_ := Aside0.mk (blk_grown (g := gb817) (o := .cells #[.int .i64 x818000_2, .slice none 0 0, .slice none 0 0] 51 (0, 0)) (by (with_reducible repeat (first | refine blk_drewN ?_ _ | refine blk_drew ?_ | refine blk_alloc ?_ _)); refine blk_far ?_ NB817_837.out _; (with_reducible repeat (first | refine blk_drewN ?_ _ | refine blk_drew ?_ | refine blk_alloc ?_ _)); refine blk_far ?_ NB817_837.out _; (with_reducible repeat (first | refine blk_drewN ?_ _ | refine blk_drew ?_ | refine blk_alloc ?_ _)); exact BK817.out) hg (Kd.R_ne HO_833001.out BK817.out (by decide))); have n4_ := Aside0.mk (blk_grown (g := gb832) (o := .cells #[.int .i64 t825, u833001, .slice A20 y827.length c20] 51 (0, 0)) (by (with_reducible repeat (first | refine blk_drewN ?_ _ | refine blk_drew ?_ | refine blk_alloc ?_ _)); refine blk_far ?_ NB832_837.out _; (with_reducible repeat (first | refine blk_drewN ?_ _ | refine blk_drew ?_ | refine blk_alloc ?_ _)); refine blk_far ?_ NB832_837.out _; (with_reducible repeat (first | refine blk_drewN ?_ _ | refine blk_drew ?_ | refine blk_alloc ?_ _)); exact BK832.out) hg (Kd.R_ne HO_833001.out BK832.out (by decide))); have n5_ := Aside0.mk (blk_grown (g := gb837) (o := .cells #[.string t834, .string t835] 43 (0, 0)) (by (with_reducible repeat (first | refine blk_drewN ?_ _ | refine blk_drew ?_ | refine blk_alloc ?_ _)); refine blk_put (cs := #[.string t834, .string (⟨#[]⟩ : ByteArray)]) ?_ 1 _ rfl; (with_reducible repeat (first | refine blk_drewN ?_ _ | refine blk_drew ?_ | refine blk_alloc ?_ _)); refine blk_put (cs := #[.string (⟨#[]⟩ : ByteArray), .string (⟨#[]⟩ : ByteArray)]) ?_ 0 _ rfl; (with_reducible repeat (first | refine blk_drewN ?_ _ | refine blk_drew ?_ | refine blk_alloc ?_ _)); exact BK837.out) hg (Kd.R_away HO_833001.out (fun _ hk => hk.2))); have n6_ := Aside0.mk (hb); have n7_ := Aside0.mk (ho); clear HO_0; clear HO_4; clear HO_833002; clear BK817; clear BK832; clear BK837; clear HB; clear HO_833001; have HO_0 := n0_; have HO_4 := n1_; have HO_833002 := n2_; have BK817 := n3_; have BK832 := n4_; have BK837 := n5_; have HB := n6_; have HO840 := n7_; clear n0_ n1_ n2_ n3_ n4_ n5_ n6_ n7_; clear ho hb hg hat; obtain ⟨Ao38, co38, eo38⟩ := Kd.R_slice HO840.out; subst eo38; have hcz39_0 : w37.cell? ⟨gb832, 0, none⟩ = some (.int .i64 t825) := (blk_cell BK832.out 0).trans rfl; have hcz39_1 : w37.cell? ⟨gb832, 1, none⟩ = some (u833001) := (blk_cell BK832.out 1).trans rfl; have hcz39_2 : w37.cell? ⟨gb832, 2, none⟩ = some (.slice A20 y827.length c20) := (blk_cell BK832.out 2).trans rfl; have hfz39_0 := blk_frozen BK832.out 0; have hfz39_1 := blk_frozen BK832.out 1; have hfz39_2 := blk_frozen BK832.out 2))
                go_roundg k2
                case measure => have := HJ2.out; have := HK2.out; omega
                case rel => exact ⟨(wrap64 (x10_2 + 1)), (x818000_2), (y838), (.slice Ao38 y838.length co38), (by first | rfl | (simp; done) | (simp [*]; done)), H', ⟨by have := HJ2.out; have := HK2.out; omega⟩, ⟨by (with_reducible repeat (first | apply Kd.V_alloc | apply Kd.V_drewN | apply Kd.V_drew)); exact Kd.V_mono (Kd.V_far (p := ⟨gb832, 1, none⟩) (Kd.V_mono HO_0.out (fun k_ hk => (⟨hk, hk.1.2.2.2.1⟩ : _ ∧ k_ ≠ gb832))) (fun _ hk => hk.2) (.slice Ao38 y838.length co38)) (fun _ hk => ⟨hk.1.1.1, ⟨hk.1.1.2.1, ⟨hk.1.2, ⟨hk.1.1.2.2.1, hk.1.1.2.2.2.1⟩⟩⟩⟩)⟩, ⟨by (with_reducible repeat (first | apply Kd.R_alloc | apply Kd.R_drewN | apply Kd.R_drew)); exact Kd.R_mono (Kd.R_far (p := ⟨gb832, 1, none⟩) (Kd.R_types HO_4.out BK832.out (by decide)) (fun _ hk => hk.2) (.slice Ao38 y838.length co38)) (fun _ hk => hk.1)⟩, ⟨by (with_reducible repeat (first | apply Kd.R_alloc | apply Kd.R_drewN | apply Kd.R_drew)); exact Kd.R_mono (Kd.R_far (p := ⟨gb832, 1, none⟩) (Kd.R_types HO840.out BK832.out (by decide)) (fun _ hk => hk.2) (.slice Ao38 y838.length co38)) (fun _ hk => hk.1.1)⟩, ⟨by (with_reducible repeat (first | apply Kd.V_alloc | apply Kd.V_drewN | apply Kd.V_drew)); exact Kd.V_mono (Kd.V_far (p := ⟨gb832, 1, none⟩) (Kd.V_mono HO_833002.out (fun k_ hk => (⟨hk, hk.1.2.2.2.1⟩ : _ ∧ k_ ≠ gb832))) (fun _ hk => hk.2) (.slice Ao38 y838.length co38)) (fun _ hk => ⟨hk.1.1.1, ⟨hk.1.1.2.1, ⟨hk.1.2, ⟨hk.1.1.2.2.1, hk.1.1.2.2.2.1⟩⟩⟩⟩)⟩, ⟨by (with_reducible repeat (first | refine blk_drewN ?_ _ | refine blk_drew ?_ | refine blk_alloc ?_ _)); refine blk_far ?_ NB817_832.out _; (with_reducible repeat (first | refine blk_drewN ?_ _ | refine blk_drew ?_ | refine blk_alloc ?_ _)); exact BK817.out⟩, ⟨by (with_reducible repeat (first | refine blk_drewN ?_ _ | refine blk_drew ?_ | refine blk_alloc ?_ _)); refine blk_put (cs := #[.int .i64 t825, u833001, .slice A20 y827.length c20]) ?_ 1 _ rfl; (with_reducible repeat (first | refine blk_drewN ?_ _ | refine blk_drew ?_ | refine blk_alloc ?_ _)); exact BK832.out⟩, ⟨by repeat (first | (with_reducible first | apply bA | apply bN | apply bD | refine below_set ?_ GE817.out | refine below_set ?_ GE832.out | refine below_set ?_ GE837.out) | exact HB.out)⟩⟩
               ·rw [if_neg c29] at H
                exact absurd H (by simp)
              ·rw [if_neg c28] at H
               have c28b0 : (t836 == 0) = false := beq_eq_false_iff_ne.mpr c28
               have c28b1 : (t836 != 0) = true := bne_iff_ne.mpr c28
               simp only [Option.some.injEq, Prod.mk.injEq] at H
               obtain ⟨rfl, rfl, rfl, rfl⟩ := H
               have p833 : 0 ≤ (x10_2 : Int) := of_decide_eq_true (by first | (with_reducible assumption) | assumption)
               have q833 : x10_2 < (t818.length : Int) := of_decide_eq_true (by first | (with_reducible assumption) | assumption)
               obtain ⟨ad833, e833, hx833_0⟩ := Kd.at_string (Kd.R_reads' HO_4.out).2.2 x10_2 p833 q833
               obtain rfl : ad824 = ad833 := (by injection e833)
               replace p833 := eq_true p833
               replace q833 := eq_true q833
               go_wp2_with (first | ((with_reducible refine gate_callee (f := 85) rfl ?_); refine goesL_ (some 61) rfl rfl Tryd.func85 (by kernel_rfl) rfl #[.string (rdOf ByteArray.empty t818 x10_2)] rfl (by (try simp only [List.map_toArray, List.map_cons, List.map_nil]); first | done | rfl | (simp only [List.length_drop, List.length_take]; rfl)) ?_; (with_reducible refine (wicketmanref08_Field.calls k2 (rdOf ByteArray.empty t818 x10_2) t834 t835 t836 _ A27.out).mono ?_); rintro e w40 ⟨rfl, hb⟩; refine ⟨_, rfl, ?_⟩; have n0_ := Aside0.mk (Kd.V_below (by (with_reducible repeat (first | apply Kd.V_alloc | apply Kd.V_drewN | apply Kd.V_drew)); exact HO_0.out) hb); have n1_ := Aside0.mk (Kd.R_below (by (with_reducible repeat (first | apply Kd.R_alloc | apply Kd.R_drewN | apply Kd.R_drew)); exact HO_4.out) hb); have n2_ := Aside0.mk (Kd.R_below (by (with_reducible repeat (first | apply Kd.R_alloc | apply Kd.R_drewN | apply Kd.R_drew)); exact HO_833001.out) hb); have n3_ := Aside0.mk (Kd.V_below (by (with_reducible repeat (first | apply Kd.V_alloc | apply Kd.V_drewN | apply Kd.V_drew)); exact HO_833002.out) hb); have n4_ := Aside0.mk (blk_below (g := gb817) (o := .cells #[.int .i64 x818000_2, .slice none 0 0, .slice none 0 0] 51 (0, 0)) (by (with_reducible repeat (first | refine blk_drewN ?_ _ | refine blk_drew ?_ | refine blk_alloc ?_ _)); exact BK817.out) hb); have n5_ := Aside0.mk (blk_below (g := gb832) (o := .cells #[.int .i64 t825, u833001, .slice A20 y827.length c20] 51 (0, 0)) (by (with_reducible repeat (first | refine blk_drewN ?_ _ | refine blk_drew ?_ | refine blk_alloc ?_ _)); exact BK832.out) hb); have n6_ := Aside0.mk (below_step (by repeat (first | (with_reducible first | apply bA | apply bN | apply bD | refine below_set ?_ GE817.out | refine below_set ?_ GE832.out) | exact HB.out)) hb); clear HO_0; clear HO_4; clear HO_833001; clear HO_833002; clear BK817; clear BK832; clear HB; have HO_0 := n0_; have HO_4 := n1_; have HO_833001 := n2_; have HO_833002 := n3_; have BK817 := n4_; have BK832 := n5_; have HB := n6_; clear n0_ n1_ n2_ n3_ n4_ n5_ n6_; (try clear hb); (try clear hb2); (try clear hk); (try clear hi)) | ((with_reducible refine gate_dst (N := 11) rfl ?_); (try (refine gate_guard (by rfl) ?_; dsimp only)); refine box_event ?hg (N := 11) ?hd (cs := #[.string (⟨#[]⟩ : ByteArray), .string (⟨#[]⟩ : ByteArray)]) (t := 43) ?hr ?_; (case hd => rfl); (case hg => rfl); (case hr => first | (go_simp; done) | (go_simp; rfl)); intro gb837 hg w41 hbox hb; have n0_ := Aside0.mk (Kd.V_below (Kd.V_elderB (by (with_reducible repeat (first | apply Kd.V_alloc | apply Kd.V_drewN | apply Kd.V_drew)); exact HO_0.out) gb837 (Nat.le_of_eq hg.symm)) hb); have n1_ := Aside0.mk (Kd.R_below (by (with_reducible repeat (first | apply Kd.R_alloc | apply Kd.R_drewN | apply Kd.R_drew)); exact HO_4.out) hb); have n2_ := Aside0.mk (Kd.R_below (Kd.R_elderB (by (with_reducible repeat (first | apply Kd.R_alloc | apply Kd.R_drewN | apply Kd.R_drew)); exact HO_833001.out) gb837 (Nat.le_of_eq hg.symm)) hb); have n3_ := Aside0.mk (Kd.V_below (Kd.V_elderB (by (with_reducible repeat (first | apply Kd.V_alloc | apply Kd.V_drewN | apply Kd.V_drew)); exact HO_833002.out) gb837 (Nat.le_of_eq hg.symm)) hb); have n4_ := Aside0.mk (blk_below (g := gb817) (o := .cells #[.int .i64 x818000_2, .slice none 0 0, .slice none 0 0] 51 (0, 0)) (by (with_reducible repeat (first | refine blk_drewN ?_ _ | refine blk_drew ?_ | refine blk_alloc ?_ _)); exact BK817.out) hb); have n5_ := Aside0.mk (blk_below (g := gb832) (o := .cells #[.int .i64 t825, u833001, .slice A20 y827.length c20] 51 (0, 0)) (by (with_reducible repeat (first | refine blk_drewN ?_ _ | refine blk_drew ?_ | refine blk_alloc ?_ _)); exact BK832.out) hb); have n6_ := Aside0.mk (below_step (by repeat (first | (with_reducible first | apply bA | apply bN | apply bD | refine below_set ?_ GE817.out | refine below_set ?_ GE832.out) | exact HB.out)) hb); have n7_ := Aside0.mk (hbox); have n8_ := Aside0.mk ((by rw [hg]; exact (below_size (by repeat (first | (with_reducible first | apply bA | apply bN | apply bD | refine below_set ?_ GE817.out | refine below_set ?_ GE832.out) | exact HB.out))) : w.heap.size ≤ gb837)); have n9_ := Aside0.mk ((by rw [hg]; exact (below_size (by repeat (first | (with_reducible first | apply bA | apply bN | apply bD | refine below_set ?_ GE817.out | refine below_set ?_ GE832.out) | exact HB.out))) : w.heap.size ≤ gb837)); have n10_ := Aside0.mk ((by rw [hg]; exact Nat.ne_of_lt (blk_lt (g := gb817) (o := .cells #[.int .i64 x818000_2, .slice none 0 0, .slice none 0 0] 51 (0, 0)) (by (with_reducible repeat (first | refine blk_drewN ?_ _ | refine blk_drew ?_ | refine blk_alloc ?_ _)); exact BK817.out)) : gb817 ≠ gb837)); have n11_ := Aside0.mk ((by rw [hg]; exact Nat.ne_of_gt (blk_lt (g := gb817) (o := .cells #[.int .i64 x818000_2, .slice none 0 0, .slice none 0 0] 51 (0, 0)) (by (with_reducible repeat (first | refine blk_drewN ?_ _ | refine blk_drew ?_ | refine blk_alloc ?_ _)); exact BK817.out)) : gb837 ≠ gb817)); have n12_ := Aside0.mk ((by rw [hg]; exact Nat.ne_of_lt (blk_lt (g := gb832) (o := .cells #[.int .i64 t825, u833001, .slice A20 y827.length c20] 51 (0, 0)) (by (with_reducible repeat (first | refine blk_drewN ?_ _ | refine blk_drew ?_ | refine blk_alloc ?_ _)); exact BK832.out)) : gb832 ≠ gb837)); have n13_ := Aside0.mk ((by rw [hg]; exact Nat.ne_of_gt (blk_lt (g := gb832) (o := .cells #[.int .i64 t825, u833001, .slice A20 y827.length c20] 51 (0, 0)) (by (with_reducible repeat (first | refine blk_drewN ?_ _ | refine blk_drew ?_ | refine blk_alloc ?_ _)); exact BK832.out)) : gb837 ≠ gb832)); clear HO_0; clear HO_4; clear HO_833001; clear HO_833002; clear BK817; clear BK832; clear HB; have HO_0 := n0_; have HO_4 := n1_; have HO_833001 := n2_; have HO_833002 := n3_; have BK817 := n4_; have BK832 := n5_; have HB := n6_; have BK837 := n7_; have GW837 := n8_; have GE837 := n9_; have NB817_837 := n10_; have NB837_817 := n11_; have NB832_837 := n12_; have NB837_832 := n13_; clear n0_ n1_ n2_ n3_ n4_ n5_ n6_ n7_ n8_ n9_ n10_ n11_ n12_ n13_; clear hb hbox hg; have hnb42 := NB837_817.out; have hnc42 := NB817_837.out; have hnb43 := NB837_832.out; have hnc43 := NB832_837.out; have hcz44_0 : w41.cell? ⟨gb837, 0, none⟩ = some (.string (⟨#[]⟩ : ByteArray)) := (blk_cell BK837.out 0).trans rfl; have hcz44_1 : w41.cell? ⟨gb837, 1, none⟩ = some (.string (⟨#[]⟩ : ByteArray)) := (blk_cell BK837.out 1).trans rfl; have hfz44_0 := blk_frozen BK837.out 0; have hfz44_1 := blk_frozen BK837.out 1; have hnb45 := NB817_832.out; have hnc45 := NB832_817.out; have hcz46_0 : w41.cell? ⟨gb817, 0, none⟩ = some (.int .i64 x818000_2) := (blk_cell BK817.out 0).trans rfl; have hcz46_1 : w41.cell? ⟨gb817, 1, none⟩ = some (.slice none 0 0) := (blk_cell BK817.out 1).trans rfl; have hcz46_2 : w41.cell? ⟨gb817, 2, none⟩ = some (.slice none 0 0) := (blk_cell BK817.out 2).trans rfl; have hfz46_0 := blk_frozen BK817.out 0; have hfz46_1 := blk_frozen BK817.out 1; have hfz46_2 := blk_frozen BK817.out 2))
               refine bodyPost_ret (results_ct rfl _ _ gb817 51 #[.int .i64 0, .slice none 0 0, .slice none 0 0] (0, 0) _ rfl (by (with_reducible repeat (first | refine blk_drewN ?_ _ | refine blk_drew ?_ | refine blk_alloc ?_ _)); refine blk_put (cs := #[.int .i64 0, .slice none 0 0, .slice none 0 0]) ?_ 2 _ rfl; (with_reducible repeat (first | refine blk_drewN ?_ _ | refine blk_drew ?_ | refine blk_alloc ?_ _)); refine blk_put (cs := #[.int .i64 0, .slice none 0 0, .slice none 0 0]) ?_ 1 _ rfl; (with_reducible repeat (first | refine blk_drewN ?_ _ | refine blk_drew ?_ | refine blk_alloc ?_ _)); refine blk_put (cs := #[.int .i64 x818000_2, .slice none 0 0, .slice none 0 0]) ?_ 0 _ rfl; (with_reducible repeat (first | refine blk_drewN ?_ _ | refine blk_drew ?_ | refine blk_alloc ?_ _)); refine blk_far ?_ NB817_837.out _; (with_reducible repeat (first | refine blk_drewN ?_ _ | refine blk_drew ?_ | refine blk_alloc ?_ _)); refine blk_far ?_ NB817_837.out _; (with_reducible repeat (first | refine blk_drewN ?_ _ | refine blk_drew ?_ | refine blk_alloc ?_ _)); exact BK817.out) Tryd.underlying51 rfl (by kernel_rfl)) rfl ?_
               exact ⟨_, _, by first | rfl | (simp [errW_none, errW_some] <;> rfl) | (simp [*, errW_none, errW_some] <;> rfl), by first | exact Kd.R_nil _ _ _ _ _ | exact Kd.N_nil _ _ _ _ _ | exact Kd.V_nil _ _ _ _ _ | exact Kd.Q_nil _ _ _ _ _ | exact Kd.S_nil _ _ _ _ _, Kd.V_nil _ _ _ _ _, by repeat (first | (with_reducible first | apply bA | apply bN | apply bD | refine below_set ?_ GE817.out | refine below_set ?_ GE832.out | refine below_set ?_ GE837.out) | exact HB.out)⟩
             ·rw [if_neg c26] at H
              exact absurd H (by simp)
            ·rw [if_neg c25] at H
             exact absurd H (by simp)
           ·rw [if_neg c24] at H
            have c24b0 : decide (x10_2 < (wrap64 ((t818.length : Int) - 1))) = false := decide_eq_false c24
            clear c24
            replace H := Option.bind_eq_some_iff.mp H
            obtain ⟨⟨t841, t844⟩, A470, H⟩ := H
            try dsimp only at H
            have A47 := Aside0.mk A470
            clear A470
            by_cases c48 : t844 = 0
            ·rw [if_pos c48] at H
             have c48b0 : (t844 == 0) = true := beq_iff_eq.mpr c48
             have c48b1 : (t844 != 0) = false := bne_eq_false_iff_eq.mpr c48
             clear c48
             by_cases c49 : (strOfNums t841).toList = (strOfNums l0).toList
             ·rw [if_pos c49] at H
              have c49b0 : ((strOfNums t841).toList == (strOfNums l0).toList) = true := beq_iff_eq.mpr c49
              have c49b1 : ((strOfNums t841).toList != (strOfNums l0).toList) = false := bne_eq_false_iff_eq.mpr c49
              clear c49
              simp only [Option.some.injEq, Prod.mk.injEq] at H
              obtain ⟨rfl, rfl, rfl, rfl⟩ := H
              have hnb50 := NB832_817.out
              have hnc50 := NB817_832.out
              have hcz51_0 : wr.cell? ⟨gb832, 0, none⟩ = some (.int .i64 t825) := (blk_cell BK832.out 0).trans rfl
              have hcz51_1 : wr.cell? ⟨gb832, 1, none⟩ = some (u833001) := (blk_cell BK832.out 1).trans rfl
              have hcz51_2 : wr.cell? ⟨gb832, 2, none⟩ = some (.slice A20 y827.length c20) := (blk_cell BK832.out 2).trans rfl
              have hfz51_0 := blk_frozen BK832.out 0
              have hfz51_1 := blk_frozen BK832.out 1
              have hfz51_2 := blk_frozen BK832.out 2
              obtain ⟨Ao52, co52, eo52⟩ := Kd.R_slice HO_833001.out
              subst eo52
              go_wp2_with (first | ((with_reducible refine gate_callee (f := 38) rfl ?_); refine goesL_ (some 75) rfl rfl Tryd.func38 (by kernel_rfl) rfl #[.agg #[.int .i64 t825, .slice Ao52 x833001_2.length co52, .slice A20 y827.length c20]] rfl (by (try simp only [List.map_toArray, List.map_cons, List.map_nil]); first | done | rfl | (simp only [List.length_drop, List.length_take]; rfl)) ?_; (with_reducible refine (wicketmanref10_Print.calls k2 t825 _ _ x833001_2 _ _ y827 t841 t844 _ ?side1 ?side2 ?side3 ?side4 (by first | exact hT | (refine Tb.of_below hT ?_; repeat (first | (with_reducible first | apply bA | apply bN | apply bD) | exact HB.out | refine Below.setCell ?_ (Aside0.out (by assumption)) _)) | (refine Tb.of_below hT ?_; assumption)) A47.out).mono ?_); (case side1 => repeat (first | exact (Kd.R_reads' HO_833001.out).2.2 | (with_reducible refine Kd.C_alloc ?_ _) | (with_reducible refine Kd.C_drewN ?_ _) | (with_reducible refine Kd.C_drew ?_))); (case side2 => exact (Kd.R_reads' HO_833001.out).2.1); (case side3 => repeat (first | exact (Kd.V_reads' HO_833002.out).2.2 | (with_reducible refine Kd.C_alloc ?_ _) | (with_reducible refine Kd.C_drewN ?_ _) | (with_reducible refine Kd.C_drew ?_))); (case side4 => exact (Kd.V_reads' HO_833002.out).2.1); rintro e w53 ⟨v842, rfl, ho0, hb⟩; refine ⟨_, rfl, ?_⟩; have n0_ := Aside0.mk (Kd.V_below (by (with_reducible repeat (first | apply Kd.V_alloc | apply Kd.V_drewN | apply Kd.V_drew)); exact HO_0.out) hb); have n1_ := Aside0.mk (Kd.R_below (by (with_reducible repeat (first | apply Kd.R_alloc | apply Kd.R_drewN | apply Kd.R_drew)); exact HO_4.out) hb); have n2_ := Aside0.mk (Kd.R_below (by (with_reducible repeat (first | apply Kd.R_alloc | apply Kd.R_drewN | apply Kd.R_drew)); exact HO_833001.out) hb); have n3_ := Aside0.mk (Kd.V_below (by (with_reducible repeat (first | apply Kd.V_alloc | apply Kd.V_drewN | apply Kd.V_drew)); exact HO_833002.out) hb); have n4_ := Aside0.mk (Kd.V_lower (Kd.V_mono (ok' := fun k_ => (P0_ k_ ∨ w.heap.size ≤ k_) ∧ some k_ ≠ (.slice (some ad824) t818.length co19 : Value).ownBlock ∧ some k_ ≠ (.slice Ao52 x833001_2.length co52 : Value).ownBlock ∧ k_ ≠ gb817 ∧ k_ ≠ gb832) ho0 (fun k_ hk_ => ⟨(.inr (Nat.le_trans (below_size (by repeat (first | (with_reducible first | apply bA | apply bN | apply bD | refine below_set ?_ GE817.out | refine below_set ?_ GE832.out) | exact HB.out))) hk_)), (Kd.fresh' (Kd.R_lt (by (with_reducible repeat (first | apply Kd.R_alloc | apply Kd.R_drewN | apply Kd.R_drew)); exact HO_4.out)) k_ hk_), (Kd.fresh' (Kd.R_lt (by (with_reducible repeat (first | apply Kd.R_alloc | apply Kd.R_drewN | apply Kd.R_drew)); exact HO_833001.out)) k_ hk_), (Kd.freshB (g := gb817) (o := .cells #[.int .i64 x818000_2, .slice none 0 0, .slice none 0 0] 51 (0, 0)) (by (with_reducible repeat (first | refine blk_drewN ?_ _ | refine blk_drew ?_ | refine blk_alloc ?_ _)); exact BK817.out) k_ hk_), (Kd.freshB (g := gb832) (o := .cells #[.int .i64 t825, .slice Ao52 x833001_2.length co52, .slice A20 y827.length c20] 51 (0, 0)) (by (with_reducible repeat (first | refine blk_drewN ?_ _ | refine blk_drew ?_ | refine blk_alloc ?_ _)); exact BK832.out) k_ hk_)⟩)) (below_size (by repeat (first | (with_reducible first | apply bA | apply bN | apply bD | refine below_set ?_ GE817.out | refine below_set ?_ GE832.out) | exact HB.out)))); have n5_ := Aside0.mk (blk_below (g := gb817) (o := .cells #[.int .i64 x818000_2, .slice none 0 0, .slice none 0 0] 51 (0, 0)) (by (with_reducible repeat (first | refine blk_drewN ?_ _ | refine blk_drew ?_ | refine blk_alloc ?_ _)); exact BK817.out) hb); have n6_ := Aside0.mk (blk_below (g := gb832) (o := .cells #[.int .i64 t825, .slice Ao52 x833001_2.length co52, .slice A20 y827.length c20] 51 (0, 0)) (by (with_reducible repeat (first | refine blk_drewN ?_ _ | refine blk_drew ?_ | refine blk_alloc ?_ _)); exact BK832.out) hb); have n7_ := Aside0.mk (below_step (by repeat (first | (with_reducible first | apply bA | apply bN | apply bD | refine below_set ?_ GE817.out | refine below_set ?_ GE832.out) | exact HB.out)) hb); clear HO_0; clear HO_4; clear HO_833001; clear HO_833002; clear BK817; clear BK832; clear HB; have HO_0 := n0_; have HO_4 := n1_; have HO_833001 := n2_; have HO_833002 := n3_; have HO843 := n4_; have BK817 := n5_; have BK832 := n6_; have HB := n7_; clear n0_ n1_ n2_ n3_ n4_ n5_ n6_ n7_; (try clear hb); (try clear hb2); (try clear hk); (try clear hi); (try clear ho0); (first | (have hcv54 := own_string (P := Tryd.prog) Tryd.underlying22 Tryd.underlying5 Tryd.underlying9 (Kd.own_of_R HO843.out)) | (have hcv54 := V_string31 (P := Tryd.prog) Tryd.underlying22 Tryd.underlying5 Tryd.underlying9 HO843.out)); (first | (have hcv55 := own_string (P := Tryd.prog) Tryd.underlying22 Tryd.underlying5 Tryd.underlying9 (Kd.own_of_R HO_0.out)) | (have hcv55 := V_string31 (P := Tryd.prog) Tryd.underlying22 Tryd.underlying5 Tryd.underlying9 HO_0.out)); have hcz56_0 : w53.cell? ⟨gb832, 0, none⟩ = some (.int .i64 t825) := (blk_cell BK832.out 0).trans rfl; have hcz56_1 : w53.cell? ⟨gb832, 1, none⟩ = some (.slice Ao52 x833001_2.length co52) := (blk_cell BK832.out 1).trans rfl; have hcz56_2 : w53.cell? ⟨gb832, 2, none⟩ = some (.slice A20 y827.length c20) := (blk_cell BK832.out 2).trans rfl; have hfz56_0 := blk_frozen BK832.out 0; have hfz56_1 := blk_frozen BK832.out 1; have hfz56_2 := blk_frozen BK832.out 2; have hcz57_0 : w53.cell? ⟨gb817, 0, none⟩ = some (.int .i64 x818000_2) := (blk_cell BK817.out 0).trans rfl; have hcz57_1 : w53.cell? ⟨gb817, 1, none⟩ = some (.slice none 0 0) := (blk_cell BK817.out 1).trans rfl; have hcz57_2 : w53.cell? ⟨gb817, 2, none⟩ = some (.slice none 0 0) := (blk_cell BK817.out 2).trans rfl; have hfz57_0 := blk_frozen BK817.out 0; have hfz57_1 := blk_frozen BK817.out 1; have hfz57_2 := blk_frozen BK817.out 2))
              refine bodyPost_ret (results_ct rfl _ _ gb817 51 #[.int .i64 t825, .slice Ao52 x833001_2.length co52, .slice A20 y827.length c20] (0, 0) _ rfl (by (with_reducible repeat (first | refine blk_drewN ?_ _ | refine blk_drew ?_ | refine blk_alloc ?_ _)); refine blk_put (cs := #[.int .i64 t825, .slice Ao52 x833001_2.length co52, .slice none 0 0]) ?_ 2 _ rfl; (with_reducible repeat (first | refine blk_drewN ?_ _ | refine blk_drew ?_ | refine blk_alloc ?_ _)); refine blk_put (cs := #[.int .i64 t825, .slice none 0 0, .slice none 0 0]) ?_ 1 _ rfl; (with_reducible repeat (first | refine blk_drewN ?_ _ | refine blk_drew ?_ | refine blk_alloc ?_ _)); refine blk_put (cs := #[.int .i64 x818000_2, .slice none 0 0, .slice none 0 0]) ?_ 0 _ rfl; (with_reducible repeat (first | refine blk_drewN ?_ _ | refine blk_drew ?_ | refine blk_alloc ?_ _)); exact BK817.out) Tryd.underlying51 rfl (by kernel_rfl)) rfl ?_
              exact ⟨_, _, by first | rfl | (simp [errW_none, errW_some] <;> rfl) | (simp [*, errW_none, errW_some] <;> rfl), by (with_reducible repeat (first | apply Kd.R_alloc | apply Kd.R_drewN | apply Kd.R_drew)); exact Kd.R_mono (Kd.R_far (p := ⟨gb817, 2, none⟩) (Kd.R_far (p := ⟨gb817, 1, none⟩) (Kd.R_far (p := ⟨gb817, 0, none⟩) (Kd.R_types HO_833001.out BK817.out (by decide)) (fun _ hk => hk.2) (.int .i64 t825)) (fun _ hk => hk.2) (.slice Ao52 x833001_2.length co52)) (fun _ hk => hk.2) (.slice A20 y827.length c20)) (fun _ hk => hk.1), by (with_reducible repeat (first | apply Kd.V_alloc | apply Kd.V_drewN | apply Kd.V_drew)); exact Kd.V_mono (Kd.V_far (p := ⟨gb817, 2, none⟩) (Kd.V_far (p := ⟨gb817, 1, none⟩) (Kd.V_far (p := ⟨gb817, 0, none⟩) (Kd.V_mono HO_833002.out (fun k_ hk => (⟨hk, hk.2.2.2.1⟩ : _ ∧ k_ ≠ gb817))) (fun _ hk => hk.2) (.int .i64 t825)) (fun _ hk => hk.2) (.slice Ao52 x833001_2.length co52)) (fun _ hk => hk.2) (.slice A20 y827.length c20)) (fun _ hk => ⟨hk.1.1, hk.1.2.2.1⟩), by repeat (first | (with_reducible first | apply bA | apply bN | apply bD | refine below_set ?_ GE817.out | refine below_set ?_ GE832.out) | exact HB.out)⟩
             ·rw [if_neg c49] at H
              have c49b0 : ((strOfNums t841).toList == (strOfNums l0).toList) = false := beq_eq_false_iff_ne.mpr c49
              have c49b1 : ((strOfNums t841).toList != (strOfNums l0).toList) = true := bne_iff_ne.mpr c49
              simp only [Option.some.injEq, Prod.mk.injEq] at H
              obtain ⟨rfl, rfl, rfl, rfl⟩ := H
              have hnb58 := NB832_817.out
              have hnc58 := NB817_832.out
              have hcz59_0 : wr.cell? ⟨gb832, 0, none⟩ = some (.int .i64 t825) := (blk_cell BK832.out 0).trans rfl
              have hcz59_1 : wr.cell? ⟨gb832, 1, none⟩ = some (u833001) := (blk_cell BK832.out 1).trans rfl
              have hcz59_2 : wr.cell? ⟨gb832, 2, none⟩ = some (.slice A20 y827.length c20) := (blk_cell BK832.out 2).trans rfl
              have hfz59_0 := blk_frozen BK832.out 0
              have hfz59_1 := blk_frozen BK832.out 1
              have hfz59_2 := blk_frozen BK832.out 2
              obtain ⟨Ao60, co60, eo60⟩ := Kd.R_slice HO_833001.out
              subst eo60
              go_wp2_with (first | ((with_reducible refine gate_callee (f := 38) rfl ?_); refine goesL_ (some 75) rfl rfl Tryd.func38 (by kernel_rfl) rfl #[.agg #[.int .i64 t825, .slice Ao60 x833001_2.length co60, .slice A20 y827.length c20]] rfl (by (try simp only [List.map_toArray, List.map_cons, List.map_nil]); first | done | rfl | (simp only [List.length_drop, List.length_take]; rfl)) ?_; (with_reducible refine (wicketmanref10_Print.calls k2 t825 _ _ x833001_2 _ _ y827 t841 t844 _ ?side1 ?side2 ?side3 ?side4 (by first | exact hT | (refine Tb.of_below hT ?_; repeat (first | (with_reducible first | apply bA | apply bN | apply bD) | exact HB.out | refine Below.setCell ?_ (Aside0.out (by assumption)) _)) | (refine Tb.of_below hT ?_; assumption)) A47.out).mono ?_); (case side1 => repeat (first | exact (Kd.R_reads' HO_833001.out).2.2 | (with_reducible refine Kd.C_alloc ?_ _) | (with_reducible refine Kd.C_drewN ?_ _) | (with_reducible refine Kd.C_drew ?_))); (case side2 => exact (Kd.R_reads' HO_833001.out).2.1); (case side3 => repeat (first | exact (Kd.V_reads' HO_833002.out).2.2 | (with_reducible refine Kd.C_alloc ?_ _) | (with_reducible refine Kd.C_drewN ?_ _) | (with_reducible refine Kd.C_drew ?_))); (case side4 => exact (Kd.V_reads' HO_833002.out).2.1); rintro e w61 ⟨v842, rfl, ho0, hb⟩; refine ⟨_, rfl, ?_⟩; have n0_ := Aside0.mk (Kd.V_below (by (with_reducible repeat (first | apply Kd.V_alloc | apply Kd.V_drewN | apply Kd.V_drew)); exact HO_0.out) hb); have n1_ := Aside0.mk (Kd.R_below (by (with_reducible repeat (first | apply Kd.R_alloc | apply Kd.R_drewN | apply Kd.R_drew)); exact HO_4.out) hb); have n2_ := Aside0.mk (Kd.R_below (by (with_reducible repeat (first | apply Kd.R_alloc | apply Kd.R_drewN | apply Kd.R_drew)); exact HO_833001.out) hb); have n3_ := Aside0.mk (Kd.V_below (by (with_reducible repeat (first | apply Kd.V_alloc | apply Kd.V_drewN | apply Kd.V_drew)); exact HO_833002.out) hb); have n4_ := Aside0.mk (Kd.V_lower (Kd.V_mono (ok' := fun k_ => (P0_ k_ ∨ w.heap.size ≤ k_) ∧ some k_ ≠ (.slice (some ad824) t818.length co19 : Value).ownBlock ∧ some k_ ≠ (.slice Ao60 x833001_2.length co60 : Value).ownBlock ∧ k_ ≠ gb817 ∧ k_ ≠ gb832) ho0 (fun k_ hk_ => ⟨(.inr (Nat.le_trans (below_size (by repeat (first | (with_reducible first | apply bA | apply bN | apply bD | refine below_set ?_ GE817.out | refine below_set ?_ GE832.out) | exact HB.out))) hk_)), (Kd.fresh' (Kd.R_lt (by (with_reducible repeat (first | apply Kd.R_alloc | apply Kd.R_drewN | apply Kd.R_drew)); exact HO_4.out)) k_ hk_), (Kd.fresh' (Kd.R_lt (by (with_reducible repeat (first | apply Kd.R_alloc | apply Kd.R_drewN | apply Kd.R_drew)); exact HO_833001.out)) k_ hk_), (Kd.freshB (g := gb817) (o := .cells #[.int .i64 x818000_2, .slice none 0 0, .slice none 0 0] 51 (0, 0)) (by (with_reducible repeat (first | refine blk_drewN ?_ _ | refine blk_drew ?_ | refine blk_alloc ?_ _)); exact BK817.out) k_ hk_), (Kd.freshB (g := gb832) (o := .cells #[.int .i64 t825, .slice Ao60 x833001_2.length co60, .slice A20 y827.length c20] 51 (0, 0)) (by (with_reducible repeat (first | refine blk_drewN ?_ _ | refine blk_drew ?_ | refine blk_alloc ?_ _)); exact BK832.out) k_ hk_)⟩)) (below_size (by repeat (first | (with_reducible first | apply bA | apply bN | apply bD | refine below_set ?_ GE817.out | refine below_set ?_ GE832.out) | exact HB.out)))); have n5_ := Aside0.mk (blk_below (g := gb817) (o := .cells #[.int .i64 x818000_2, .slice none 0 0, .slice none 0 0] 51 (0, 0)) (by (with_reducible repeat (first | refine blk_drewN ?_ _ | refine blk_drew ?_ | refine blk_alloc ?_ _)); exact BK817.out) hb); have n6_ := Aside0.mk (blk_below (g := gb832) (o := .cells #[.int .i64 t825, .slice Ao60 x833001_2.length co60, .slice A20 y827.length c20] 51 (0, 0)) (by (with_reducible repeat (first | refine blk_drewN ?_ _ | refine blk_drew ?_ | refine blk_alloc ?_ _)); exact BK832.out) hb); have n7_ := Aside0.mk (below_step (by repeat (first | (with_reducible first | apply bA | apply bN | apply bD | refine below_set ?_ GE817.out | refine below_set ?_ GE832.out) | exact HB.out)) hb); clear HO_0; clear HO_4; clear HO_833001; clear HO_833002; clear BK817; clear BK832; clear HB; have HO_0 := n0_; have HO_4 := n1_; have HO_833001 := n2_; have HO_833002 := n3_; have HO843 := n4_; have BK817 := n5_; have BK832 := n6_; have HB := n7_; clear n0_ n1_ n2_ n3_ n4_ n5_ n6_ n7_; (try clear hb); (try clear hb2); (try clear hk); (try clear hi); (try clear ho0); (first | (have hcv62 := own_string (P := Tryd.prog) Tryd.underlying22 Tryd.underlying5 Tryd.underlying9 (Kd.own_of_R HO843.out)) | (have hcv62 := V_string31 (P := Tryd.prog) Tryd.underlying22 Tryd.underlying5 Tryd.underlying9 HO843.out)); (first | (have hcv63 := own_string (P := Tryd.prog) Tryd.underlying22 Tryd.underlying5 Tryd.underlying9 (Kd.own_of_R HO_0.out)) | (have hcv63 := V_string31 (P := Tryd.prog) Tryd.underlying22 Tryd.underlying5 Tryd.underlying9 HO_0.out)); have hcz64_0 : w61.cell? ⟨gb817, 0, none⟩ = some (.int .i64 x818000_2) := (blk_cell BK817.out 0).trans rfl; have hcz64_1 : w61.cell? ⟨gb817, 1, none⟩ = some (.slice none 0 0) := (blk_cell BK817.out 1).trans rfl; have hcz64_2 : w61.cell? ⟨gb817, 2, none⟩ = some (.slice none 0 0) := (blk_cell BK817.out 2).trans rfl; have hfz64_0 := blk_frozen BK817.out 0; have hfz64_1 := blk_frozen BK817.out 1; have hfz64_2 := blk_frozen BK817.out 2))
              refine bodyPost_ret (results_ct rfl _ _ gb817 51 #[.int .i64 0, .slice none 0 0, .slice none 0 0] (0, 0) _ rfl (by (with_reducible repeat (first | refine blk_drewN ?_ _ | refine blk_drew ?_ | refine blk_alloc ?_ _)); refine blk_put (cs := #[.int .i64 0, .slice none 0 0, .slice none 0 0]) ?_ 2 _ rfl; (with_reducible repeat (first | refine blk_drewN ?_ _ | refine blk_drew ?_ | refine blk_alloc ?_ _)); refine blk_put (cs := #[.int .i64 0, .slice none 0 0, .slice none 0 0]) ?_ 1 _ rfl; (with_reducible repeat (first | refine blk_drewN ?_ _ | refine blk_drew ?_ | refine blk_alloc ?_ _)); refine blk_put (cs := #[.int .i64 x818000_2, .slice none 0 0, .slice none 0 0]) ?_ 0 _ rfl; (with_reducible repeat (first | refine blk_drewN ?_ _ | refine blk_drew ?_ | refine blk_alloc ?_ _)); exact BK817.out) Tryd.underlying51 rfl (by kernel_rfl)) rfl ?_
              exact ⟨_, _, by first | rfl | (simp [errW_none, errW_some] <;> rfl) | (simp [*, errW_none, errW_some] <;> rfl), by first | exact Kd.R_nil _ _ _ _ _ | exact Kd.N_nil _ _ _ _ _ | exact Kd.V_nil _ _ _ _ _ | exact Kd.Q_nil _ _ _ _ _ | exact Kd.S_nil _ _ _ _ _, Kd.V_nil _ _ _ _ _, by repeat (first | (with_reducible first | apply bA | apply bN | apply bD | refine below_set ?_ GE817.out | refine below_set ?_ GE832.out) | exact HB.out)⟩
            ·rw [if_neg c48] at H
             have c48b0 : (t844 == 0) = false := beq_eq_false_iff_ne.mpr c48
             have c48b1 : (t844 != 0) = true := bne_iff_ne.mpr c48
             simp only [Option.some.injEq, Prod.mk.injEq] at H
             obtain ⟨rfl, rfl, rfl, rfl⟩ := H
             have hnb65 := NB832_817.out
             have hnc65 := NB817_832.out
             have hcz66_0 : wr.cell? ⟨gb832, 0, none⟩ = some (.int .i64 t825) := (blk_cell BK832.out 0).trans rfl
             have hcz66_1 : wr.cell? ⟨gb832, 1, none⟩ = some (u833001) := (blk_cell BK832.out 1).trans rfl
             have hcz66_2 : wr.cell? ⟨gb832, 2, none⟩ = some (.slice A20 y827.length c20) := (blk_cell BK832.out 2).trans rfl
             have hfz66_0 := blk_frozen BK832.out 0
             have hfz66_1 := blk_frozen BK832.out 1
             have hfz66_2 := blk_frozen BK832.out 2
             obtain ⟨Ao67, co67, eo67⟩ := Kd.R_slice HO_833001.out
             subst eo67
             go_wp2_with (first | ((with_reducible refine gate_callee (f := 38) rfl ?_); refine goesL_ (some 75) rfl rfl Tryd.func38 (by kernel_rfl) rfl #[.agg #[.int .i64 t825, .slice Ao67 x833001_2.length co67, .slice A20 y827.length c20]] rfl (by (try simp only [List.map_toArray, List.map_cons, List.map_nil]); first | done | rfl | (simp only [List.length_drop, List.length_take]; rfl)) ?_; (with_reducible refine (wicketmanref10_Print.calls k2 t825 _ _ x833001_2 _ _ y827 t841 t844 _ ?side1 ?side2 ?side3 ?side4 (by first | exact hT | (refine Tb.of_below hT ?_; repeat (first | (with_reducible first | apply bA | apply bN | apply bD) | exact HB.out | refine Below.setCell ?_ (Aside0.out (by assumption)) _)) | (refine Tb.of_below hT ?_; assumption)) A47.out).mono ?_); (case side1 => repeat (first | exact (Kd.R_reads' HO_833001.out).2.2 | (with_reducible refine Kd.C_alloc ?_ _) | (with_reducible refine Kd.C_drewN ?_ _) | (with_reducible refine Kd.C_drew ?_))); (case side2 => exact (Kd.R_reads' HO_833001.out).2.1); (case side3 => repeat (first | exact (Kd.V_reads' HO_833002.out).2.2 | (with_reducible refine Kd.C_alloc ?_ _) | (with_reducible refine Kd.C_drewN ?_ _) | (with_reducible refine Kd.C_drew ?_))); (case side4 => exact (Kd.V_reads' HO_833002.out).2.1); rintro e w68 ⟨v842, rfl, ho0, hb⟩; refine ⟨_, rfl, ?_⟩; have n0_ := Aside0.mk (Kd.V_below (by (with_reducible repeat (first | apply Kd.V_alloc | apply Kd.V_drewN | apply Kd.V_drew)); exact HO_0.out) hb); have n1_ := Aside0.mk (Kd.R_below (by (with_reducible repeat (first | apply Kd.R_alloc | apply Kd.R_drewN | apply Kd.R_drew)); exact HO_4.out) hb); have n2_ := Aside0.mk (Kd.R_below (by (with_reducible repeat (first | apply Kd.R_alloc | apply Kd.R_drewN | apply Kd.R_drew)); exact HO_833001.out) hb); have n3_ := Aside0.mk (Kd.V_below (by (with_reducible repeat (first | apply Kd.V_alloc | apply Kd.V_drewN | apply Kd.V_drew)); exact HO_833002.out) hb); have n4_ := Aside0.mk (Kd.V_lower (Kd.V_mono (ok' := fun k_ => (P0_ k_ ∨ w.heap.size ≤ k_) ∧ some k_ ≠ (.slice (some ad824) t818.length co19 : Value).ownBlock ∧ some k_ ≠ (.slice Ao67 x833001_2.length co67 : Value).ownBlock ∧ k_ ≠ gb817 ∧ k_ ≠ gb832) ho0 (fun k_ hk_ => ⟨(.inr (Nat.le_trans (below_size (by repeat (first | (with_reducible first | apply bA | apply bN | apply bD | refine below_set ?_ GE817.out | refine below_set ?_ GE832.out) | exact HB.out))) hk_)), (Kd.fresh' (Kd.R_lt (by (with_reducible repeat (first | apply Kd.R_alloc | apply Kd.R_drewN | apply Kd.R_drew)); exact HO_4.out)) k_ hk_), (Kd.fresh' (Kd.R_lt (by (with_reducible repeat (first | apply Kd.R_alloc | apply Kd.R_drewN | apply Kd.R_drew)); exact HO_833001.out)) k_ hk_), (Kd.freshB (g := gb817) (o := .cells #[.int .i64 x818000_2, .slice none 0 0, .slice none 0 0] 51 (0, 0)) (by (with_reducible repeat (first | refine blk_drewN ?_ _ | refine blk_drew ?_ | refine blk_alloc ?_ _)); exact BK817.out) k_ hk_), (Kd.freshB (g := gb832) (o := .cells #[.int .i64 t825, .slice Ao67 x833001_2.length co67, .slice A20 y827.length c20] 51 (0, 0)) (by (with_reducible repeat (first | refine blk_drewN ?_ _ | refine blk_drew ?_ | refine blk_alloc ?_ _)); exact BK832.out) k_ hk_)⟩)) (below_size (by repeat (first | (with_reducible first | apply bA | apply bN | apply bD | refine below_set ?_ GE817.out | refine below_set ?_ GE832.out) | exact HB.out)))); have n5_ := Aside0.mk (blk_below (g := gb817) (o := .cells #[.int .i64 x818000_2, .slice none 0 0, .slice none 0 0] 51 (0, 0)) (by (with_reducible repeat (first | refine blk_drewN ?_ _ | refine blk_drew ?_ | refine blk_alloc ?_ _)); exact BK817.out) hb); have n6_ := Aside0.mk (blk_below (g := gb832) (o := .cells #[.int .i64 t825, .slice Ao67 x833001_2.length co67, .slice A20 y827.length c20] 51 (0, 0)) (by (with_reducible repeat (first | refine blk_drewN ?_ _ | refine blk_drew ?_ | refine blk_alloc ?_ _)); exact BK832.out) hb); have n7_ := Aside0.mk (below_step (by repeat (first | (with_reducible first | apply bA | apply bN | apply bD | refine below_set ?_ GE817.out | refine below_set ?_ GE832.out) | exact HB.out)) hb); clear HO_0; clear HO_4; clear HO_833001; clear HO_833002; clear BK817; clear BK832; clear HB; have HO_0 := n0_; have HO_4 := n1_; have HO_833001 := n2_; have HO_833002 := n3_; have HO843 := n4_; have BK817 := n5_; have BK832 := n6_; have HB := n7_; clear n0_ n1_ n2_ n3_ n4_ n5_ n6_ n7_; (try clear hb); (try clear hb2); (try clear hk); (try clear hi); (try clear ho0); have hcz69_0 : w68.cell? ⟨gb817, 0, none⟩ = some (.int .i64 x818000_2) := (blk_cell BK817.out 0).trans rfl; have hcz69_1 : w68.cell? ⟨gb817, 1, none⟩ = some (.slice none 0 0) := (blk_cell BK817.out 1).trans rfl; have hcz69_2 : w68.cell? ⟨gb817, 2, none⟩ = some (.slice none 0 0) := (blk_cell BK817.out 2).trans rfl; have hfz69_0 := blk_frozen BK817.out 0; have hfz69_1 := blk_frozen BK817.out 1; have hfz69_2 := blk_frozen BK817.out 2))
             refine bodyPost_ret (results_ct rfl _ _ gb817 51 #[.int .i64 0, .slice none 0 0, .slice none 0 0] (0, 0) _ rfl (by (with_reducible repeat (first | refine blk_drewN ?_ _ | refine blk_drew ?_ | refine blk_alloc ?_ _)); refine blk_put (cs := #[.int .i64 0, .slice none 0 0, .slice none 0 0]) ?_ 2 _ rfl; (with_reducible repeat (first | refine blk_drewN ?_ _ | refine blk_drew ?_ | refine blk_alloc ?_ _)); refine blk_put (cs := #[.int .i64 0, .slice none 0 0, .slice none 0 0]) ?_ 1 _ rfl; (with_reducible repeat (first | refine blk_drewN ?_ _ | refine blk_drew ?_ | refine blk_alloc ?_ _)); refine blk_put (cs := #[.int .i64 x818000_2, .slice none 0 0, .slice none 0 0]) ?_ 0 _ rfl; (with_reducible repeat (first | refine blk_drewN ?_ _ | refine blk_drew ?_ | refine blk_alloc ?_ _)); exact BK817.out) Tryd.underlying51 rfl (by kernel_rfl)) rfl ?_
             exact ⟨_, _, by first | rfl | (simp [errW_none, errW_some] <;> rfl) | (simp [*, errW_none, errW_some] <;> rfl), by first | exact Kd.R_nil _ _ _ _ _ | exact Kd.N_nil _ _ _ _ _ | exact Kd.V_nil _ _ _ _ _ | exact Kd.Q_nil _ _ _ _ _ | exact Kd.S_nil _ _ _ _ _, Kd.V_nil _ _ _ _ _, by repeat (first | (with_reducible first | apply bA | apply bN | apply bD | refine below_set ?_ GE817.out | refine below_set ?_ GE832.out) | exact HB.out)⟩
        ·rw [if_neg c18] at H
         exact absurd H (by simp)
       ·rw [if_neg c17] at H
        exact absurd H (by simp)
      ·rw [if_neg c15] at H
       exact absurd H (by simp)
     ·rw [if_neg c14] at H
      exact absurd H (by simp)
    ·rw [if_neg c13] at H
     exact absurd H (by simp)
end Go.Proofs.YtpfbemcoblganaaDoor.Pall

import Derived.Test.YthdiiiopjkaifaaGreatDoorZdPall0
import Derived.Test.YthdiiiopjkaifaaGreatDoorZdPall6
import Derived.Test.YthdiiiopjkaifaaGreatDoorZdPall8
import Derived.Test.YthdiiiopjkaifaaGreatDoorZdPall10
namespace Go.Proofs.YthdiiiopjkaifaaGreatDoor.Pall
open Go.RowKit Go.Proofs.YthdiiiopjkaifaaGreatDoorW.PrintWords Go.Proofs.YthdiiiopjkaifaaGreatDoorW.PrintLast
set_option linter.unusedVariables false
set_option linter.unusedSimpArgs false
theorem V_string11 {P : Program} {e : Nat} {w : World} {base : Nat} {ok : Nat → Prop} {v : Value} {xs : List Int} {src dst el : TypeId} (hs : P.underlying src = some (.slice el)) (he : P.underlying el = some (.int .u8)) (hd : P.underlying dst = some .string) (h : Kd.V (Kd.int .u8) e w base ok v xs) : (convert src dst v).run P w = .ok (.string (strOfNums xs)) w := by
 obtain ⟨A, c, rfl, _, hf⟩ := h
 exact Kd.C_string hs he hd (Kd.F_now hf)
mutual
def wicketmanref10_Parse.j0 : Nat → List Int → List ByteArray → Int → Bool → Option (Int × (List (S76)) × List Int × Int)
 | 0, _, _, _, _ => none
 | k + 1, x0, x4, x5, x34 => if x34 = true then (some (0, ([] : List (S76)), ([] : List Int), 10)) else (if 0 < (x4.length : Int) then (if 9 ≤ 12 then (if 12 ≤ ((rdOf ByteArray.empty x4 0).size : Int) then ((wicketmanref01_Decimal.f k ((rdOf ByteArray.empty x4 0).extract 9 12) 999).bind fun bt237 => (if 0 ≤ x5 then (if x5 ≤ (x0.length : Int) then (wicketmanref10_Parse.l0 k x0 x4 1 bt237.1 ([] : List (S76)) (x0.drop (x5 : Int).toNat)) else (none)) else (none))) else (none)) else (none)) else (none))
def wicketmanref10_Parse.l0 : Nat → List Int → List ByteArray → Int → Int → List (S76) → List Int → Option (Int × (List (S76)) × List Int × Int)
 | 0, _, _, _, _, _, _ => none
 | k + 1, x0, x4, x10, x245000, x245001, x245002 => if x10 < (wrap64 ((x4.length : Int) - 1)) then (if 0 ≤ x10 then (if x10 < (x4.length : Int) then ((wicketmanref08_Field.f k (rdOf ByteArray.empty x4 x10)).bind fun bt246 => (if bt246.2.2 = 0 then (if x245001.length < 4398046511104 then (wicketmanref10_Parse.l0 k x0 x4 (wrap64 (x10 + 1)) x245000 (x245001 ++ [(⟨bt246.1, bt246.2.1⟩ : S76)]) x245002) else (none)) else (some (0, ([] : List (S76)), ([] : List Int), 10)))) else (none)) else (none)) else ((wicketmanref10_Print.f k x245000 x245001 x245002).bind fun bt253 => (if bt253.2 = 0 then (if (strOfNums bt253.1).toList = (strOfNums x0).toList then (some (x245000, x245001, x245002, 0)) else (some (0, ([] : List (S76)), ([] : List Int), 10))) else (some (0, ([] : List (S76)), ([] : List Int), 10))))
end
def wicketmanref10_Parse.f (k : Nat) (l0 : List Int) : Option (Int × (List (S76)) × List Int × Int) := (wicketmanref09_Lines.f k l0).bind fun bt230 => (if bt230.2.2 = true then (if (bt230.1.length : Int) < 2 then (wicketmanref10_Parse.j0 k l0 bt230.1 bt230.2.1 true) else (if 0 < (bt230.1.length : Int) then (wicketmanref10_Parse.j0 k l0 bt230.1 bt230.2.1 (decide (((rdOf ByteArray.empty bt230.1 0).size : Int) < 12))) else (none))) else (wicketmanref10_Parse.j0 k l0 bt230.1 bt230.2.1 true))
theorem wicketmanref10_Parse.mono_l : ∀ k, (∀ y0 y1 y2 y3, LeO (wicketmanref10_Parse.j0 k y0 y1 y2 y3) (wicketmanref10_Parse.j0 (k + 1) y0 y1 y2 y3)) ∧ (∀ y0 y1 y2 y3 y4 y5, LeO (wicketmanref10_Parse.l0 k y0 y1 y2 y3 y4 y5) (wicketmanref10_Parse.l0 (k + 1) y0 y1 y2 y3 y4 y5))
 | 0 => ⟨fun _ _ _ _ r h => by simp [wicketmanref10_Parse.j0] at h, fun _ _ _ _ _ _ r h => by simp [wicketmanref10_Parse.l0] at h⟩
 | k + 1 => by
  obtain ⟨ih0, ih1⟩ := wicketmanref10_Parse.mono_l k
  refine ⟨?_, ?_⟩
  ·intro y0 y1 y2 y3
   unfold wicketmanref10_Parse.j0
   repeat' first|(with_reducible first|exact ih0 _ _ _ _|exact ih1 _ _ _ _ _ _|exact wicketmanref01_Decimal.mono _ _ _|exact wicketmanref08_Field.mono _ _|exact wicketmanref09_Lines.mono _ _|exact wicketmanref10_Print.mono _ _ _ _|exact LeO.refl _|exact LeO.none _|refine LeO.ite ?_ ?_|refine LeO.bind ?_ (fun _ => ?_))|exact LeO.none _|refine LeO.ite ?_ ?_|refine LeO.bind ?_ (fun _ => ?_)
  ·intro y0 y1 y2 y3 y4 y5
   unfold wicketmanref10_Parse.l0
   repeat' first|(with_reducible first|exact ih0 _ _ _ _|exact ih1 _ _ _ _ _ _|exact wicketmanref01_Decimal.mono _ _ _|exact wicketmanref08_Field.mono _ _|exact wicketmanref09_Lines.mono _ _|exact wicketmanref10_Print.mono _ _ _ _|exact LeO.refl _|exact LeO.none _|refine LeO.ite ?_ ?_|refine LeO.bind ?_ (fun _ => ?_))|exact LeO.none _|refine LeO.ite ?_ ?_|refine LeO.bind ?_ (fun _ => ?_)
theorem wicketmanref10_Parse.mono : ∀ a0 k, LeO (wicketmanref10_Parse.f k a0) (wicketmanref10_Parse.f (k + 1) a0) := by
 intro a0 k
 obtain ⟨ih0, ih1⟩ := wicketmanref10_Parse.mono_l k
 unfold wicketmanref10_Parse.f
 repeat' first|(with_reducible first|exact ih0 _ _ _ _|exact ih1 _ _ _ _ _ _|exact wicketmanref01_Decimal.mono _ _ _|exact wicketmanref08_Field.mono _ _|exact wicketmanref09_Lines.mono _ _|exact wicketmanref10_Print.mono _ _ _ _|exact LeO.refl _|exact LeO.none _|refine LeO.ite ?_ ?_|refine LeO.bind ?_ (fun _ => ?_))|exact LeO.none _|refine LeO.ite ?_ ?_|refine LeO.bind ?_ (fun _ => ?_)
set_option maxHeartbeats 8000000 in
set_option maxRecDepth 100000 in
theorem wicketmanref10_Parse.calls (k : Nat) (P0_ : Nat → Prop) (A0 : Option Addr) (c0 : Nat) (l0 : List Int) (r1 : Int) (r2 : List (S76)) (r3 : List Int) (r4 : Int) (w : World) (hs0 : Kd.V (Kd.int .u8) 5 w w.heap.size (fun k_ => P0_ k_) (.slice A0 l0.length c0) l0) (hT : Tb w) (h : wicketmanref10_Parse.f k l0 = some (r1, r2, r3, r4)) :
  Calls Tryz.prog 30 #[.slice A0 l0.length c0] w fun e w' => ∃ v1_ v2_ : Value, e = .returned (.tuple #[.agg #[.int .i64 r1, v1_, v2_], .int .i64 r4]) ∧ Kd.R k76 76 w' w.heap.size (fun k_ => (w.heap.size ≤ k_)) v1_ r2 ∧ Kd.V (Kd.int .u8) 5 w' w.heap.size (fun k_ => (P0_ k_ ∨ w.heap.size ≤ k_) ∧ some k_ ≠ (v1_ : Value).ownBlock) v2_ r3 ∧ Below w.heap.size w w' := by
 have hu71 := Tryz.underlying71
 have hu76 := Tryz.underlying76
 have HO0 := aK (show Kd.V (Kd.int .u8) 5 w w.heap.size (fun k_ => (P0_ k_ ∨ w.heap.size ≤ k_)) (.slice A0 l0.length c0) l0 from Kd.V_mono hs0 (fun k_ hk => .inl hk))
 have HB := aK (Below.refl w.heap.size w)
 have H : ((wicketmanref09_Lines.f k l0).bind fun bt230 => (if bt230.2.2 = true then (if (bt230.1.length : Int) < 2 then (wicketmanref10_Parse.j0 k l0 bt230.1 bt230.2.1 true) else (if 0 < (bt230.1.length : Int) then (wicketmanref10_Parse.j0 k l0 bt230.1 bt230.2.1 (decide (((rdOf ByteArray.empty bt230.1 0).size : Int) < 12))) else (none))) else (wicketmanref10_Parse.j0 k l0 bt230.1 bt230.2.1 true))) = some (r1, r2, r3, r4) := h
 clear h
 replace H := Option.bind_eq_some_iff.mp H
 obtain ⟨⟨t230, t231, t232⟩, A20, H⟩ := H
 try dsimp only at H
 have A2 := aK A20
 clear A20
 have HC3 := aK H
 clear H
 go_enter Tryz.func30, Tryz.ntmps30
 go_upto_region 2 with (first|((with_reducible refine gate_dst (N := 2) rfl ?_);(try (refine gate_guard (by rfl) ?_;dsimp only));refine box_event ?hg (N := 2) ?hd (cs := #[.int .i64 0, .slice none 0 0, .slice none 0 0]) (t := 71) ?hr ?_;(case hd => rfl);(case hg => rfl);(case hr => first|(go_simp;done)|(go_simp;rfl));intro gb229 hg w4 hbox hb;have n0_ := aK (Kd.V_below (Kd.V_elderB (by (with_reducible repeat (first|apply Kd.V_alloc|apply Kd.V_drewN|apply Kd.V_drew));exact HO0.out) gb229 (Nat.le_of_eq hg.symm)) hb);have n1_ := aK (below_step (by repeat (first|(with_reducible first|apply bA|apply bN|apply bD)|exact HB.out)) hb);have n2_ := aK (hbox);have n3_ := aK ((by rw [hg];exact (below_size (by repeat (first|(with_reducible first|apply bA|apply bN|apply bD)|exact HB.out))) : w.heap.size ≤ gb229));have n4_ := aK ((by rw [hg];exact (below_size (by repeat (first|(with_reducible first|apply bA|apply bN|apply bD)|exact HB.out))) : w.heap.size ≤ gb229));clear HO0;clear HB;have HO0 := n0_;have HB := n1_;have BK229 := n2_;have GW229 := n3_;have GE229 := n4_;clear n0_ n1_ n2_ n3_ n4_;clear hb hbox hg)|((with_reducible refine gate_callee (f := 58) rfl ?_);refine goesL_ (some 17) rfl rfl Tryz.func58 (by kernel_rfl) rfl #[.slice A0 l0.length c0] rfl (by (try simp only [List.map_toArray, List.map_cons, List.map_nil]);first|done|rfl|(simp only [List.length_drop, List.length_take];rfl)) ?_;(with_reducible refine (wicketmanref09_Lines.calls k _ _ l0 t230 t231 t232 _ ?side1 ?side2 A2.out).mono ?_);(case side1 => repeat (first|exact (Kd.V_reads' HO0.out).2.2|(with_reducible refine Kd.C_alloc ?_ _)|(with_reducible refine Kd.C_drewN ?_ _)|(with_reducible refine Kd.C_drew ?_)));(case side2 => exact (Kd.V_reads' HO0.out).2.1);rintro e w5 ⟨v233, rfl, ho0, hb⟩;refine ⟨_, rfl, ?_⟩;have n0_ := aK (Kd.V_elder' (by (with_reducible repeat (first|apply Kd.V_alloc|apply Kd.V_drewN|apply Kd.V_drew));exact HO0.out) (Kd.R_base ho0) hb);have n1_ := aK (Kd.R_lower (Kd.R_newM (M := fun k_ => (w.heap.size ≤ k_)) ho0 (below_size (by repeat (first|(with_reducible first|apply bA|apply bN|apply bD|refine below_set ?_ GE229.out)|exact HB.out))) (fun k_ h_ => h_)) (below_size (by repeat (first|(with_reducible first|apply bA|apply bN|apply bD|refine below_set ?_ GE229.out)|exact HB.out))));have n2_ := aK (blk_below (g := gb229) (o := .cells #[.int .i64 0, .slice none 0 0, .slice none 0 0] 71 (0, 0)) (by (with_reducible repeat (first|refine blk_drewN ?_ _|refine blk_drew ?_|refine blk_alloc ?_ _));exact BK229.out) hb);have n3_ := aK (below_step (by repeat (first|(with_reducible first|apply bA|apply bN|apply bD|refine below_set ?_ GE229.out)|exact HB.out)) hb);clear HO0;clear BK229;clear HB;have HO0 := n0_;have HO234 := n1_;have BK229 := n2_;have HB := n3_;clear n0_ n1_ n2_ n3_;try clear hb;(try clear ho0)))
 (try simp only [Act.put, List.setIfInBounds_toArray, List.set_cons_zero, List.set_cons_succ])
 go_cut [34] (fun v34 wc => ∃ (kq : Nat) (x34_2 : Bool), v34 = .bool x34_2 ∧ Aside0 (wicketmanref10_Parse.j0 kq l0 t230 t231 x34_2 = some (r1, r2, r3, r4)) ∧ Aside0 (kq ≤ k) ∧ Aside0 (Kd.V (Kd.int .u8) 5 wc w.heap.size (fun k_ => (P0_ k_ ∨ w.heap.size ≤ k_) ∧ some k_ ≠ (v233 : Value).ownBlock ∧ k_ ≠ gb229) (.slice A0 l0.length c0) l0) ∧ Aside0 (Kd.R Kd.string 9 wc w.heap.size (fun k_ => (w.heap.size ≤ k_)) v233 t230) ∧ Aside0 (wc.heap[gb229]? = some (.cells #[.int .i64 0, (.slice none 0 0), (.slice none 0 0)] 71 (0, 0))) ∧ Aside0 (Below w.heap.size w wc))
 case first =>
  have H := HC3.out
  clear HC3
  by_cases c6 : t232 = true
  ·subst c6
   rw [if_pos rfl] at H
   by_cases c7 : (t230.length : Int) < 2
   ·rw [if_pos c7] at H
    have c7b0 : decide ((t230.length : Int) < 2) = true := decide_eq_true c7
    have c7b1 : decide (t230.length < 2) = true := decide_eq_true (by omega)
    clear c7
    (first|rw [c7b0]|(simp only [i64_w, i32_w];rw [c7b0])|skip)
    have H' := aK H
    clear H
    obtain ⟨Ao8, co8, eo8⟩ := Kd.R_slice HO234.out
    subst eo8
    go_wp2
    go_meet
    case rel => exact ⟨_, (true), (by first|rfl|(simp;done)|(simp [*];done)), H', ⟨by first|omega|exact Nat.le_refl _⟩, ⟨by (with_reducible repeat (first|apply Kd.V_alloc|apply Kd.V_drewN|apply Kd.V_drew));exact Kd.V_mono HO0.out (fun _ hk => ⟨hk.1.1, ⟨hk.2, hk.1.2⟩⟩)⟩, ⟨by (with_reducible repeat (first|apply Kd.R_alloc|apply Kd.R_drewN|apply Kd.R_drew));exact Kd.R_mono HO234.out (fun _ hk => hk.1)⟩, ⟨by (with_reducible repeat (first|refine blk_drewN ?_ _|refine blk_drew ?_|refine blk_alloc ?_ _));exact BK229.out⟩, ⟨by repeat (first|(with_reducible first|apply bA|apply bN|apply bD|refine below_set ?_ GE229.out)|exact HB.out)⟩⟩
   ·rw [if_neg c7] at H
    have c7b0 : decide ((t230.length : Int) < 2) = false := decide_eq_false c7
    have c7b1 : decide (t230.length < 2) = false := decide_eq_false (by omega)
    clear c7
    (first|rw [c7b0]|(simp only [i64_w, i32_w];rw [c7b0])|skip)
    by_cases c9 : 0 < (t230.length : Int)
    ·rw [if_pos c9] at H
     have c9b0 : decide (0 < (t230.length : Int)) = true := decide_eq_true c9
     have c9b1 : decide (0 < t230.length) = true := decide_eq_true (by omega)
     clear c9
     have H' := aK H
     clear H
     obtain ⟨Ao10, co10, eo10⟩ := Kd.R_slice HO234.out
     subst eo10
     have p235 : 0 ≤ (0 : Int) := (by omega)
     have q235 : 0 < (t230.length : Int) := of_decide_eq_true (by first|(with_reducible assumption)|assumption)
     obtain ⟨ad235, e235, hx235_0⟩ := Kd.at_string (Kd.R_reads' HO234.out).2.2 0 p235 q235
     cases e235
     have qi235 : (0 < t230.length) = True := eq_true (by omega)
     (try rw [show ((0 : Int)).toNat = 0 from rfl] at hx235_0)
     (try rw [Addr.add_zero'] at hx235_0)
     replace p235 := eq_true p235
     replace q235 := eq_true q235
     go_wp2
     go_meet
     case rel => exact ⟨_, (decide (((rdOf ByteArray.empty t230 0).size : Int) < 12)), (by first|rfl|(simp;done)|(simp [*];done)), H', ⟨by first|omega|exact Nat.le_refl _⟩, ⟨by (with_reducible repeat (first|apply Kd.V_alloc|apply Kd.V_drewN|apply Kd.V_drew));exact Kd.V_mono HO0.out (fun _ hk => ⟨hk.1.1, ⟨hk.2, hk.1.2⟩⟩)⟩, ⟨by (with_reducible repeat (first|apply Kd.R_alloc|apply Kd.R_drewN|apply Kd.R_drew));exact Kd.R_mono HO234.out (fun _ hk => hk.1)⟩, ⟨by (with_reducible repeat (first|refine blk_drewN ?_ _|refine blk_drew ?_|refine blk_alloc ?_ _));exact BK229.out⟩, ⟨by repeat (first|(with_reducible first|apply bA|apply bN|apply bD|refine below_set ?_ GE229.out)|exact HB.out)⟩⟩
    ·rw [if_neg c9] at H
     exact absurd H (by simp)
  ·replace c6 := Bool.eq_false_iff.mpr c6
   subst c6
   rw [if_neg (show ¬ (false = true) by decide)] at H
   have H' := aK H
   clear H
   go_wp2
   go_meet
   case rel => exact ⟨_, (true), (by first|rfl|(simp;done)|(simp [*];done)), H', ⟨by first|omega|exact Nat.le_refl _⟩, ⟨by (with_reducible repeat (first|apply Kd.V_alloc|apply Kd.V_drewN|apply Kd.V_drew));exact Kd.V_mono HO0.out (fun _ hk => ⟨hk.1.1, ⟨hk.2, hk.1.2⟩⟩)⟩, ⟨by (with_reducible repeat (first|apply Kd.R_alloc|apply Kd.R_drewN|apply Kd.R_drew));exact Kd.R_mono HO234.out (fun _ hk => hk.1)⟩, ⟨by (with_reducible repeat (first|refine blk_drewN ?_ _|refine blk_drew ?_|refine blk_alloc ?_ _));exact BK229.out⟩, ⟨by repeat (first|(with_reducible first|apply bA|apply bN|apply bD|refine below_set ?_ GE229.out)|exact HB.out)⟩⟩
 case rest =>
  clear HC3
  try clear p2
  try clear q2
  try clear hx2
  try clear qi2
  try clear c3
  try clear c5
  try clear c6
  try clear c7
  try clear c7b0
  try clear c7b1
  try clear c9
  try clear c9b0
  try clear c9b1
  try clear hx235_0
  try clear p235
  try clear q235
  obtain ⟨kq, x34_2, rfl, HA, HJ2, HO_0, HO_4, BK229, HB⟩ := hcut
  cases kq with
  | zero => exact absurd HA.out (by simp [wicketmanref10_Parse.j0])
  | succ kj2 =>
   have H := HA.out
   clear HA
   simp only [wicketmanref10_Parse.j0] at H
   by_cases c11 : x34_2 = true
   ·subst c11
    rw [if_pos rfl] at H
    simp only [Option.some.injEq, Prod.mk.injEq] at H
    obtain ⟨rfl, rfl, rfl, rfl⟩ := H
    have hcz12_0 : wc.cell? ⟨gb229, 0, none⟩ = some (.int .i64 0) := (blk_cell BK229.out 0).trans rfl
    have hcz12_1 : wc.cell? ⟨gb229, 1, none⟩ = some (.slice none 0 0) := (blk_cell BK229.out 1).trans rfl
    have hcz12_2 : wc.cell? ⟨gb229, 2, none⟩ = some (.slice none 0 0) := (blk_cell BK229.out 2).trans rfl
    have hfz12_0 := blk_frozen BK229.out 0
    have hfz12_1 := blk_frozen BK229.out 1
    have hfz12_2 := blk_frozen BK229.out 2
    go_wp2
    refine bodyPost_ret (results_ct rfl _ _ gb229 71 #[.int .i64 0, .slice none 0 0, .slice none 0 0] (0, 0) _ rfl (by (with_reducible repeat (first|refine blk_drewN ?_ _|refine blk_drew ?_|refine blk_alloc ?_ _));refine blk_put (cs := #[.int .i64 0, .slice none 0 0, .slice none 0 0]) ?_ 2 _ rfl;(with_reducible repeat (first|refine blk_drewN ?_ _|refine blk_drew ?_|refine blk_alloc ?_ _));refine blk_put (cs := #[.int .i64 0, .slice none 0 0, .slice none 0 0]) ?_ 1 _ rfl;(with_reducible repeat (first|refine blk_drewN ?_ _|refine blk_drew ?_|refine blk_alloc ?_ _));refine blk_put (cs := #[.int .i64 0, .slice none 0 0, .slice none 0 0]) ?_ 0 _ rfl;(with_reducible repeat (first|refine blk_drewN ?_ _|refine blk_drew ?_|refine blk_alloc ?_ _));exact BK229.out) Tryz.underlying71 rfl (by kernel_rfl)) rfl ?_
    exact ⟨_, _, by first|rfl|(simp [errW_none, errW_some] <;> rfl)|(simp [*, errW_none, errW_some] <;> rfl), by first|exact Kd.R_nil _ _ _ _ _|exact Kd.N_nil _ _ _ _ _|exact Kd.V_nil _ _ _ _ _|exact Kd.Q_nil _ _ _ _ _|exact Kd.S_nil _ _ _ _ _, Kd.V_nil _ _ _ _ _, by repeat (first|(with_reducible first|apply bA|apply bN|apply bD|refine below_set ?_ GE229.out)|exact HB.out)⟩
   ·replace c11 := Bool.eq_false_iff.mpr c11
    subst c11
    rw [if_neg (show ¬ (false = true) by decide)] at H
    by_cases c13 : 0 < (t230.length : Int)
    ·rw [if_pos c13] at H
     have c13b0 : decide (0 < (t230.length : Int)) = true := decide_eq_true c13
     have c13b1 : decide (0 < t230.length) = true := decide_eq_true (by omega)
     clear c13
     by_cases c14 : 9 ≤ 12
     ·rw [if_pos c14] at H
      have c14b0 := eq_true c14
      have c14b1 : decide (9 ≤ 12) = true := decide_eq_true c14
      clear c14
      by_cases c15 : 12 ≤ ((rdOf ByteArray.empty t230 0).size : Int)
      ·rw [if_pos c15] at H
       have c15b0 := eq_true c15
       have c15b1 : decide (12 ≤ ((rdOf ByteArray.empty t230 0).size : Int)) = true := decide_eq_true c15
       clear c15
       replace H := Option.bind_eq_some_iff.mp H
       obtain ⟨⟨t237, t238⟩, A160, H⟩ := H
       try dsimp only at H
       have A16 := aK A160
       clear A160
       by_cases c17 : 0 ≤ t231
       ·rw [if_pos c17] at H
        have c17b0 := eq_true c17
        have c17b1 : decide (0 ≤ t231) = true := decide_eq_true c17
        clear c17
        by_cases c18 : t231 ≤ (l0.length : Int)
        ·rw [if_pos c18] at H
         have c18b0 := eq_true c18
         have c18b1 : decide (t231 ≤ (l0.length : Int)) = true := decide_eq_true c18
         clear c18
         obtain ⟨y239, hy239⟩ : ∃ y_ : List Int, y_ = (l0.drop (t231 : Int).toNat) := ⟨_, rfl⟩
         replace H : (wicketmanref10_Parse.l0 kj2 l0 t230 1 t237 ([] : List (S76)) y239) = some (r1, r2, r3, r4) := by first|(rw [hy239];with_reducible exact H)|(have H2_ := (Option.bind_some _ _).symm.trans H;rw [hy239];with_reducible exact H2_)|(have H2_ := (Option.bind_some _ _).symm.trans H;with_reducible exact H2_)|with_reducible exact H|(rw [hy239];exact H)|exact H
         have Ny239 := aK hy239
         clear hy239
         have H' := aK H
         clear H
         obtain ⟨Ao19, co19, eo19⟩ := Kd.R_slice HO_4.out
         subst eo19
         have p236 : 0 ≤ (0 : Int) := (by omega)
         have q236 : 0 < (t230.length : Int) := of_decide_eq_true (by first|(with_reducible assumption)|assumption)
         obtain ⟨ad236, e236, hx236_0⟩ := Kd.at_string (Kd.R_reads' HO_4.out).2.2 0 p236 q236
         cases e236
         have qi236 : (0 < t230.length) = True := eq_true (by omega)
         (try rw [show ((0 : Int)).toNat = 0 from rfl] at hx236_0)
         (try rw [Addr.add_zero'] at hx236_0)
         replace p236 := eq_true p236
         replace q236 := eq_true q236
         go_wp2_with (first|((with_reducible refine gate_callee (f := 59) rfl ?_);refine goesL_ (some 41) rfl rfl Tryz.func59 (by kernel_rfl) rfl #[.string ((rdOf ByteArray.empty t230 0).extract 9 12), .int .i64 999] rfl (by (try simp only [List.map_toArray, List.map_cons, List.map_nil]);first|done|rfl|(simp only [List.length_drop, List.length_take];rfl)) ?_;(with_reducible refine (wicketmanref01_Decimal.calls kj2 ((rdOf ByteArray.empty t230 0).extract 9 12) 999 t237 t238 _ A16.out).mono ?_);rintro e w' ⟨rfl, ⟨nd, rfl⟩⟩;refine ⟨_, rfl, ?_⟩;(try (rw [drewN_self wc];generalize hq_ : World.drewN wc _ = wc;have n0_ : Aside0 (Kd.V (Kd.int .u8) 5 wc w.heap.size (fun k_ => (P0_ k_ ∨ w.heap.size ≤ k_) ∧ some k_ ≠ (.slice (some ad236) t230.length co19 : Value).ownBlock ∧ k_ ≠ gb229) (.slice A0 l0.length c0) l0) := ⟨by rw [← hq_];exact (by (with_reducible repeat (first|apply Kd.V_alloc|apply Kd.V_drewN|apply Kd.V_drew));exact HO_0.out)⟩;have n1_ : Aside0 (Kd.R Kd.string 9 wc w.heap.size (fun k_ => (w.heap.size ≤ k_)) (.slice (some ad236) t230.length co19) t230) := ⟨by rw [← hq_];exact (by (with_reducible repeat (first|apply Kd.R_alloc|apply Kd.R_drewN|apply Kd.R_drew));exact HO_4.out)⟩;have n2_ : Aside0 (wc.heap[gb229]? = some (.cells #[.int .i64 0, .slice none 0 0, .slice none 0 0] 71 (0, 0))) := ⟨by rw [← hq_];exact (by (with_reducible repeat (first|refine blk_drewN ?_ _|refine blk_drew ?_|refine blk_alloc ?_ _));exact BK229.out)⟩;have n3_ : Aside0 (Below w.heap.size w wc) := ⟨by rw [← hq_];exact (by repeat (first|(with_reducible first|apply bA|apply bN|apply bD|refine below_set ?_ GE229.out)|exact HB.out))⟩;clear HO_0 HO_4 BK229 HB hq_;have HO_0 := n0_;have HO_4 := n1_;have BK229 := n2_;have HB := n3_;clear n0_ n1_ n2_ n3_));have q20 : (t231 : Int) ≤ ((l0.length : Int) : Int) := of_decide_eq_true (by first|(with_reducible assumption)|assumption);obtain ⟨i020, hi020, _, hsz20, _⟩ := info_parts info5;have hroom20 : l0.length ≤ c0 := (Kd.V_reads' HO_0.out).2.1;have hC20 : Kd.F (Kd.int .u8) _ _ A0 l0.length l0 := (Kd.V_at (base := w.heap.size) HO_0.out).2.2;have q020 : (0 : Int) ≤ (t231 : Int) := of_decide_eq_true (by first|(with_reducible assumption)|assumption);have hcut20 := cut_from (P := Tryz.prog) 23 5 .i64 Tryz.underlying23 hi020 1 hsz20 A0 l0.length c0 t231 q020 q20;have hr20 := Kd.F_cut (m := (t231 : Int).toNat) (c := c0) hC20 (by omega) hroom20;obtain ⟨A20, hA20⟩ : ∃ A1, A1 = (if c0 = (t231 : Int).toNat then A0 else (A0 : Option Addr).map (·.add ((t231 : Int).toNat * 1))) := ⟨_, rfl⟩;obtain ⟨c20, hc20⟩ : ∃ c1, c1 = c0 - (t231 : Int).toNat := ⟨_, rfl⟩;have hy20 : y239.length = l0.length - (t231 : Int).toNat := (by rw [Ny239.out, List.length_drop] <;> omega);rw [show (l0).drop (t231 : Int).toNat = y239 from Ny239.out.symm] at hr20;replace hr20 : Kd.F (Kd.int .u8) _ _ A20 y239.length y239 := (by rw [hA20];exact hr20);rw [← hy20, ← hA20, ← hc20] at hcut20;have HO243 := aK (show Kd.V (Kd.int .u8) 5 _ w.heap.size _ (.slice A20 y239.length c20) y239 from Kd.V_mk (by rw [hy20, hc20];exact Nat.sub_le_sub_right hroom20 _) hr20);have HC243 := aK (show y239.length ≤ c20 from by rw [hy20, hc20];exact Nat.sub_le_sub_right hroom20 _);clear hr20 hC20 hroom20 hi020 hsz20 hc20;have KY20 := aK hy20;have KA20 := aK hA20;clear hy20 hA20;replace q20 := eq_true q20)|((with_reducible refine gate_dst (N := 9) rfl ?_);(try (refine gate_guard (by rfl) ?_;dsimp only));refine box_event ?hg (N := 9) ?hd (cs := #[.int .i64 0, .slice none 0 0, .slice none 0 0]) (t := 71) ?hr ?_;(case hd => rfl);(case hg => rfl);(case hr => first|(go_simp;done)|(go_simp;rfl));intro gb244 hg w21 hbox hb;have n0_ := aK (Kd.V_below (Kd.V_elderB (by (with_reducible repeat (first|apply Kd.V_alloc|apply Kd.V_drewN|apply Kd.V_drew));exact HO_0.out) gb244 (Nat.le_of_eq hg.symm)) hb);have n1_ := aK (Kd.R_below (by (with_reducible repeat (first|apply Kd.R_alloc|apply Kd.R_drewN|apply Kd.R_drew));exact HO_4.out) hb);have n2_ := aK (Kd.V_below (Kd.V_elderB (by (with_reducible repeat (first|apply Kd.V_alloc|apply Kd.V_drewN|apply Kd.V_drew));exact HO243.out) gb244 (Nat.le_of_eq hg.symm)) hb);have n3_ := aK (blk_below (g := gb229) (o := .cells #[.int .i64 0, .slice none 0 0, .slice none 0 0] 71 (0, 0)) (by (with_reducible repeat (first|refine blk_drewN ?_ _|refine blk_drew ?_|refine blk_alloc ?_ _));exact BK229.out) hb);have n4_ := aK (below_step (by repeat (first|(with_reducible first|apply bA|apply bN|apply bD|refine below_set ?_ GE229.out)|exact HB.out)) hb);have n5_ := aK (hbox);have n6_ := aK ((by rw [hg];exact (below_size (by repeat (first|(with_reducible first|apply bA|apply bN|apply bD|refine below_set ?_ GE229.out)|exact HB.out))) : w.heap.size ≤ gb244));have n7_ := aK ((by rw [hg];exact (below_size (by repeat (first|(with_reducible first|apply bA|apply bN|apply bD|refine below_set ?_ GE229.out)|exact HB.out))) : w.heap.size ≤ gb244));have n8_ := aK ((by rw [hg];exact Nat.ne_of_lt (blk_lt (g := gb229) (o := .cells #[.int .i64 0, .slice none 0 0, .slice none 0 0] 71 (0, 0)) (by (with_reducible repeat (first|refine blk_drewN ?_ _|refine blk_drew ?_|refine blk_alloc ?_ _));exact BK229.out)) : gb229 ≠ gb244));have n9_ := aK ((by rw [hg];exact Nat.ne_of_gt (blk_lt (g := gb229) (o := .cells #[.int .i64 0, .slice none 0 0, .slice none 0 0] 71 (0, 0)) (by (with_reducible repeat (first|refine blk_drewN ?_ _|refine blk_drew ?_|refine blk_alloc ?_ _));exact BK229.out)) : gb244 ≠ gb229));clear HO_0;clear HO_4;clear HO243;clear BK229;clear HB;have HO_0 := n0_;have HO_4 := n1_;have HO243 := n2_;have BK229 := n3_;have HB := n4_;have BK244 := n5_;have GW244 := n6_;have GE244 := n7_;have NB229_244 := n8_;have NB244_229 := n9_;clear n0_ n1_ n2_ n3_ n4_ n5_ n6_ n7_ n8_ n9_;clear hb hbox hg;have hnb22 := NB244_229.out;have hnc22 := NB229_244.out;have hcz23_0 : w21.cell? ⟨gb244, 0, none⟩ = some (.int .i64 0) := (blk_cell BK244.out 0).trans rfl;have hcz23_1 : w21.cell? ⟨gb244, 1, none⟩ = some (.slice none 0 0) := (blk_cell BK244.out 1).trans rfl;have hcz23_2 : w21.cell? ⟨gb244, 2, none⟩ = some (.slice none 0 0) := (blk_cell BK244.out 2).trans rfl;have hfz23_0 := blk_frozen BK244.out 0;have hfz23_1 := blk_frozen BK244.out 1;have hfz23_2 := blk_frozen BK244.out 2))
         go_loopg [10] kj2 (fun kq v10 w' => ∃ (x10_2 : Int) (x230000_2 : Int) (x245001_2 : List (S76)) (u245001 : Value), v10 = .int .i64 x10_2 ∧ Aside0 (wicketmanref10_Parse.l0 kq l0 t230 x10_2 t237 x245001_2 y239 = some (r1, r2, r3, r4)) ∧ Aside0 (kq ≤ kj2) ∧ Aside0 (Kd.V (Kd.int .u8) 5 w' w.heap.size (fun k_ => (P0_ k_ ∨ w.heap.size ≤ k_) ∧ some k_ ≠ ((.slice (some ad236) t230.length co19) : Value).ownBlock ∧ some k_ ≠ (u245001 : Value).ownBlock ∧ k_ ≠ gb229 ∧ k_ ≠ gb244) (.slice A0 l0.length c0) l0) ∧ Aside0 (Kd.R Kd.string 9 w' w.heap.size (fun k_ => (w.heap.size ≤ k_)) (.slice (some ad236) t230.length co19) t230) ∧ Aside0 (Kd.R k76 76 w' w.heap.size (fun k_ => (w.heap.size ≤ k_)) u245001 x245001_2) ∧ Aside0 (Kd.V (Kd.int .u8) 5 w' w.heap.size (fun k_ => (P0_ k_ ∨ w.heap.size ≤ k_) ∧ some k_ ≠ ((.slice (some ad236) t230.length co19) : Value).ownBlock ∧ some k_ ≠ (u245001 : Value).ownBlock ∧ k_ ≠ gb229 ∧ k_ ≠ gb244) (.slice A20 y239.length c20) y239) ∧ Aside0 (w'.heap[gb229]? = some (.cells #[.int .i64 x230000_2, (.slice none 0 0), (.slice none 0 0)] 71 (0, 0))) ∧ Aside0 (w'.heap[gb244]? = some (.cells #[.int .i64 t237, u245001, (.slice A20 y239.length c20)] 71 (0, 0))) ∧ Aside0 (Below w.heap.size w w'))
         case atStart => exact ⟨(1), (0), (([] : List (S76))), (.slice none 0 0), (by first|rfl|(simp;done)|(simp [*];done)), H', ⟨Nat.le_refl _⟩, ⟨by (with_reducible repeat (first|apply Kd.V_alloc|apply Kd.V_drewN|apply Kd.V_drew));exact Kd.V_mono (Kd.V_far (p := ⟨gb244, 2, none⟩) (Kd.V_far (p := ⟨gb244, 1, none⟩) (Kd.V_far (p := ⟨gb244, 0, none⟩) (Kd.V_mono HO_0.out (fun k_ hk => (⟨hk, hk.2⟩ : _ ∧ k_ ≠ gb244))) (fun _ hk => hk.2) (.int .i64 t237)) (fun _ hk => hk.2) (.slice none 0 0)) (fun _ hk => hk.2) (.slice A20 y239.length c20)) (fun _ hk => ⟨hk.1.1.1, ⟨hk.1.1.2.1, ⟨(by simp [Value.ownBlock]), ⟨hk.1.1.2.2, hk.1.2⟩⟩⟩⟩)⟩, ⟨by (with_reducible repeat (first|apply Kd.R_alloc|apply Kd.R_drewN|apply Kd.R_drew));exact Kd.R_mono (Kd.R_far (p := ⟨gb244, 2, none⟩) (Kd.R_far (p := ⟨gb244, 1, none⟩) (Kd.R_far (p := ⟨gb244, 0, none⟩) (Kd.R_types HO_4.out BK244.out (by decide)) (fun _ hk => hk.2) (.int .i64 t237)) (fun _ hk => hk.2) (.slice none 0 0)) (fun _ hk => hk.2) (.slice A20 y239.length c20)) (fun _ hk => hk.1)⟩, ⟨by first|exact Kd.R_nil _ _ _ _ _|exact Kd.N_nil _ _ _ _ _|exact Kd.V_nil _ _ _ _ _|exact Kd.Q_nil _ _ _ _ _|exact Kd.S_nil _ _ _ _ _⟩, ⟨by (with_reducible repeat (first|apply Kd.V_alloc|apply Kd.V_drewN|apply Kd.V_drew));exact Kd.V_mono (Kd.V_far (p := ⟨gb244, 2, none⟩) (Kd.V_far (p := ⟨gb244, 1, none⟩) (Kd.V_far (p := ⟨gb244, 0, none⟩) (Kd.V_mono HO243.out (fun k_ hk => (⟨hk, hk.2⟩ : _ ∧ k_ ≠ gb244))) (fun _ hk => hk.2) (.int .i64 t237)) (fun _ hk => hk.2) (.slice none 0 0)) (fun _ hk => hk.2) (.slice A20 y239.length c20)) (fun _ hk => ⟨hk.1.1.1, ⟨hk.1.1.2.1, ⟨(by simp [Value.ownBlock]), ⟨hk.1.1.2.2, hk.1.2⟩⟩⟩⟩)⟩, ⟨by (with_reducible repeat (first|refine blk_drewN ?_ _|refine blk_drew ?_|refine blk_alloc ?_ _));refine blk_far ?_ NB229_244.out _;(with_reducible repeat (first|refine blk_drewN ?_ _|refine blk_drew ?_|refine blk_alloc ?_ _));refine blk_far ?_ NB229_244.out _;(with_reducible repeat (first|refine blk_drewN ?_ _|refine blk_drew ?_|refine blk_alloc ?_ _));refine blk_far ?_ NB229_244.out _;(with_reducible repeat (first|refine blk_drewN ?_ _|refine blk_drew ?_|refine blk_alloc ?_ _));exact BK229.out⟩, ⟨by (with_reducible repeat (first|refine blk_drewN ?_ _|refine blk_drew ?_|refine blk_alloc ?_ _));refine blk_put (cs := #[.int .i64 t237, .slice none 0 0, .slice none 0 0]) ?_ 2 _ rfl;(with_reducible repeat (first|refine blk_drewN ?_ _|refine blk_drew ?_|refine blk_alloc ?_ _));refine blk_put (cs := #[.int .i64 t237, .slice none 0 0, .slice none 0 0]) ?_ 1 _ rfl;(with_reducible repeat (first|refine blk_drewN ?_ _|refine blk_drew ?_|refine blk_alloc ?_ _));refine blk_put (cs := #[.int .i64 0, .slice none 0 0, .slice none 0 0]) ?_ 0 _ rfl;(with_reducible repeat (first|refine blk_drewN ?_ _|refine blk_drew ?_|refine blk_alloc ?_ _));exact BK244.out⟩, ⟨by repeat (first|(with_reducible first|apply bA|apply bN|apply bD|refine below_set ?_ GE229.out|refine below_set ?_ GE244.out)|exact HB.out)⟩⟩
         case round =>
          clear H'
          try clear c1
          try clear c2
          try clear p2
          try clear q2
          try clear hx2
          try clear qi2
          try clear c3
          try clear c5
          try clear c6
          try clear c7
          try clear c7b0
          try clear c7b1
          try clear c9
          try clear c9b0
          try clear c9b1
          try clear c11
          try clear c13
          try clear c13b0
          try clear c13b1
          try clear c14
          try clear c14b0
          try clear c14b1
          try clear c15
          try clear c15b0
          try clear c15b1
          try clear c17
          try clear c17b0
          try clear c17b1
          try clear c18
          try clear c18b0
          try clear c18b1
          try clear c20
          try clear q20
          try clear c22
          try clear p23
          try clear q23
          try clear hx23
          try clear qi23
          try clear hcz12_0
          try clear hcz12_1
          try clear hcz12_2
          try clear hcz23_0
          try clear hcz23_1
          try clear hcz23_2
          try clear hfz12_0
          try clear hfz12_1
          try clear hfz12_2
          try clear hfz23_0
          try clear hfz23_1
          try clear hfz23_2
          try clear hx235_0
          try clear hx236_0
          try clear p2
          try clear p235
          try clear p236
          try clear q020
          try clear q2
          try clear q20
          try clear q235
          try clear q236
          obtain ⟨x10_2, x230000_2, x245001_2, u245001, rfl, HA, HK2, HO_0, HO_4, HO_245001, HO_245002, BK229, BK244, HB⟩ := hrel
          cases gk with
          | zero => exact absurd HA.out (by simp [wicketmanref10_Parse.l0])
          | succ k2 =>
           have H := HA.out
           clear HA
           simp only [wicketmanref10_Parse.l0] at H
           by_cases c24 : x10_2 < (wrap64 ((t230.length : Int) - 1))
           ·rw [if_pos c24] at H
            have c24b0 : decide (x10_2 < (wrap64 ((t230.length : Int) - 1))) = true := decide_eq_true c24
            clear c24
            by_cases c25 : 0 ≤ x10_2
            ·rw [if_pos c25] at H
             have c25b0 : decide (0 ≤ x10_2) = true := decide_eq_true c25
             clear c25
             by_cases c26 : x10_2 < (t230.length : Int)
             ·rw [if_pos c26] at H
              have c26b0 : decide (x10_2 < (t230.length : Int)) = true := decide_eq_true c26
              clear c26
              replace H := Option.bind_eq_some_iff.mp H
              obtain ⟨⟨t246, t247, t248⟩, A270, H⟩ := H
              try dsimp only at H
              have A27 := aK A270
              clear A270
              by_cases c28 : t248 = 0
              ·rw [if_pos c28] at H
               have c28b0 : (t248 == 0) = true := beq_iff_eq.mpr c28
               have c28b1 : (t248 != 0) = false := bne_eq_false_iff_eq.mpr c28
               clear c28
               by_cases c29 : x245001_2.length < 4398046511104
               ·rw [if_pos c29] at H
                have LMc29 := aK c29
                clear c29
                obtain ⟨y250, hy250⟩ : ∃ y_ : List (S76), y_ = (x245001_2 ++ [(⟨t246, t247⟩ : S76)]) := ⟨_, rfl⟩
                replace H : (wicketmanref10_Parse.l0 k2 l0 t230 (wrap64 (x10_2 + 1)) t237 y250 y239) = some (r1, r2, r3, r4) := by first|(rw [hy250];with_reducible exact H)|(have H2_ := (Option.bind_some _ _).symm.trans H;rw [hy250];with_reducible exact H2_)|(have H2_ := (Option.bind_some _ _).symm.trans H;with_reducible exact H2_)|with_reducible exact H|(rw [hy250];exact H)|exact H
                have Ny250 := aK hy250
                clear hy250
                have H' := aK H
                clear H
                have p245 : 0 ≤ (x10_2 : Int) := of_decide_eq_true (by first|(with_reducible assumption)|assumption)
                have q245 : x10_2 < (t230.length : Int) := of_decide_eq_true (by first|(with_reducible assumption)|assumption)
                obtain ⟨ad245, e245, hx245_0⟩ := Kd.at_string (Kd.R_reads' HO_4.out).2.2 x10_2 p245 q245
                obtain rfl : ad236 = ad245 := (by injection e245)
                replace p245 := eq_true p245
                replace q245 := eq_true q245
                go_wp2_with (first|((with_reducible refine gate_callee (f := 60) rfl ?_);refine goesL_ (some 61) rfl rfl Tryz.func60 (by kernel_rfl) rfl #[.string (rdOf ByteArray.empty t230 x10_2)] rfl (by (try simp only [List.map_toArray, List.map_cons, List.map_nil]);first|done|rfl|(simp only [List.length_drop, List.length_take];rfl)) ?_;(with_reducible refine (wicketmanref08_Field.calls k2 (rdOf ByteArray.empty t230 x10_2) t246 t247 t248 _ A27.out).mono ?_);rintro e w30 ⟨rfl, hb⟩;refine ⟨_, rfl, ?_⟩;have n0_ := aK (Kd.V_below (by (with_reducible repeat (first|apply Kd.V_alloc|apply Kd.V_drewN|apply Kd.V_drew));exact HO_0.out) hb);have n1_ := aK (Kd.R_below (by (with_reducible repeat (first|apply Kd.R_alloc|apply Kd.R_drewN|apply Kd.R_drew));exact HO_4.out) hb);have n2_ := aK (Kd.R_below (by (with_reducible repeat (first|apply Kd.R_alloc|apply Kd.R_drewN|apply Kd.R_drew));exact HO_245001.out) hb);have n3_ := aK (Kd.V_below (by (with_reducible repeat (first|apply Kd.V_alloc|apply Kd.V_drewN|apply Kd.V_drew));exact HO_245002.out) hb);have n4_ := aK (blk_below (g := gb229) (o := .cells #[.int .i64 x230000_2, .slice none 0 0, .slice none 0 0] 71 (0, 0)) (by (with_reducible repeat (first|refine blk_drewN ?_ _|refine blk_drew ?_|refine blk_alloc ?_ _));exact BK229.out) hb);have n5_ := aK (blk_below (g := gb244) (o := .cells #[.int .i64 t237, u245001, .slice A20 y239.length c20] 71 (0, 0)) (by (with_reducible repeat (first|refine blk_drewN ?_ _|refine blk_drew ?_|refine blk_alloc ?_ _));exact BK244.out) hb);have n6_ := aK (below_step (by repeat (first|(with_reducible first|apply bA|apply bN|apply bD|refine below_set ?_ GE229.out|refine below_set ?_ GE244.out)|exact HB.out)) hb);clear HO_0;clear HO_4;clear HO_245001;clear HO_245002;clear BK229;clear BK244;clear HB;have HO_0 := n0_;have HO_4 := n1_;have HO_245001 := n2_;have HO_245002 := n3_;have BK229 := n4_;have BK244 := n5_;have HB := n6_;clear n0_ n1_ n2_ n3_ n4_ n5_ n6_;try clear hb)|((with_reducible refine gate_dst (N := 11) rfl ?_);(try (refine gate_guard (by rfl) ?_;dsimp only));refine box_event ?hg (N := 11) ?hd (cs := #[.string (⟨#[]⟩ : BA), .string (⟨#[]⟩ : BA)]) (t := 76) ?hr ?_;(case hd => rfl);(case hg => rfl);(case hr => first|(go_simp;done)|(go_simp;rfl));intro gb249 hg w31 hbox hb;have n0_ := aK (Kd.V_below (Kd.V_elderB (by (with_reducible repeat (first|apply Kd.V_alloc|apply Kd.V_drewN|apply Kd.V_drew));exact HO_0.out) gb249 (Nat.le_of_eq hg.symm)) hb);have n1_ := aK (Kd.R_below (by (with_reducible repeat (first|apply Kd.R_alloc|apply Kd.R_drewN|apply Kd.R_drew));exact HO_4.out) hb);have n2_ := aK (Kd.R_below (Kd.R_elderB (by (with_reducible repeat (first|apply Kd.R_alloc|apply Kd.R_drewN|apply Kd.R_drew));exact HO_245001.out) gb249 (Nat.le_of_eq hg.symm)) hb);have n3_ := aK (Kd.V_below (Kd.V_elderB (by (with_reducible repeat (first|apply Kd.V_alloc|apply Kd.V_drewN|apply Kd.V_drew));exact HO_245002.out) gb249 (Nat.le_of_eq hg.symm)) hb);have n4_ := aK (blk_below (g := gb229) (o := .cells #[.int .i64 x230000_2, .slice none 0 0, .slice none 0 0] 71 (0, 0)) (by (with_reducible repeat (first|refine blk_drewN ?_ _|refine blk_drew ?_|refine blk_alloc ?_ _));exact BK229.out) hb);have n5_ := aK (blk_below (g := gb244) (o := .cells #[.int .i64 t237, u245001, .slice A20 y239.length c20] 71 (0, 0)) (by (with_reducible repeat (first|refine blk_drewN ?_ _|refine blk_drew ?_|refine blk_alloc ?_ _));exact BK244.out) hb);have n6_ := aK (below_step (by repeat (first|(with_reducible first|apply bA|apply bN|apply bD|refine below_set ?_ GE229.out|refine below_set ?_ GE244.out)|exact HB.out)) hb);have n7_ := aK (hbox);have n8_ := aK ((by rw [hg];exact (below_size (by repeat (first|(with_reducible first|apply bA|apply bN|apply bD|refine below_set ?_ GE229.out|refine below_set ?_ GE244.out)|exact HB.out))) : w.heap.size ≤ gb249));have n9_ := aK ((by rw [hg];exact (below_size (by repeat (first|(with_reducible first|apply bA|apply bN|apply bD|refine below_set ?_ GE229.out|refine below_set ?_ GE244.out)|exact HB.out))) : w.heap.size ≤ gb249));have n10_ := aK ((by rw [hg];exact Nat.ne_of_lt (blk_lt (g := gb229) (o := .cells #[.int .i64 x230000_2, .slice none 0 0, .slice none 0 0] 71 (0, 0)) (by (with_reducible repeat (first|refine blk_drewN ?_ _|refine blk_drew ?_|refine blk_alloc ?_ _));exact BK229.out)) : gb229 ≠ gb249));have n11_ := aK ((by rw [hg];exact Nat.ne_of_gt (blk_lt (g := gb229) (o := .cells #[.int .i64 x230000_2, .slice none 0 0, .slice none 0 0] 71 (0, 0)) (by (with_reducible repeat (first|refine blk_drewN ?_ _|refine blk_drew ?_|refine blk_alloc ?_ _));exact BK229.out)) : gb249 ≠ gb229));have n12_ := aK ((by rw [hg];exact Nat.ne_of_lt (blk_lt (g := gb244) (o := .cells #[.int .i64 t237, u245001, .slice A20 y239.length c20] 71 (0, 0)) (by (with_reducible repeat (first|refine blk_drewN ?_ _|refine blk_drew ?_|refine blk_alloc ?_ _));exact BK244.out)) : gb244 ≠ gb249));have n13_ := aK ((by rw [hg];exact Nat.ne_of_gt (blk_lt (g := gb244) (o := .cells #[.int .i64 t237, u245001, .slice A20 y239.length c20] 71 (0, 0)) (by (with_reducible repeat (first|refine blk_drewN ?_ _|refine blk_drew ?_|refine blk_alloc ?_ _));exact BK244.out)) : gb249 ≠ gb244));clear HO_0;clear HO_4;clear HO_245001;clear HO_245002;clear BK229;clear BK244;clear HB;have HO_0 := n0_;have HO_4 := n1_;have HO_245001 := n2_;have HO_245002 := n3_;have BK229 := n4_;have BK244 := n5_;have HB := n6_;have BK249 := n7_;have GW249 := n8_;have GE249 := n9_;have NB229_249 := n10_;have NB249_229 := n11_;have NB244_249 := n12_;have NB249_244 := n13_;clear n0_ n1_ n2_ n3_ n4_ n5_ n6_ n7_ n8_ n9_ n10_ n11_ n12_ n13_;clear hb hbox hg;have hnb32 := NB249_229.out;have hnc32 := NB229_249.out;have hnb33 := NB249_244.out;have hnc33 := NB244_249.out;have hcz34_0 : w31.cell? ⟨gb249, 0, none⟩ = some (.string (⟨#[]⟩ : BA)) := (blk_cell BK249.out 0).trans rfl;have hcz34_1 : w31.cell? ⟨gb249, 1, none⟩ = some (.string (⟨#[]⟩ : BA)) := (blk_cell BK249.out 1).trans rfl;have hfz34_0 := blk_frozen BK249.out 0;have hfz34_1 := blk_frozen BK249.out 1;have hnb35 := NB244_229.out;have hnc35 := NB229_244.out;have hcz36_0 : w31.cell? ⟨gb244, 0, none⟩ = some (.int .i64 t237) := (blk_cell BK244.out 0).trans rfl;have hcz36_1 : w31.cell? ⟨gb244, 1, none⟩ = some (u245001) := (blk_cell BK244.out 1).trans rfl;have hcz36_2 : w31.cell? ⟨gb244, 2, none⟩ = some (.slice A20 y239.length c20) := (blk_cell BK244.out 2).trans rfl;have hfz36_0 := blk_frozen BK244.out 0;have hfz36_1 := blk_frozen BK244.out 1;have hfz36_2 := blk_frozen BK244.out 2)|((with_reducible refine gate_builtin (b := .append) (xs := #[.tmp 68, .tmp 70]) rfl ?_);(try (refine gate_guard (by rfl) ?_;dsimp only));at_builtin;refine Kd.R_append k76 (w0 := w) w.heap.size rfl (.tmp 68) (.tmp 70) 22 76 (.agg #[(.string ⟨#[]⟩), (.string ⟨#[]⟩)]) 32 rfl Tryz.underlying22 info76 rfl (by decide) (by omega) u245001 x245001_2 (⟨t246, t247⟩ : S76) [.string t246, .string t247] (fun k_ => (w.heap.size ≤ k_) ∧ k_ ≠ gb249) (fun _ => False) rfl (by first|(go_simp;done)|(go_simp;rfl)) ?aP (fun _ hk => hk.elim) ?aF ?aO ?aB ?aS ?aL ?_;(case aP => exact k76_mkM _ _ _ (⟨t246, t247⟩ : S76));(case aB => exact (by repeat (first|(with_reducible first|apply bA|apply bN|apply bD|refine below_set ?_ GE229.out|refine below_set ?_ GE244.out|refine below_set ?_ GE249.out)|exact HB.out)));(case aF => exact (fun k_ hk => ⟨(Nat.le_trans (below_size (by repeat (first|(with_reducible first|apply bA|apply bN|apply bD|refine below_set ?_ GE229.out|refine below_set ?_ GE244.out|refine below_set ?_ GE249.out)|exact HB.out))) hk), Kd.freshB (g := gb249) (o := .cells #[.string t246, .string t247] 76 (0, 0)) (by (with_reducible repeat (first|refine blk_drewN ?_ _|refine blk_drew ?_|refine blk_alloc ?_ _));refine blk_put (cs := #[.string t246, .string (⟨#[]⟩ : BA)]) ?_ 1 _ rfl;(with_reducible repeat (first|refine blk_drewN ?_ _|refine blk_drew ?_|refine blk_alloc ?_ _));refine blk_put (cs := #[.string (⟨#[]⟩ : BA), .string (⟨#[]⟩ : BA)]) ?_ 0 _ rfl;(with_reducible repeat (first|refine blk_drewN ?_ _|refine blk_drew ?_|refine blk_alloc ?_ _));exact BK249.out) k_ hk⟩));(case aO => exact (by (with_reducible repeat (first|apply Kd.R_alloc|apply Kd.R_drewN|apply Kd.R_drew));exact Kd.R_mono (Kd.R_far (p := ⟨gb249, 1, none⟩) (Kd.R_far (p := ⟨gb249, 0, none⟩) (Kd.R_mono HO_245001.out (fun k_ hk => (⟨hk, hk.2⟩ : _ ∧ k_ ≠ gb249))) (fun _ hk => hk.2) (.string t246)) (fun _ hk => hk.2) (.string t247)) (fun _ hk => ⟨hk.1.1, hk.1.2⟩)));(case aS => exact (below_size (by repeat (first|(with_reducible first|apply bA|apply bN|apply bD|refine below_set ?_ GE229.out|refine below_set ?_ GE244.out|refine below_set ?_ GE249.out)|exact HB.out))));(case aL => have := LMc29.out;omega);intro v251 w37 ho hb hg hat;rw [← Ny250.out] at ho;have n0_ := aK (Kd.V_afterv (ok := (fun k_ => (P0_ k_ ∨ w.heap.size ≤ k_) ∧ some k_ ≠ (.slice (some ad236) t230.length co19 : Value).ownBlock ∧ k_ ≠ gb229 ∧ k_ ≠ gb244 ∧ k_ ≠ gb249)) (by (with_reducible repeat (first|apply Kd.V_alloc|apply Kd.V_drewN|apply Kd.V_drew));exact Kd.V_mono (Kd.V_far (p := ⟨gb249, 1, none⟩) (Kd.V_far (p := ⟨gb249, 0, none⟩) (Kd.V_mono HO_0.out (fun k_ hk => (⟨hk, hk.2⟩ : _ ∧ k_ ≠ gb249))) (fun _ hk => hk.2) (.string t246)) (fun _ hk => hk.2) (.string t247)) (fun _ hk => ⟨⟨hk.1.1.1, ⟨hk.1.1.2.1, ⟨hk.1.1.2.2.2.1, ⟨hk.1.1.2.2.2.2, hk.1.2⟩⟩⟩⟩, hk.1.1.2.2.1⟩)) hg hat);have n1_ := aK (Kd.R_over' (by (with_reducible repeat (first|apply Kd.R_alloc|apply Kd.R_drewN|apply Kd.R_drew));exact (Kd.R_mono (Kd.R_far (p := ⟨gb249, 1, none⟩) (Kd.R_far (p := ⟨gb249, 0, none⟩) (Kd.R_types HO_4.out BK249.out (by decide)) (fun _ hk => hk.2) (.string t246)) (fun _ hk => hk.2) (.string t247)) (fun _ h_ => h_.1))) (Kd.R_typed (by (with_reducible repeat (first|apply Kd.R_alloc|apply Kd.R_drewN|apply Kd.R_drew));exact (Kd.R_mono (Kd.R_far (p := ⟨gb249, 1, none⟩) (Kd.R_far (p := ⟨gb249, 0, none⟩) (Kd.R_mono HO_245001.out (fun k_ hk => (⟨hk, hk.2⟩ : _ ∧ k_ ≠ gb249))) (fun _ hk => hk.2) (.string t246)) (fun _ hk => hk.2) (.string t247)) (fun _ h_ => h_.1)))) (by decide) hg);have n2_ := aK (Kd.V_afterv (ok := (fun k_ => (P0_ k_ ∨ w.heap.size ≤ k_) ∧ some k_ ≠ (.slice (some ad236) t230.length co19 : Value).ownBlock ∧ k_ ≠ gb229 ∧ k_ ≠ gb244 ∧ k_ ≠ gb249)) (by (with_reducible repeat (first|apply Kd.V_alloc|apply Kd.V_drewN|apply Kd.V_drew));exact Kd.V_mono (Kd.V_far (p := ⟨gb249, 1, none⟩) (Kd.V_far (p := ⟨gb249, 0, none⟩) (Kd.V_mono HO_245002.out (fun k_ hk => (⟨hk, hk.2⟩ : _ ∧ k_ ≠ gb249))) (fun _ hk => hk.2) (.string t246)) (fun _ hk => hk.2) (.string t247)) (fun _ hk => ⟨⟨hk.1.1.1, ⟨hk.1.1.2.1, ⟨hk.1.1.2.2.2.1, ⟨hk.1.1.2.2.2.2, hk.1.2⟩⟩⟩⟩, hk.1.1.2.2.1⟩)) hg hat);have n3_ := aK (blk_grown (g := gb229) (o := .cells #[.int .i64 x230000_2, .slice none 0 0, .slice none 0 0] 71 (0, 0)) (by (with_reducible repeat (first|refine blk_drewN ?_ _|refine blk_drew ?_|refine blk_alloc ?_ _));refine blk_far ?_ NB229_249.out _;(with_reducible repeat (first|refine blk_drewN ?_ _|refine blk_drew ?_|refine blk_alloc ?_ _));refine blk_far ?_ NB229_249.out _;(with_reducible repeat (first|refine blk_drewN ?_ _|refine blk_drew ?_|refine blk_alloc ?_ _));exact BK229.out) hg (Kd.R_ne HO_245001.out BK229.out (by decide)));have n4_ := aK (blk_grown (g := gb244) (o := .cells #[.int .i64 t237, u245001, .slice A20 y239.length c20] 71 (0, 0)) (by (with_reducible repeat (first|refine blk_drewN ?_ _|refine blk_drew ?_|refine blk_alloc ?_ _));refine blk_far ?_ NB244_249.out _;(with_reducible repeat (first|refine blk_drewN ?_ _|refine blk_drew ?_|refine blk_alloc ?_ _));refine blk_far ?_ NB244_249.out _;(with_reducible repeat (first|refine blk_drewN ?_ _|refine blk_drew ?_|refine blk_alloc ?_ _));exact BK244.out) hg (Kd.R_ne HO_245001.out BK244.out (by decide)));have n5_ := aK (blk_grown (g := gb249) (o := .cells #[.string t246, .string t247] 76 (0, 0)) (by (with_reducible repeat (first|refine blk_drewN ?_ _|refine blk_drew ?_|refine blk_alloc ?_ _));refine blk_put (cs := #[.string t246, .string (⟨#[]⟩ : BA)]) ?_ 1 _ rfl;(with_reducible repeat (first|refine blk_drewN ?_ _|refine blk_drew ?_|refine blk_alloc ?_ _));refine blk_put (cs := #[.string (⟨#[]⟩ : BA), .string (⟨#[]⟩ : BA)]) ?_ 0 _ rfl;(with_reducible repeat (first|refine blk_drewN ?_ _|refine blk_drew ?_|refine blk_alloc ?_ _));exact BK249.out) hg (Kd.R_away HO_245001.out (fun _ hk => hk.2)));have n6_ := aK (hb);have n7_ := aK (ho);clear HO_0;clear HO_4;clear HO_245002;clear BK229;clear BK244;clear BK249;clear HB;clear HO_245001;have HO_0 := n0_;have HO_4 := n1_;have HO_245002 := n2_;have BK229 := n3_;have BK244 := n4_;have BK249 := n5_;have HB := n6_;have HO252 := n7_;clear n0_ n1_ n2_ n3_ n4_ n5_ n6_ n7_;clear ho hb hg hat;obtain ⟨Ao38, co38, eo38⟩ := Kd.R_slice HO252.out;subst eo38;have hcz39_0 : w37.cell? ⟨gb244, 0, none⟩ = some (.int .i64 t237) := (blk_cell BK244.out 0).trans rfl;have hcz39_1 : w37.cell? ⟨gb244, 1, none⟩ = some (u245001) := (blk_cell BK244.out 1).trans rfl;have hcz39_2 : w37.cell? ⟨gb244, 2, none⟩ = some (.slice A20 y239.length c20) := (blk_cell BK244.out 2).trans rfl;have hfz39_0 := blk_frozen BK244.out 0;have hfz39_1 := blk_frozen BK244.out 1;have hfz39_2 := blk_frozen BK244.out 2))
                go_roundg k2
                case measure => have := HJ2.out;have := HK2.out;omega
                case rel => exact ⟨(wrap64 (x10_2 + 1)), (x230000_2), (y250), (.slice Ao38 y250.length co38), (by first|rfl|(simp;done)|(simp [*];done)), H', ⟨by have := HJ2.out;have := HK2.out;omega⟩, ⟨by (with_reducible repeat (first|apply Kd.V_alloc|apply Kd.V_drewN|apply Kd.V_drew));exact Kd.V_mono (Kd.V_far (p := ⟨gb244, 1, none⟩) (Kd.V_mono HO_0.out (fun k_ hk => (⟨hk, hk.1.2.2.2.1⟩ : _ ∧ k_ ≠ gb244))) (fun _ hk => hk.2) (.slice Ao38 y250.length co38)) (fun _ hk => ⟨hk.1.1.1, ⟨hk.1.1.2.1, ⟨hk.1.2, ⟨hk.1.1.2.2.1, hk.1.1.2.2.2.1⟩⟩⟩⟩)⟩, ⟨by (with_reducible repeat (first|apply Kd.R_alloc|apply Kd.R_drewN|apply Kd.R_drew));exact Kd.R_mono (Kd.R_far (p := ⟨gb244, 1, none⟩) (Kd.R_types HO_4.out BK244.out (by decide)) (fun _ hk => hk.2) (.slice Ao38 y250.length co38)) (fun _ hk => hk.1)⟩, ⟨by (with_reducible repeat (first|apply Kd.R_alloc|apply Kd.R_drewN|apply Kd.R_drew));exact Kd.R_mono (Kd.R_far (p := ⟨gb244, 1, none⟩) (Kd.R_types HO252.out BK244.out (by decide)) (fun _ hk => hk.2) (.slice Ao38 y250.length co38)) (fun _ hk => hk.1.1)⟩, ⟨by (with_reducible repeat (first|apply Kd.V_alloc|apply Kd.V_drewN|apply Kd.V_drew));exact Kd.V_mono (Kd.V_far (p := ⟨gb244, 1, none⟩) (Kd.V_mono HO_245002.out (fun k_ hk => (⟨hk, hk.1.2.2.2.1⟩ : _ ∧ k_ ≠ gb244))) (fun _ hk => hk.2) (.slice Ao38 y250.length co38)) (fun _ hk => ⟨hk.1.1.1, ⟨hk.1.1.2.1, ⟨hk.1.2, ⟨hk.1.1.2.2.1, hk.1.1.2.2.2.1⟩⟩⟩⟩)⟩, ⟨by (with_reducible repeat (first|refine blk_drewN ?_ _|refine blk_drew ?_|refine blk_alloc ?_ _));refine blk_far ?_ NB229_244.out _;(with_reducible repeat (first|refine blk_drewN ?_ _|refine blk_drew ?_|refine blk_alloc ?_ _));exact BK229.out⟩, ⟨by (with_reducible repeat (first|refine blk_drewN ?_ _|refine blk_drew ?_|refine blk_alloc ?_ _));refine blk_put (cs := #[.int .i64 t237, u245001, .slice A20 y239.length c20]) ?_ 1 _ rfl;(with_reducible repeat (first|refine blk_drewN ?_ _|refine blk_drew ?_|refine blk_alloc ?_ _));exact BK244.out⟩, ⟨by repeat (first|(with_reducible first|apply bA|apply bN|apply bD|refine below_set ?_ GE229.out|refine below_set ?_ GE244.out|refine below_set ?_ GE249.out)|exact HB.out)⟩⟩
               ·rw [if_neg c29] at H
                exact absurd H (by simp)
              ·rw [if_neg c28] at H
               have c28b0 : (t248 == 0) = false := beq_eq_false_iff_ne.mpr c28
               have c28b1 : (t248 != 0) = true := bne_iff_ne.mpr c28
               simp only [Option.some.injEq, Prod.mk.injEq] at H
               obtain ⟨rfl, rfl, rfl, rfl⟩ := H
               have p245 : 0 ≤ (x10_2 : Int) := of_decide_eq_true (by first|(with_reducible assumption)|assumption)
               have q245 : x10_2 < (t230.length : Int) := of_decide_eq_true (by first|(with_reducible assumption)|assumption)
               obtain ⟨ad245, e245, hx245_0⟩ := Kd.at_string (Kd.R_reads' HO_4.out).2.2 x10_2 p245 q245
               obtain rfl : ad236 = ad245 := (by injection e245)
               replace p245 := eq_true p245
               replace q245 := eq_true q245
               go_wp2_with (first|((with_reducible refine gate_callee (f := 60) rfl ?_);refine goesL_ (some 61) rfl rfl Tryz.func60 (by kernel_rfl) rfl #[.string (rdOf ByteArray.empty t230 x10_2)] rfl (by (try simp only [List.map_toArray, List.map_cons, List.map_nil]);first|done|rfl|(simp only [List.length_drop, List.length_take];rfl)) ?_;(with_reducible refine (wicketmanref08_Field.calls k2 (rdOf ByteArray.empty t230 x10_2) t246 t247 t248 _ A27.out).mono ?_);rintro e w40 ⟨rfl, hb⟩;refine ⟨_, rfl, ?_⟩;have n0_ := aK (Kd.V_below (by (with_reducible repeat (first|apply Kd.V_alloc|apply Kd.V_drewN|apply Kd.V_drew));exact HO_0.out) hb);have n1_ := aK (Kd.R_below (by (with_reducible repeat (first|apply Kd.R_alloc|apply Kd.R_drewN|apply Kd.R_drew));exact HO_4.out) hb);have n2_ := aK (Kd.R_below (by (with_reducible repeat (first|apply Kd.R_alloc|apply Kd.R_drewN|apply Kd.R_drew));exact HO_245001.out) hb);have n3_ := aK (Kd.V_below (by (with_reducible repeat (first|apply Kd.V_alloc|apply Kd.V_drewN|apply Kd.V_drew));exact HO_245002.out) hb);have n4_ := aK (blk_below (g := gb229) (o := .cells #[.int .i64 x230000_2, .slice none 0 0, .slice none 0 0] 71 (0, 0)) (by (with_reducible repeat (first|refine blk_drewN ?_ _|refine blk_drew ?_|refine blk_alloc ?_ _));exact BK229.out) hb);have n5_ := aK (blk_below (g := gb244) (o := .cells #[.int .i64 t237, u245001, .slice A20 y239.length c20] 71 (0, 0)) (by (with_reducible repeat (first|refine blk_drewN ?_ _|refine blk_drew ?_|refine blk_alloc ?_ _));exact BK244.out) hb);have n6_ := aK (below_step (by repeat (first|(with_reducible first|apply bA|apply bN|apply bD|refine below_set ?_ GE229.out|refine below_set ?_ GE244.out)|exact HB.out)) hb);clear HO_0;clear HO_4;clear HO_245001;clear HO_245002;clear BK229;clear BK244;clear HB;have HO_0 := n0_;have HO_4 := n1_;have HO_245001 := n2_;have HO_245002 := n3_;have BK229 := n4_;have BK244 := n5_;have HB := n6_;clear n0_ n1_ n2_ n3_ n4_ n5_ n6_;try clear hb)|((with_reducible refine gate_dst (N := 11) rfl ?_);(try (refine gate_guard (by rfl) ?_;dsimp only));refine box_event ?hg (N := 11) ?hd (cs := #[.string (⟨#[]⟩ : BA), .string (⟨#[]⟩ : BA)]) (t := 76) ?hr ?_;(case hd => rfl);(case hg => rfl);(case hr => first|(go_simp;done)|(go_simp;rfl));intro gb249 hg w41 hbox hb;have n0_ := aK (Kd.V_below (Kd.V_elderB (by (with_reducible repeat (first|apply Kd.V_alloc|apply Kd.V_drewN|apply Kd.V_drew));exact HO_0.out) gb249 (Nat.le_of_eq hg.symm)) hb);have n1_ := aK (Kd.R_below (by (with_reducible repeat (first|apply Kd.R_alloc|apply Kd.R_drewN|apply Kd.R_drew));exact HO_4.out) hb);have n2_ := aK (Kd.R_below (Kd.R_elderB (by (with_reducible repeat (first|apply Kd.R_alloc|apply Kd.R_drewN|apply Kd.R_drew));exact HO_245001.out) gb249 (Nat.le_of_eq hg.symm)) hb);have n3_ := aK (Kd.V_below (Kd.V_elderB (by (with_reducible repeat (first|apply Kd.V_alloc|apply Kd.V_drewN|apply Kd.V_drew));exact HO_245002.out) gb249 (Nat.le_of_eq hg.symm)) hb);have n4_ := aK (blk_below (g := gb229) (o := .cells #[.int .i64 x230000_2, .slice none 0 0, .slice none 0 0] 71 (0, 0)) (by (with_reducible repeat (first|refine blk_drewN ?_ _|refine blk_drew ?_|refine blk_alloc ?_ _));exact BK229.out) hb);have n5_ := aK (blk_below (g := gb244) (o := .cells #[.int .i64 t237, u245001, .slice A20 y239.length c20] 71 (0, 0)) (by (with_reducible repeat (first|refine blk_drewN ?_ _|refine blk_drew ?_|refine blk_alloc ?_ _));exact BK244.out) hb);have n6_ := aK (below_step (by repeat (first|(with_reducible first|apply bA|apply bN|apply bD|refine below_set ?_ GE229.out|refine below_set ?_ GE244.out)|exact HB.out)) hb);have n7_ := aK (hbox);have n8_ := aK ((by rw [hg];exact (below_size (by repeat (first|(with_reducible first|apply bA|apply bN|apply bD|refine below_set ?_ GE229.out|refine below_set ?_ GE244.out)|exact HB.out))) : w.heap.size ≤ gb249));have n9_ := aK ((by rw [hg];exact (below_size (by repeat (first|(with_reducible first|apply bA|apply bN|apply bD|refine below_set ?_ GE229.out|refine below_set ?_ GE244.out)|exact HB.out))) : w.heap.size ≤ gb249));have n10_ := aK ((by rw [hg];exact Nat.ne_of_lt (blk_lt (g := gb229) (o := .cells #[.int .i64 x230000_2, .slice none 0 0, .slice none 0 0] 71 (0, 0)) (by (with_reducible repeat (first|refine blk_drewN ?_ _|refine blk_drew ?_|refine blk_alloc ?_ _));exact BK229.out)) : gb229 ≠ gb249));have n11_ := aK ((by rw [hg];exact Nat.ne_of_gt (blk_lt (g := gb229) (o := .cells #[.int .i64 x230000_2, .slice none 0 0, .slice none 0 0] 71 (0, 0)) (by (with_reducible repeat (first|refine blk_drewN ?_ _|refine blk_drew ?_|refine blk_alloc ?_ _));exact BK229.out)) : gb249 ≠ gb229));have n12_ := aK ((by rw [hg];exact Nat.ne_of_lt (blk_lt (g := gb244) (o := .cells #[.int .i64 t237, u245001, .slice A20 y239.length c20] 71 (0, 0)) (by (with_reducible repeat (first|refine blk_drewN ?_ _|refine blk_drew ?_|refine blk_alloc ?_ _));exact BK244.out)) : gb244 ≠ gb249));have n13_ := aK ((by rw [hg];exact Nat.ne_of_gt (blk_lt (g := gb244) (o := .cells #[.int .i64 t237, u245001, .slice A20 y239.length c20] 71 (0, 0)) (by (with_reducible repeat (first|refine blk_drewN ?_ _|refine blk_drew ?_|refine blk_alloc ?_ _));exact BK244.out)) : gb249 ≠ gb244));clear HO_0;clear HO_4;clear HO_245001;clear HO_245002;clear BK229;clear BK244;clear HB;have HO_0 := n0_;have HO_4 := n1_;have HO_245001 := n2_;have HO_245002 := n3_;have BK229 := n4_;have BK244 := n5_;have HB := n6_;have BK249 := n7_;have GW249 := n8_;have GE249 := n9_;have NB229_249 := n10_;have NB249_229 := n11_;have NB244_249 := n12_;have NB249_244 := n13_;clear n0_ n1_ n2_ n3_ n4_ n5_ n6_ n7_ n8_ n9_ n10_ n11_ n12_ n13_;clear hb hbox hg;have hnb42 := NB249_229.out;have hnc42 := NB229_249.out;have hnb43 := NB249_244.out;have hnc43 := NB244_249.out;have hcz44_0 : w41.cell? ⟨gb249, 0, none⟩ = some (.string (⟨#[]⟩ : BA)) := (blk_cell BK249.out 0).trans rfl;have hcz44_1 : w41.cell? ⟨gb249, 1, none⟩ = some (.string (⟨#[]⟩ : BA)) := (blk_cell BK249.out 1).trans rfl;have hfz44_0 := blk_frozen BK249.out 0;have hfz44_1 := blk_frozen BK249.out 1;have hnb45 := NB229_244.out;have hnc45 := NB244_229.out;have hcz46_0 : w41.cell? ⟨gb229, 0, none⟩ = some (.int .i64 x230000_2) := (blk_cell BK229.out 0).trans rfl;have hcz46_1 : w41.cell? ⟨gb229, 1, none⟩ = some (.slice none 0 0) := (blk_cell BK229.out 1).trans rfl;have hcz46_2 : w41.cell? ⟨gb229, 2, none⟩ = some (.slice none 0 0) := (blk_cell BK229.out 2).trans rfl;have hfz46_0 := blk_frozen BK229.out 0;have hfz46_1 := blk_frozen BK229.out 1;have hfz46_2 := blk_frozen BK229.out 2))
               refine bodyPost_ret (results_ct rfl _ _ gb229 71 #[.int .i64 0, .slice none 0 0, .slice none 0 0] (0, 0) _ rfl (by (with_reducible repeat (first|refine blk_drewN ?_ _|refine blk_drew ?_|refine blk_alloc ?_ _));refine blk_put (cs := #[.int .i64 0, .slice none 0 0, .slice none 0 0]) ?_ 2 _ rfl;(with_reducible repeat (first|refine blk_drewN ?_ _|refine blk_drew ?_|refine blk_alloc ?_ _));refine blk_put (cs := #[.int .i64 0, .slice none 0 0, .slice none 0 0]) ?_ 1 _ rfl;(with_reducible repeat (first|refine blk_drewN ?_ _|refine blk_drew ?_|refine blk_alloc ?_ _));refine blk_put (cs := #[.int .i64 x230000_2, .slice none 0 0, .slice none 0 0]) ?_ 0 _ rfl;(with_reducible repeat (first|refine blk_drewN ?_ _|refine blk_drew ?_|refine blk_alloc ?_ _));refine blk_far ?_ NB229_249.out _;(with_reducible repeat (first|refine blk_drewN ?_ _|refine blk_drew ?_|refine blk_alloc ?_ _));refine blk_far ?_ NB229_249.out _;(with_reducible repeat (first|refine blk_drewN ?_ _|refine blk_drew ?_|refine blk_alloc ?_ _));exact BK229.out) Tryz.underlying71 rfl (by kernel_rfl)) rfl ?_
               exact ⟨_, _, by first|rfl|(simp [errW_none, errW_some] <;> rfl)|(simp [*, errW_none, errW_some] <;> rfl), by first|exact Kd.R_nil _ _ _ _ _|exact Kd.N_nil _ _ _ _ _|exact Kd.V_nil _ _ _ _ _|exact Kd.Q_nil _ _ _ _ _|exact Kd.S_nil _ _ _ _ _, Kd.V_nil _ _ _ _ _, by repeat (first|(with_reducible first|apply bA|apply bN|apply bD|refine below_set ?_ GE229.out|refine below_set ?_ GE244.out|refine below_set ?_ GE249.out)|exact HB.out)⟩
             ·rw [if_neg c26] at H
              exact absurd H (by simp)
            ·rw [if_neg c25] at H
             exact absurd H (by simp)
           ·rw [if_neg c24] at H
            have c24b0 : decide (x10_2 < (wrap64 ((t230.length : Int) - 1))) = false := decide_eq_false c24
            clear c24
            replace H := Option.bind_eq_some_iff.mp H
            obtain ⟨⟨t253, t256⟩, A470, H⟩ := H
            try dsimp only at H
            have A47 := aK A470
            clear A470
            by_cases c48 : t256 = 0
            ·rw [if_pos c48] at H
             have c48b0 : (t256 == 0) = true := beq_iff_eq.mpr c48
             have c48b1 : (t256 != 0) = false := bne_eq_false_iff_eq.mpr c48
             clear c48
             by_cases c49 : (strOfNums t253).toList = (strOfNums l0).toList
             ·rw [if_pos c49] at H
              have c49b0 : ((strOfNums t253).toList == (strOfNums l0).toList) = true := beq_iff_eq.mpr c49
              have c49b1 : ((strOfNums t253).toList != (strOfNums l0).toList) = false := bne_eq_false_iff_eq.mpr c49
              clear c49
              simp only [Option.some.injEq, Prod.mk.injEq] at H
              obtain ⟨rfl, rfl, rfl, rfl⟩ := H
              have hnb50 := NB244_229.out
              have hnc50 := NB229_244.out
              have hcz51_0 : wr.cell? ⟨gb244, 0, none⟩ = some (.int .i64 t237) := (blk_cell BK244.out 0).trans rfl
              have hcz51_1 : wr.cell? ⟨gb244, 1, none⟩ = some (u245001) := (blk_cell BK244.out 1).trans rfl
              have hcz51_2 : wr.cell? ⟨gb244, 2, none⟩ = some (.slice A20 y239.length c20) := (blk_cell BK244.out 2).trans rfl
              have hfz51_0 := blk_frozen BK244.out 0
              have hfz51_1 := blk_frozen BK244.out 1
              have hfz51_2 := blk_frozen BK244.out 2
              obtain ⟨Ao52, co52, eo52⟩ := Kd.R_slice HO_245001.out
              subst eo52
              go_wp2_with (first|((with_reducible refine gate_callee (f := 61) rfl ?_);refine goesL_ (some 75) rfl rfl Tryz.func61 (by kernel_rfl) rfl #[.agg #[.int .i64 t237, .slice Ao52 x245001_2.length co52, .slice A20 y239.length c20]] rfl (by (try simp only [List.map_toArray, List.map_cons, List.map_nil]);first|done|rfl|(simp only [List.length_drop, List.length_take];rfl)) ?_;(with_reducible refine (wicketmanref10_Print.calls k2 t237 _ _ x245001_2 _ _ y239 t253 t256 _ ?side1 ?side2 ?side3 ?side4 (by first|exact hT|(refine Tb.of_below hT ?_;repeat (first|(with_reducible first|apply bA|apply bN|apply bD)|exact HB.out|refine Below.setCell ?_ (Aside0.out (by assumption)) _))|(refine Tb.of_below hT ?_;assumption)) A47.out).mono ?_);(case side1 => repeat (first|exact (Kd.R_reads' HO_245001.out).2.2|(with_reducible refine Kd.C_alloc ?_ _)|(with_reducible refine Kd.C_drewN ?_ _)|(with_reducible refine Kd.C_drew ?_)));(case side2 => exact (Kd.R_reads' HO_245001.out).2.1);(case side3 => repeat (first|exact (Kd.V_reads' HO_245002.out).2.2|(with_reducible refine Kd.C_alloc ?_ _)|(with_reducible refine Kd.C_drewN ?_ _)|(with_reducible refine Kd.C_drew ?_)));(case side4 => exact (Kd.V_reads' HO_245002.out).2.1);rintro e w53 ⟨v254, rfl, ho0, hb⟩;refine ⟨_, rfl, ?_⟩;have n0_ := aK (Kd.V_below (by (with_reducible repeat (first|apply Kd.V_alloc|apply Kd.V_drewN|apply Kd.V_drew));exact HO_0.out) hb);have n1_ := aK (Kd.R_below (by (with_reducible repeat (first|apply Kd.R_alloc|apply Kd.R_drewN|apply Kd.R_drew));exact HO_4.out) hb);have n2_ := aK (Kd.R_below (by (with_reducible repeat (first|apply Kd.R_alloc|apply Kd.R_drewN|apply Kd.R_drew));exact HO_245001.out) hb);have n3_ := aK (Kd.V_below (by (with_reducible repeat (first|apply Kd.V_alloc|apply Kd.V_drewN|apply Kd.V_drew));exact HO_245002.out) hb);have n4_ := aK (Kd.V_lower (Kd.V_mono (ok' := fun k_ => (P0_ k_ ∨ w.heap.size ≤ k_) ∧ some k_ ≠ (.slice (some ad236) t230.length co19 : Value).ownBlock ∧ some k_ ≠ (.slice Ao52 x245001_2.length co52 : Value).ownBlock ∧ k_ ≠ gb229 ∧ k_ ≠ gb244) ho0 (fun k_ hk_ => ⟨(.inr (Nat.le_trans (below_size (by repeat (first|(with_reducible first|apply bA|apply bN|apply bD|refine below_set ?_ GE229.out|refine below_set ?_ GE244.out)|exact HB.out))) hk_)), (Kd.fresh' (Kd.R_lt (by (with_reducible repeat (first|apply Kd.R_alloc|apply Kd.R_drewN|apply Kd.R_drew));exact HO_4.out)) k_ hk_), (Kd.fresh' (Kd.R_lt (by (with_reducible repeat (first|apply Kd.R_alloc|apply Kd.R_drewN|apply Kd.R_drew));exact HO_245001.out)) k_ hk_), (Kd.freshB (g := gb229) (o := .cells #[.int .i64 x230000_2, .slice none 0 0, .slice none 0 0] 71 (0, 0)) (by (with_reducible repeat (first|refine blk_drewN ?_ _|refine blk_drew ?_|refine blk_alloc ?_ _));exact BK229.out) k_ hk_), (Kd.freshB (g := gb244) (o := .cells #[.int .i64 t237, .slice Ao52 x245001_2.length co52, .slice A20 y239.length c20] 71 (0, 0)) (by (with_reducible repeat (first|refine blk_drewN ?_ _|refine blk_drew ?_|refine blk_alloc ?_ _));exact BK244.out) k_ hk_)⟩)) (below_size (by repeat (first|(with_reducible first|apply bA|apply bN|apply bD|refine below_set ?_ GE229.out|refine below_set ?_ GE244.out)|exact HB.out))));have n5_ := aK (blk_below (g := gb229) (o := .cells #[.int .i64 x230000_2, .slice none 0 0, .slice none 0 0] 71 (0, 0)) (by (with_reducible repeat (first|refine blk_drewN ?_ _|refine blk_drew ?_|refine blk_alloc ?_ _));exact BK229.out) hb);have n6_ := aK (blk_below (g := gb244) (o := .cells #[.int .i64 t237, .slice Ao52 x245001_2.length co52, .slice A20 y239.length c20] 71 (0, 0)) (by (with_reducible repeat (first|refine blk_drewN ?_ _|refine blk_drew ?_|refine blk_alloc ?_ _));exact BK244.out) hb);have n7_ := aK (below_step (by repeat (first|(with_reducible first|apply bA|apply bN|apply bD|refine below_set ?_ GE229.out|refine below_set ?_ GE244.out)|exact HB.out)) hb);clear HO_0;clear HO_4;clear HO_245001;clear HO_245002;clear BK229;clear BK244;clear HB;have HO_0 := n0_;have HO_4 := n1_;have HO_245001 := n2_;have HO_245002 := n3_;have HO255 := n4_;have BK229 := n5_;have BK244 := n6_;have HB := n7_;clear n0_ n1_ n2_ n3_ n4_ n5_ n6_ n7_;try clear hb;(try clear ho0);(first|(have hcv54 := own_string (P := Tryz.prog) Tryz.underlying23 Tryz.underlying5 Tryz.underlying9 (Kd.own_of_R HO255.out))|(have hcv54 := V_string11 (P := Tryz.prog) Tryz.underlying23 Tryz.underlying5 Tryz.underlying9 HO255.out));(first|(have hcv55 := own_string (P := Tryz.prog) Tryz.underlying23 Tryz.underlying5 Tryz.underlying9 (Kd.own_of_R HO_0.out))|(have hcv55 := V_string11 (P := Tryz.prog) Tryz.underlying23 Tryz.underlying5 Tryz.underlying9 HO_0.out));have hcz56_0 : w53.cell? ⟨gb244, 0, none⟩ = some (.int .i64 t237) := (blk_cell BK244.out 0).trans rfl;have hcz56_1 : w53.cell? ⟨gb244, 1, none⟩ = some (.slice Ao52 x245001_2.length co52) := (blk_cell BK244.out 1).trans rfl;have hcz56_2 : w53.cell? ⟨gb244, 2, none⟩ = some (.slice A20 y239.length c20) := (blk_cell BK244.out 2).trans rfl;have hfz56_0 := blk_frozen BK244.out 0;have hfz56_1 := blk_frozen BK244.out 1;have hfz56_2 := blk_frozen BK244.out 2;have hcz57_0 : w53.cell? ⟨gb229, 0, none⟩ = some (.int .i64 x230000_2) := (blk_cell BK229.out 0).trans rfl;have hcz57_1 : w53.cell? ⟨gb229, 1, none⟩ = some (.slice none 0 0) := (blk_cell BK229.out 1).trans rfl;have hcz57_2 : w53.cell? ⟨gb229, 2, none⟩ = some (.slice none 0 0) := (blk_cell BK229.out 2).trans rfl;have hfz57_0 := blk_frozen BK229.out 0;have hfz57_1 := blk_frozen BK229.out 1;have hfz57_2 := blk_frozen BK229.out 2))
              refine bodyPost_ret (results_ct rfl _ _ gb229 71 #[.int .i64 t237, .slice Ao52 x245001_2.length co52, .slice A20 y239.length c20] (0, 0) _ rfl (by (with_reducible repeat (first|refine blk_drewN ?_ _|refine blk_drew ?_|refine blk_alloc ?_ _));refine blk_put (cs := #[.int .i64 t237, .slice Ao52 x245001_2.length co52, .slice none 0 0]) ?_ 2 _ rfl;(with_reducible repeat (first|refine blk_drewN ?_ _|refine blk_drew ?_|refine blk_alloc ?_ _));refine blk_put (cs := #[.int .i64 t237, .slice none 0 0, .slice none 0 0]) ?_ 1 _ rfl;(with_reducible repeat (first|refine blk_drewN ?_ _|refine blk_drew ?_|refine blk_alloc ?_ _));refine blk_put (cs := #[.int .i64 x230000_2, .slice none 0 0, .slice none 0 0]) ?_ 0 _ rfl;(with_reducible repeat (first|refine blk_drewN ?_ _|refine blk_drew ?_|refine blk_alloc ?_ _));exact BK229.out) Tryz.underlying71 rfl (by kernel_rfl)) rfl ?_
              exact ⟨_, _, by first|rfl|(simp [errW_none, errW_some] <;> rfl)|(simp [*, errW_none, errW_some] <;> rfl), by (with_reducible repeat (first|apply Kd.R_alloc|apply Kd.R_drewN|apply Kd.R_drew));exact Kd.R_mono (Kd.R_far (p := ⟨gb229, 2, none⟩) (Kd.R_far (p := ⟨gb229, 1, none⟩) (Kd.R_far (p := ⟨gb229, 0, none⟩) (Kd.R_types HO_245001.out BK229.out (by decide)) (fun _ hk => hk.2) (.int .i64 t237)) (fun _ hk => hk.2) (.slice Ao52 x245001_2.length co52)) (fun _ hk => hk.2) (.slice A20 y239.length c20)) (fun _ hk => hk.1), by (with_reducible repeat (first|apply Kd.V_alloc|apply Kd.V_drewN|apply Kd.V_drew));exact Kd.V_mono (Kd.V_far (p := ⟨gb229, 2, none⟩) (Kd.V_far (p := ⟨gb229, 1, none⟩) (Kd.V_far (p := ⟨gb229, 0, none⟩) (Kd.V_mono HO_245002.out (fun k_ hk => (⟨hk, hk.2.2.2.1⟩ : _ ∧ k_ ≠ gb229))) (fun _ hk => hk.2) (.int .i64 t237)) (fun _ hk => hk.2) (.slice Ao52 x245001_2.length co52)) (fun _ hk => hk.2) (.slice A20 y239.length c20)) (fun _ hk => ⟨hk.1.1, hk.1.2.2.1⟩), by repeat (first|(with_reducible first|apply bA|apply bN|apply bD|refine below_set ?_ GE229.out|refine below_set ?_ GE244.out)|exact HB.out)⟩
             ·rw [if_neg c49] at H
              have c49b0 : ((strOfNums t253).toList == (strOfNums l0).toList) = false := beq_eq_false_iff_ne.mpr c49
              have c49b1 : ((strOfNums t253).toList != (strOfNums l0).toList) = true := bne_iff_ne.mpr c49
              simp only [Option.some.injEq, Prod.mk.injEq] at H
              obtain ⟨rfl, rfl, rfl, rfl⟩ := H
              have hnb58 := NB244_229.out
              have hnc58 := NB229_244.out
              have hcz59_0 : wr.cell? ⟨gb244, 0, none⟩ = some (.int .i64 t237) := (blk_cell BK244.out 0).trans rfl
              have hcz59_1 : wr.cell? ⟨gb244, 1, none⟩ = some (u245001) := (blk_cell BK244.out 1).trans rfl
              have hcz59_2 : wr.cell? ⟨gb244, 2, none⟩ = some (.slice A20 y239.length c20) := (blk_cell BK244.out 2).trans rfl
              have hfz59_0 := blk_frozen BK244.out 0
              have hfz59_1 := blk_frozen BK244.out 1
              have hfz59_2 := blk_frozen BK244.out 2
              obtain ⟨Ao60, co60, eo60⟩ := Kd.R_slice HO_245001.out
              subst eo60
              go_wp2_with (first|((with_reducible refine gate_callee (f := 61) rfl ?_);refine goesL_ (some 75) rfl rfl Tryz.func61 (by kernel_rfl) rfl #[.agg #[.int .i64 t237, .slice Ao60 x245001_2.length co60, .slice A20 y239.length c20]] rfl (by (try simp only [List.map_toArray, List.map_cons, List.map_nil]);first|done|rfl|(simp only [List.length_drop, List.length_take];rfl)) ?_;(with_reducible refine (wicketmanref10_Print.calls k2 t237 _ _ x245001_2 _ _ y239 t253 t256 _ ?side1 ?side2 ?side3 ?side4 (by first|exact hT|(refine Tb.of_below hT ?_;repeat (first|(with_reducible first|apply bA|apply bN|apply bD)|exact HB.out|refine Below.setCell ?_ (Aside0.out (by assumption)) _))|(refine Tb.of_below hT ?_;assumption)) A47.out).mono ?_);(case side1 => repeat (first|exact (Kd.R_reads' HO_245001.out).2.2|(with_reducible refine Kd.C_alloc ?_ _)|(with_reducible refine Kd.C_drewN ?_ _)|(with_reducible refine Kd.C_drew ?_)));(case side2 => exact (Kd.R_reads' HO_245001.out).2.1);(case side3 => repeat (first|exact (Kd.V_reads' HO_245002.out).2.2|(with_reducible refine Kd.C_alloc ?_ _)|(with_reducible refine Kd.C_drewN ?_ _)|(with_reducible refine Kd.C_drew ?_)));(case side4 => exact (Kd.V_reads' HO_245002.out).2.1);rintro e w61 ⟨v254, rfl, ho0, hb⟩;refine ⟨_, rfl, ?_⟩;have n0_ := aK (Kd.V_below (by (with_reducible repeat (first|apply Kd.V_alloc|apply Kd.V_drewN|apply Kd.V_drew));exact HO_0.out) hb);have n1_ := aK (Kd.R_below (by (with_reducible repeat (first|apply Kd.R_alloc|apply Kd.R_drewN|apply Kd.R_drew));exact HO_4.out) hb);have n2_ := aK (Kd.R_below (by (with_reducible repeat (first|apply Kd.R_alloc|apply Kd.R_drewN|apply Kd.R_drew));exact HO_245001.out) hb);have n3_ := aK (Kd.V_below (by (with_reducible repeat (first|apply Kd.V_alloc|apply Kd.V_drewN|apply Kd.V_drew));exact HO_245002.out) hb);have n4_ := aK (Kd.V_lower (Kd.V_mono (ok' := fun k_ => (P0_ k_ ∨ w.heap.size ≤ k_) ∧ some k_ ≠ (.slice (some ad236) t230.length co19 : Value).ownBlock ∧ some k_ ≠ (.slice Ao60 x245001_2.length co60 : Value).ownBlock ∧ k_ ≠ gb229 ∧ k_ ≠ gb244) ho0 (fun k_ hk_ => ⟨(.inr (Nat.le_trans (below_size (by repeat (first|(with_reducible first|apply bA|apply bN|apply bD|refine below_set ?_ GE229.out|refine below_set ?_ GE244.out)|exact HB.out))) hk_)), (Kd.fresh' (Kd.R_lt (by (with_reducible repeat (first|apply Kd.R_alloc|apply Kd.R_drewN|apply Kd.R_drew));exact HO_4.out)) k_ hk_), (Kd.fresh' (Kd.R_lt (by (with_reducible repeat (first|apply Kd.R_alloc|apply Kd.R_drewN|apply Kd.R_drew));exact HO_245001.out)) k_ hk_), (Kd.freshB (g := gb229) (o := .cells #[.int .i64 x230000_2, .slice none 0 0, .slice none 0 0] 71 (0, 0)) (by (with_reducible repeat (first|refine blk_drewN ?_ _|refine blk_drew ?_|refine blk_alloc ?_ _));exact BK229.out) k_ hk_), (Kd.freshB (g := gb244) (o := .cells #[.int .i64 t237, .slice Ao60 x245001_2.length co60, .slice A20 y239.length c20] 71 (0, 0)) (by (with_reducible repeat (first|refine blk_drewN ?_ _|refine blk_drew ?_|refine blk_alloc ?_ _));exact BK244.out) k_ hk_)⟩)) (below_size (by repeat (first|(with_reducible first|apply bA|apply bN|apply bD|refine below_set ?_ GE229.out|refine below_set ?_ GE244.out)|exact HB.out))));have n5_ := aK (blk_below (g := gb229) (o := .cells #[.int .i64 x230000_2, .slice none 0 0, .slice none 0 0] 71 (0, 0)) (by (with_reducible repeat (first|refine blk_drewN ?_ _|refine blk_drew ?_|refine blk_alloc ?_ _));exact BK229.out) hb);have n6_ := aK (blk_below (g := gb244) (o := .cells #[.int .i64 t237, .slice Ao60 x245001_2.length co60, .slice A20 y239.length c20] 71 (0, 0)) (by (with_reducible repeat (first|refine blk_drewN ?_ _|refine blk_drew ?_|refine blk_alloc ?_ _));exact BK244.out) hb);have n7_ := aK (below_step (by repeat (first|(with_reducible first|apply bA|apply bN|apply bD|refine below_set ?_ GE229.out|refine below_set ?_ GE244.out)|exact HB.out)) hb);clear HO_0;clear HO_4;clear HO_245001;clear HO_245002;clear BK229;clear BK244;clear HB;have HO_0 := n0_;have HO_4 := n1_;have HO_245001 := n2_;have HO_245002 := n3_;have HO255 := n4_;have BK229 := n5_;have BK244 := n6_;have HB := n7_;clear n0_ n1_ n2_ n3_ n4_ n5_ n6_ n7_;try clear hb;(try clear ho0);(first|(have hcv62 := own_string (P := Tryz.prog) Tryz.underlying23 Tryz.underlying5 Tryz.underlying9 (Kd.own_of_R HO255.out))|(have hcv62 := V_string11 (P := Tryz.prog) Tryz.underlying23 Tryz.underlying5 Tryz.underlying9 HO255.out));(first|(have hcv63 := own_string (P := Tryz.prog) Tryz.underlying23 Tryz.underlying5 Tryz.underlying9 (Kd.own_of_R HO_0.out))|(have hcv63 := V_string11 (P := Tryz.prog) Tryz.underlying23 Tryz.underlying5 Tryz.underlying9 HO_0.out));have hcz64_0 : w61.cell? ⟨gb229, 0, none⟩ = some (.int .i64 x230000_2) := (blk_cell BK229.out 0).trans rfl;have hcz64_1 : w61.cell? ⟨gb229, 1, none⟩ = some (.slice none 0 0) := (blk_cell BK229.out 1).trans rfl;have hcz64_2 : w61.cell? ⟨gb229, 2, none⟩ = some (.slice none 0 0) := (blk_cell BK229.out 2).trans rfl;have hfz64_0 := blk_frozen BK229.out 0;have hfz64_1 := blk_frozen BK229.out 1;have hfz64_2 := blk_frozen BK229.out 2))
              refine bodyPost_ret (results_ct rfl _ _ gb229 71 #[.int .i64 0, .slice none 0 0, .slice none 0 0] (0, 0) _ rfl (by (with_reducible repeat (first|refine blk_drewN ?_ _|refine blk_drew ?_|refine blk_alloc ?_ _));refine blk_put (cs := #[.int .i64 0, .slice none 0 0, .slice none 0 0]) ?_ 2 _ rfl;(with_reducible repeat (first|refine blk_drewN ?_ _|refine blk_drew ?_|refine blk_alloc ?_ _));refine blk_put (cs := #[.int .i64 0, .slice none 0 0, .slice none 0 0]) ?_ 1 _ rfl;(with_reducible repeat (first|refine blk_drewN ?_ _|refine blk_drew ?_|refine blk_alloc ?_ _));refine blk_put (cs := #[.int .i64 x230000_2, .slice none 0 0, .slice none 0 0]) ?_ 0 _ rfl;(with_reducible repeat (first|refine blk_drewN ?_ _|refine blk_drew ?_|refine blk_alloc ?_ _));exact BK229.out) Tryz.underlying71 rfl (by kernel_rfl)) rfl ?_
              exact ⟨_, _, by first|rfl|(simp [errW_none, errW_some] <;> rfl)|(simp [*, errW_none, errW_some] <;> rfl), by first|exact Kd.R_nil _ _ _ _ _|exact Kd.N_nil _ _ _ _ _|exact Kd.V_nil _ _ _ _ _|exact Kd.Q_nil _ _ _ _ _|exact Kd.S_nil _ _ _ _ _, Kd.V_nil _ _ _ _ _, by repeat (first|(with_reducible first|apply bA|apply bN|apply bD|refine below_set ?_ GE229.out|refine below_set ?_ GE244.out)|exact HB.out)⟩
            ·rw [if_neg c48] at H
             have c48b0 : (t256 == 0) = false := beq_eq_false_iff_ne.mpr c48
             have c48b1 : (t256 != 0) = true := bne_iff_ne.mpr c48
             simp only [Option.some.injEq, Prod.mk.injEq] at H
             obtain ⟨rfl, rfl, rfl, rfl⟩ := H
             have hnb65 := NB244_229.out
             have hnc65 := NB229_244.out
             have hcz66_0 : wr.cell? ⟨gb244, 0, none⟩ = some (.int .i64 t237) := (blk_cell BK244.out 0).trans rfl
             have hcz66_1 : wr.cell? ⟨gb244, 1, none⟩ = some (u245001) := (blk_cell BK244.out 1).trans rfl
             have hcz66_2 : wr.cell? ⟨gb244, 2, none⟩ = some (.slice A20 y239.length c20) := (blk_cell BK244.out 2).trans rfl
             have hfz66_0 := blk_frozen BK244.out 0
             have hfz66_1 := blk_frozen BK244.out 1
             have hfz66_2 := blk_frozen BK244.out 2
             obtain ⟨Ao67, co67, eo67⟩ := Kd.R_slice HO_245001.out
             subst eo67
             go_wp2_with (first|((with_reducible refine gate_callee (f := 61) rfl ?_);refine goesL_ (some 75) rfl rfl Tryz.func61 (by kernel_rfl) rfl #[.agg #[.int .i64 t237, .slice Ao67 x245001_2.length co67, .slice A20 y239.length c20]] rfl (by (try simp only [List.map_toArray, List.map_cons, List.map_nil]);first|done|rfl|(simp only [List.length_drop, List.length_take];rfl)) ?_;(with_reducible refine (wicketmanref10_Print.calls k2 t237 _ _ x245001_2 _ _ y239 t253 t256 _ ?side1 ?side2 ?side3 ?side4 (by first|exact hT|(refine Tb.of_below hT ?_;repeat (first|(with_reducible first|apply bA|apply bN|apply bD)|exact HB.out|refine Below.setCell ?_ (Aside0.out (by assumption)) _))|(refine Tb.of_below hT ?_;assumption)) A47.out).mono ?_);(case side1 => repeat (first|exact (Kd.R_reads' HO_245001.out).2.2|(with_reducible refine Kd.C_alloc ?_ _)|(with_reducible refine Kd.C_drewN ?_ _)|(with_reducible refine Kd.C_drew ?_)));(case side2 => exact (Kd.R_reads' HO_245001.out).2.1);(case side3 => repeat (first|exact (Kd.V_reads' HO_245002.out).2.2|(with_reducible refine Kd.C_alloc ?_ _)|(with_reducible refine Kd.C_drewN ?_ _)|(with_reducible refine Kd.C_drew ?_)));(case side4 => exact (Kd.V_reads' HO_245002.out).2.1);rintro e w68 ⟨v254, rfl, ho0, hb⟩;refine ⟨_, rfl, ?_⟩;have n0_ := aK (Kd.V_below (by (with_reducible repeat (first|apply Kd.V_alloc|apply Kd.V_drewN|apply Kd.V_drew));exact HO_0.out) hb);have n1_ := aK (Kd.R_below (by (with_reducible repeat (first|apply Kd.R_alloc|apply Kd.R_drewN|apply Kd.R_drew));exact HO_4.out) hb);have n2_ := aK (Kd.R_below (by (with_reducible repeat (first|apply Kd.R_alloc|apply Kd.R_drewN|apply Kd.R_drew));exact HO_245001.out) hb);have n3_ := aK (Kd.V_below (by (with_reducible repeat (first|apply Kd.V_alloc|apply Kd.V_drewN|apply Kd.V_drew));exact HO_245002.out) hb);have n4_ := aK (Kd.V_lower (Kd.V_mono (ok' := fun k_ => (P0_ k_ ∨ w.heap.size ≤ k_) ∧ some k_ ≠ (.slice (some ad236) t230.length co19 : Value).ownBlock ∧ some k_ ≠ (.slice Ao67 x245001_2.length co67 : Value).ownBlock ∧ k_ ≠ gb229 ∧ k_ ≠ gb244) ho0 (fun k_ hk_ => ⟨(.inr (Nat.le_trans (below_size (by repeat (first|(with_reducible first|apply bA|apply bN|apply bD|refine below_set ?_ GE229.out|refine below_set ?_ GE244.out)|exact HB.out))) hk_)), (Kd.fresh' (Kd.R_lt (by (with_reducible repeat (first|apply Kd.R_alloc|apply Kd.R_drewN|apply Kd.R_drew));exact HO_4.out)) k_ hk_), (Kd.fresh' (Kd.R_lt (by (with_reducible repeat (first|apply Kd.R_alloc|apply Kd.R_drewN|apply Kd.R_drew));exact HO_245001.out)) k_ hk_), (Kd.freshB (g := gb229) (o := .cells #[.int .i64 x230000_2, .slice none 0 0, .slice none 0 0] 71 (0, 0)) (by (with_reducible repeat (first|refine blk_drewN ?_ _|refine blk_drew ?_|refine blk_alloc ?_ _));exact BK229.out) k_ hk_), (Kd.freshB (g := gb244) (o := .cells #[.int .i64 t237, .slice Ao67 x245001_2.length co67, .slice A20 y239.length c20] 71 (0, 0)) (by (with_reducible repeat (first|refine blk_drewN ?_ _|refine blk_drew ?_|refine blk_alloc ?_ _));exact BK244.out) k_ hk_)⟩)) (below_size (by repeat (first|(with_reducible first|apply bA|apply bN|apply bD|refine below_set ?_ GE229.out|refine below_set ?_ GE244.out)|exact HB.out))));have n5_ := aK (blk_below (g := gb229) (o := .cells #[.int .i64 x230000_2, .slice none 0 0, .slice none 0 0] 71 (0, 0)) (by (with_reducible repeat (first|refine blk_drewN ?_ _|refine blk_drew ?_|refine blk_alloc ?_ _));exact BK229.out) hb);have n6_ := aK (blk_below (g := gb244) (o := .cells #[.int .i64 t237, .slice Ao67 x245001_2.length co67, .slice A20 y239.length c20] 71 (0, 0)) (by (with_reducible repeat (first|refine blk_drewN ?_ _|refine blk_drew ?_|refine blk_alloc ?_ _));exact BK244.out) hb);have n7_ := aK (below_step (by repeat (first|(with_reducible first|apply bA|apply bN|apply bD|refine below_set ?_ GE229.out|refine below_set ?_ GE244.out)|exact HB.out)) hb);clear HO_0;clear HO_4;clear HO_245001;clear HO_245002;clear BK229;clear BK244;clear HB;have HO_0 := n0_;have HO_4 := n1_;have HO_245001 := n2_;have HO_245002 := n3_;have HO255 := n4_;have BK229 := n5_;have BK244 := n6_;have HB := n7_;clear n0_ n1_ n2_ n3_ n4_ n5_ n6_ n7_;try clear hb;(try clear ho0);have hcz69_0 : w68.cell? ⟨gb229, 0, none⟩ = some (.int .i64 x230000_2) := (blk_cell BK229.out 0).trans rfl;have hcz69_1 : w68.cell? ⟨gb229, 1, none⟩ = some (.slice none 0 0) := (blk_cell BK229.out 1).trans rfl;have hcz69_2 : w68.cell? ⟨gb229, 2, none⟩ = some (.slice none 0 0) := (blk_cell BK229.out 2).trans rfl;have hfz69_0 := blk_frozen BK229.out 0;have hfz69_1 := blk_frozen BK229.out 1;have hfz69_2 := blk_frozen BK229.out 2))
             refine bodyPost_ret (results_ct rfl _ _ gb229 71 #[.int .i64 0, .slice none 0 0, .slice none 0 0] (0, 0) _ rfl (by (with_reducible repeat (first|refine blk_drewN ?_ _|refine blk_drew ?_|refine blk_alloc ?_ _));refine blk_put (cs := #[.int .i64 0, .slice none 0 0, .slice none 0 0]) ?_ 2 _ rfl;(with_reducible repeat (first|refine blk_drewN ?_ _|refine blk_drew ?_|refine blk_alloc ?_ _));refine blk_put (cs := #[.int .i64 0, .slice none 0 0, .slice none 0 0]) ?_ 1 _ rfl;(with_reducible repeat (first|refine blk_drewN ?_ _|refine blk_drew ?_|refine blk_alloc ?_ _));refine blk_put (cs := #[.int .i64 x230000_2, .slice none 0 0, .slice none 0 0]) ?_ 0 _ rfl;(with_reducible repeat (first|refine blk_drewN ?_ _|refine blk_drew ?_|refine blk_alloc ?_ _));exact BK229.out) Tryz.underlying71 rfl (by kernel_rfl)) rfl ?_
             exact ⟨_, _, by first|rfl|(simp [errW_none, errW_some] <;> rfl)|(simp [*, errW_none, errW_some] <;> rfl), by first|exact Kd.R_nil _ _ _ _ _|exact Kd.N_nil _ _ _ _ _|exact Kd.V_nil _ _ _ _ _|exact Kd.Q_nil _ _ _ _ _|exact Kd.S_nil _ _ _ _ _, Kd.V_nil _ _ _ _ _, by repeat (first|(with_reducible first|apply bA|apply bN|apply bD|refine below_set ?_ GE229.out|refine below_set ?_ GE244.out)|exact HB.out)⟩
        ·rw [if_neg c18] at H
         exact absurd H (by simp)
       ·rw [if_neg c17] at H
        exact absurd H (by simp)
      ·rw [if_neg c15] at H
       exact absurd H (by simp)
     ·rw [if_neg c14] at H
      exact absurd H (by simp)
    ·rw [if_neg c13] at H
     exact absurd H (by simp)
end Go.Proofs.YthdiiiopjkaifaaGreatDoor.Pall

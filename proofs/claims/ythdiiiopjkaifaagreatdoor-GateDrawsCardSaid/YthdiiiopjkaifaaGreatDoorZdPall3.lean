import Derived.Test.YthdiiiopjkaifaaGreatDoorZdPall0
import Derived.Test.YthdiiiopjkaifaaGreatDoorZdPall2
namespace Go.Proofs.YthdiiiopjkaifaaGreatDoor.Pall
open Go.RowKit Go.Proofs.YthdiiiopjkaifaaGreatDoorW.PrintWords Go.Proofs.YthdiiiopjkaifaaGreatDoorW.PrintLast
set_option linter.unusedVariables false
set_option linter.unusedSimpArgs false
def head_All.l0 : Nat → ByteArray → List ByteArray → List (S76) → Int → Int → Option (List ByteArray)
 | 0, _, _, _, _, _ => none
 | k + 1, x1, x5, x8, x9, x10 => if x10 < x9 then (if 0 ≤ x10 then (if x10 < (x8.length : Int) then ((head_Same.f ((rd_T76 x8 x10).f0) x1).bind fun t115 => (if t115 = true then (if x5.length < 8796093022208 then (head_All.l0 k x1 (x5 ++ [(rd_T76 x8 x10).f1]) x8 x9 (wrap64 (x10 + 1))) else (none)) else (head_All.l0 k x1 x5 x8 x9 (wrap64 (x10 + 1))))) else (none)) else (none)) else (some x5)
def head_All.f (k : Nat) (l0 : List (S76)) (a1 : ByteArray) : Option (List ByteArray) := head_All.l0 k a1 ([] : List ByteArray) l0 (l0.length : Int) 0
theorem head_All.mono_l : ∀ k, (∀ y0 y1 y2 y3 y4, LeO (head_All.l0 k y0 y1 y2 y3 y4) (head_All.l0 (k + 1) y0 y1 y2 y3 y4))
 | 0 => fun _ _ _ _ _ r h => by simp [head_All.l0] at h
 | k + 1 => by
  have ih0 := head_All.mono_l k
  ·intro y0 y1 y2 y3 y4
   unfold head_All.l0
   repeat' first|(with_reducible first|exact ih0 _ _ _ _ _|exact LeO.refl _|exact LeO.none _|refine LeO.ite ?_ ?_|refine LeO.bind ?_ (fun _ => ?_))|exact LeO.none _|refine LeO.ite ?_ ?_|refine LeO.bind ?_ (fun _ => ?_)
theorem head_All.mono : ∀ a0 a1 k, LeO (head_All.f k a0 a1) (head_All.f (k + 1) a0 a1) := by
 intro a0 a1 k
 have ih0 := head_All.mono_l k
 unfold head_All.f
 repeat' first|(with_reducible first|exact ih0 _ _ _ _ _|exact LeO.refl _|exact LeO.none _|refine LeO.ite ?_ ?_|refine LeO.bind ?_ (fun _ => ?_))|exact LeO.none _|refine LeO.ite ?_ ?_|refine LeO.bind ?_ (fun _ => ?_)
set_option maxHeartbeats 8000000 in
set_option maxRecDepth 100000 in
theorem head_All.calls (k : Nat) (A0 : Option Addr) (c0 : Nat) (l0 : List (S76)) (a1 : ByteArray) (r : List ByteArray) (w : World) (hr0 : Kd.C k76 w A0 l0.length l0) (hc0 : l0.length ≤ c0) (h : head_All.f k l0 a1 = some r) :
  Calls Tryz.prog 79 #[.slice A0 l0.length c0, .string a1] w fun e w' => ∃ v0_ : Value, e = .returned (v0_) ∧ Kd.R Kd.string 9 w' w.heap.size (fun _ => True) v0_ r ∧ Below w.heap.size w w' := by
 have hu76 := Tryz.underlying76
 have HR0 := aK hr0
 have HC0 := aK hc0
 clear hr0 hc0
 have HB := aK (Below.refl w.heap.size w)
 have H : (head_All.l0 k a1 ([] : List ByteArray) l0 (l0.length : Int) 0) = some r := h
 clear h
 have H' := aK H
 clear H
 go_enter Tryz.func79, Tryz.ntmps79
 go_wp2
 go_loopg [5, 10] k (fun kq v5 v10 w' => ∃ (x5_1 : List ByteArray) (x10_1 : Int), v10 = .int .i64 x10_1 ∧ Aside0 (head_All.l0 kq a1 x5_1 l0 (l0.length : Int) x10_1 = some r) ∧ Aside0 (kq ≤ k) ∧ Aside0 (Kd.R Kd.string 9 w' w.heap.size (fun _ => True) v5 x5_1) ∧ Aside0 (Below w.heap.size w w'))
 case atStart => exact ⟨(([] : List ByteArray)), (0), (by first|rfl|(simp;done)|(simp [*];done)), H', ⟨Nat.le_refl _⟩, ⟨by first|exact Kd.R_nil _ _ _ _ _|exact Kd.N_nil _ _ _ _ _|exact Kd.V_nil _ _ _ _ _|exact Kd.Q_nil _ _ _ _ _|exact Kd.S_nil _ _ _ _ _⟩, ⟨by repeat (first|(with_reducible first|apply bA|apply bN|apply bD)|exact HB.out)⟩⟩
 case round =>
  clear H'
  try clear p2
  obtain ⟨x5_1, x10_1, rfl, HA, HK1, HO_5, HB⟩ := hrel
  cases gk with
  | zero => exact absurd HA.out (by simp [head_All.l0])
  | succ k1 =>
   have H := HA.out
   clear HA
   simp only [head_All.l0] at H
   by_cases c3 : x10_1 < (l0.length : Int)
   ·rw [if_pos c3] at H
    have c3b0 : decide (x10_1 < (l0.length : Int)) = true := decide_eq_true c3
    clear c3
    by_cases c4 : 0 ≤ x10_1
    ·rw [if_pos c4] at H
     have c4b0 : decide (0 ≤ x10_1) = true := decide_eq_true c4
     clear c4
     by_cases c5 : x10_1 < (l0.length : Int)
     ·rw [if_pos c5] at H
      have c5b0 : decide (x10_1 < (l0.length : Int)) = true := decide_eq_true c5
      clear c5
      replace H := Option.bind_eq_some_iff.mp H
      obtain ⟨t115, A60, H⟩ := H
      try dsimp only at H
      have A6 := aK A60
      clear A60
      by_cases c7 : t115 = true
      ·subst c7
       rw [if_pos rfl] at H
       by_cases c8 : x5_1.length < 8796093022208
       ·rw [if_pos c8] at H
        have LMc8 := aK c8
        clear c8
        obtain ⟨y116, hy116⟩ : ∃ y_ : List ByteArray, y_ = (x5_1 ++ [(rd_T76 l0 x10_1).f1]) := ⟨_, rfl⟩
        replace H : (head_All.l0 k1 a1 y116 l0 (l0.length : Int) (wrap64 (x10_1 + 1))) = some r := by first|(rw [hy116];with_reducible exact H)|(have H2_ := (Option.bind_some _ _).symm.trans H;rw [hy116];with_reducible exact H2_)|(have H2_ := (Option.bind_some _ _).symm.trans H;with_reducible exact H2_)|with_reducible exact H|(rw [hy116];exact H)|exact H
        have Ny116 := aK hy116
        clear hy116
        have H' := aK H
        clear H
        have p113 : 0 ≤ (x10_1 : Int) := of_decide_eq_true (by first|(with_reducible assumption)|assumption)
        have q113 : x10_1 < (l0.length : Int) := of_decide_eq_true (by first|(with_reducible assumption)|assumption)
        obtain ⟨ad113, e113, hx113_0, hx113_1⟩ := at_T76 HR0.out x10_1 p113 q113
        cases e113
        replace hx113_0 := (HB.out.cell (World.block_lt_of_cell? w _ hx113_0)).trans hx113_0
        replace hx113_1 := (HB.out.cell (World.block_lt_of_cell? w _ hx113_1)).trans hx113_1
        replace p113 := eq_true p113
        replace q113 := eq_true q113
        go_wp2_with (first|((with_reducible refine gate_dst (N := 7) rfl ?_);refine box_event ?hg (N := 7) ?hd (cs := #[.string (⟨#[]⟩ : BA), .string (⟨#[]⟩ : BA)]) (t := 76) ?hr ?_;(case hd => rfl);(case hg => rfl);(case hr => first|(go_simp;done)|(go_simp;rfl));intro gb114 hg w9 hbox hb;have n0_ := aK (Kd.R_below (by (with_reducible repeat (first|apply Kd.R_alloc|apply Kd.R_drewN|apply Kd.R_drew));exact HO_5.out) hb);have n1_ := aK (below_step (by repeat (first|(with_reducible first|apply bA|apply bN|apply bD)|exact HB.out)) hb);have n2_ := aK (hbox);have n3_ := aK ((by rw [hg];exact (below_size (by repeat (first|(with_reducible first|apply bA|apply bN|apply bD)|exact HB.out))) : w.heap.size ≤ gb114));have n4_ := aK ((by rw [hg];exact (below_size (by repeat (first|(with_reducible first|apply bA|apply bN|apply bD)|exact HB.out))) : w.heap.size ≤ gb114));clear HO_5;clear HB;have HO_5 := n0_;have HB := n1_;have BK114 := n2_;have GW114 := n3_;have GE114 := n4_;clear n0_ n1_ n2_ n3_ n4_;clear hb hbox hg;have hcz10_0 : w9.cell? ⟨gb114, 0, none⟩ = some (.string (⟨#[]⟩ : BA)) := (blk_cell BK114.out 0).trans rfl;have hcz10_1 : w9.cell? ⟨gb114, 1, none⟩ = some (.string (⟨#[]⟩ : BA)) := (blk_cell BK114.out 1).trans rfl;have hfz10_0 := blk_frozen BK114.out 0;have hfz10_1 := blk_frozen BK114.out 1)|((with_reducible refine gate_callee (f := 124) rfl ?_);refine goesL_ (some 17) rfl rfl Tryz.func124 (by kernel_rfl) rfl #[.string ((rd_T76 l0 x10_1).f0), .string a1] rfl (by (try simp only [List.map_toArray, List.map_cons, List.map_nil]);first|done|rfl|(simp only [List.length_drop, List.length_take];rfl)) ?_;(with_reducible refine (head_Same.calls ((rd_T76 l0 x10_1).f0) a1 true _ A6.out).mono ?_);rintro e w11 ⟨rfl, hb⟩;refine ⟨_, rfl, ?_⟩;have n0_ := aK (Kd.R_below (by (with_reducible repeat (first|apply Kd.R_alloc|apply Kd.R_drewN|apply Kd.R_drew));exact (Kd.R_mono (Kd.R_far (p := ⟨gb114, 1, none⟩) (Kd.R_far (p := ⟨gb114, 0, none⟩) (Kd.R_types HO_5.out BK114.out (by decide)) (fun _ hk => hk.2) (.string ((rd_T76 l0 x10_1).f0))) (fun _ hk => hk.2) (.string ((rd_T76 l0 x10_1).f1))) (fun _ h_ => h_.1))) hb);have n1_ := aK (blk_below (g := gb114) (o := .cells #[.string ((rd_T76 l0 x10_1).f0), .string ((rd_T76 l0 x10_1).f1)] 76 (0, 0)) (by (with_reducible repeat (first|refine blk_drewN ?_ _|refine blk_drew ?_|refine blk_alloc ?_ _));refine blk_put (cs := #[.string ((rd_T76 l0 x10_1).f0), .string (⟨#[]⟩ : BA)]) ?_ 1 _ rfl;(with_reducible repeat (first|refine blk_drewN ?_ _|refine blk_drew ?_|refine blk_alloc ?_ _));refine blk_put (cs := #[.string (⟨#[]⟩ : BA), .string (⟨#[]⟩ : BA)]) ?_ 0 _ rfl;(with_reducible repeat (first|refine blk_drewN ?_ _|refine blk_drew ?_|refine blk_alloc ?_ _));exact BK114.out) hb);have n2_ := aK (below_step (by repeat (first|(with_reducible first|apply bA|apply bN|apply bD|refine below_set ?_ GE114.out)|exact HB.out)) hb);clear HO_5;clear BK114;clear HB;have HO_5 := n0_;have BK114 := n1_;have HB := n2_;clear n0_ n1_ n2_;try clear hb;have hcz12_0 : w11.cell? ⟨gb114, 0, none⟩ = some (.string ((rd_T76 l0 x10_1).f0)) := (blk_cell BK114.out 0).trans rfl;have hcz12_1 : w11.cell? ⟨gb114, 1, none⟩ = some (.string ((rd_T76 l0 x10_1).f1)) := (blk_cell BK114.out 1).trans rfl;have hfz12_0 := blk_frozen BK114.out 0;have hfz12_1 := blk_frozen BK114.out 1)|((with_reducible refine gate_builtin (b := .append) (xs := #[.tmp 18, .tmp 21]) rfl ?_);at_builtin;refine Kd.R_append Kd.string (w0 := w) w.heap.size rfl (.tmp 18) (.tmp 21) 33 9 (.string ⟨#[]⟩) 16 rfl Tryz.underlying33 info9 rfl (by decide) (by omega) u5 x5_1 ((rd_T76 l0 x10_1).f1) [.string ((rd_T76 l0 x10_1).f1)] (fun _ => True) (fun _ => False) rfl rfl ?aP (fun _ hk => hk.elim) ?aF ?aO ?aB ?aS ?aL ?_;(case aP => exact rfl);(case aB => exact (by repeat (first|(with_reducible first|apply bA|apply bN|apply bD|refine below_set ?_ GE114.out)|exact HB.out)));(case aF => exact (fun _ _ => trivial));(case aO => exact (by (with_reducible repeat (first|apply Kd.R_alloc|apply Kd.R_drewN|apply Kd.R_drew));exact HO_5.out));(case aS => exact (below_size (by repeat (first|(with_reducible first|apply bA|apply bN|apply bD|refine below_set ?_ GE114.out)|exact HB.out))));(case aL => have := LMc8.out;omega);intro v117 w13 ho hb hg hat;rw [← Ny116.out] at ho;have n0_ := aK (blk_grown (g := gb114) (o := .cells #[.string ((rd_T76 l0 x10_1).f0), .string ((rd_T76 l0 x10_1).f1)] 76 (0, 0)) (by (with_reducible repeat (first|refine blk_drewN ?_ _|refine blk_drew ?_|refine blk_alloc ?_ _));exact BK114.out) hg (Kd.R_ne HO_5.out BK114.out (by decide)));have n1_ := aK (hb);have n2_ := aK (ho);clear BK114;clear HB;clear HO_5;have BK114 := n0_;have HB := n1_;have HO118 := n2_;clear n0_ n1_ n2_;clear ho hb hg hat))
        go_roundg k1
        case measure => have := HK1.out;omega
        case rel => exact ⟨(y116), (wrap64 (x10_1 + 1)), (by first|rfl|(simp;done)|(simp [*];done)), H', ⟨by have := HK1.out;omega⟩, ⟨by (with_reducible repeat (first|apply Kd.R_alloc|apply Kd.R_drewN|apply Kd.R_drew));exact HO118.out⟩, ⟨by repeat (first|(with_reducible first|apply bA|apply bN|apply bD|refine below_set ?_ GE114.out)|exact HB.out)⟩⟩
       ·rw [if_neg c8] at H
        exact absurd H (by simp)
      ·replace c7 := Bool.eq_false_iff.mpr c7
       subst c7
       rw [if_neg (show ¬ (false = true) by decide)] at H
       have H' := aK H
       clear H
       have p113 : 0 ≤ (x10_1 : Int) := of_decide_eq_true (by first|(with_reducible assumption)|assumption)
       have q113 : x10_1 < (l0.length : Int) := of_decide_eq_true (by first|(with_reducible assumption)|assumption)
       obtain ⟨ad113, e113, hx113_0, hx113_1⟩ := at_T76 HR0.out x10_1 p113 q113
       cases e113
       replace hx113_0 := (HB.out.cell (World.block_lt_of_cell? w _ hx113_0)).trans hx113_0
       replace hx113_1 := (HB.out.cell (World.block_lt_of_cell? w _ hx113_1)).trans hx113_1
       replace p113 := eq_true p113
       replace q113 := eq_true q113
       go_wp2_with (first|((with_reducible refine gate_dst (N := 7) rfl ?_);refine box_event ?hg (N := 7) ?hd (cs := #[.string (⟨#[]⟩ : BA), .string (⟨#[]⟩ : BA)]) (t := 76) ?hr ?_;(case hd => rfl);(case hg => rfl);(case hr => first|(go_simp;done)|(go_simp;rfl));intro gb114 hg w14 hbox hb;have n0_ := aK (Kd.R_below (by (with_reducible repeat (first|apply Kd.R_alloc|apply Kd.R_drewN|apply Kd.R_drew));exact HO_5.out) hb);have n1_ := aK (below_step (by repeat (first|(with_reducible first|apply bA|apply bN|apply bD)|exact HB.out)) hb);have n2_ := aK (hbox);have n3_ := aK ((by rw [hg];exact (below_size (by repeat (first|(with_reducible first|apply bA|apply bN|apply bD)|exact HB.out))) : w.heap.size ≤ gb114));have n4_ := aK ((by rw [hg];exact (below_size (by repeat (first|(with_reducible first|apply bA|apply bN|apply bD)|exact HB.out))) : w.heap.size ≤ gb114));clear HO_5;clear HB;have HO_5 := n0_;have HB := n1_;have BK114 := n2_;have GW114 := n3_;have GE114 := n4_;clear n0_ n1_ n2_ n3_ n4_;clear hb hbox hg;have hcz15_0 : w14.cell? ⟨gb114, 0, none⟩ = some (.string (⟨#[]⟩ : BA)) := (blk_cell BK114.out 0).trans rfl;have hcz15_1 : w14.cell? ⟨gb114, 1, none⟩ = some (.string (⟨#[]⟩ : BA)) := (blk_cell BK114.out 1).trans rfl;have hfz15_0 := blk_frozen BK114.out 0;have hfz15_1 := blk_frozen BK114.out 1)|((with_reducible refine gate_callee (f := 124) rfl ?_);refine goesL_ (some 17) rfl rfl Tryz.func124 (by kernel_rfl) rfl #[.string ((rd_T76 l0 x10_1).f0), .string a1] rfl (by (try simp only [List.map_toArray, List.map_cons, List.map_nil]);first|done|rfl|(simp only [List.length_drop, List.length_take];rfl)) ?_;(with_reducible refine (head_Same.calls ((rd_T76 l0 x10_1).f0) a1 false _ A6.out).mono ?_);rintro e w16 ⟨rfl, hb⟩;refine ⟨_, rfl, ?_⟩;have n0_ := aK (Kd.R_below (by (with_reducible repeat (first|apply Kd.R_alloc|apply Kd.R_drewN|apply Kd.R_drew));exact (Kd.R_mono (Kd.R_far (p := ⟨gb114, 1, none⟩) (Kd.R_far (p := ⟨gb114, 0, none⟩) (Kd.R_types HO_5.out BK114.out (by decide)) (fun _ hk => hk.2) (.string ((rd_T76 l0 x10_1).f0))) (fun _ hk => hk.2) (.string ((rd_T76 l0 x10_1).f1))) (fun _ h_ => h_.1))) hb);have n1_ := aK (blk_below (g := gb114) (o := .cells #[.string ((rd_T76 l0 x10_1).f0), .string ((rd_T76 l0 x10_1).f1)] 76 (0, 0)) (by (with_reducible repeat (first|refine blk_drewN ?_ _|refine blk_drew ?_|refine blk_alloc ?_ _));refine blk_put (cs := #[.string ((rd_T76 l0 x10_1).f0), .string (⟨#[]⟩ : BA)]) ?_ 1 _ rfl;(with_reducible repeat (first|refine blk_drewN ?_ _|refine blk_drew ?_|refine blk_alloc ?_ _));refine blk_put (cs := #[.string (⟨#[]⟩ : BA), .string (⟨#[]⟩ : BA)]) ?_ 0 _ rfl;(with_reducible repeat (first|refine blk_drewN ?_ _|refine blk_drew ?_|refine blk_alloc ?_ _));exact BK114.out) hb);have n2_ := aK (below_step (by repeat (first|(with_reducible first|apply bA|apply bN|apply bD|refine below_set ?_ GE114.out)|exact HB.out)) hb);clear HO_5;clear BK114;clear HB;have HO_5 := n0_;have BK114 := n1_;have HB := n2_;clear n0_ n1_ n2_;try clear hb))
       go_roundg k1
       case measure => have := HK1.out;omega
       case rel => exact ⟨(x5_1), (wrap64 (x10_1 + 1)), (by first|rfl|(simp;done)|(simp [*];done)), H', ⟨by have := HK1.out;omega⟩, ⟨by (with_reducible repeat (first|apply Kd.R_alloc|apply Kd.R_drewN|apply Kd.R_drew));exact HO_5.out⟩, ⟨by repeat (first|(with_reducible first|apply bA|apply bN|apply bD|refine below_set ?_ GE114.out)|exact HB.out)⟩⟩
     ·rw [if_neg c5] at H
      exact absurd H (by simp)
    ·rw [if_neg c4] at H
     exact absurd H (by simp)
   ·rw [if_neg c3] at H
    have c3b0 : decide (x10_1 < (l0.length : Int)) = false := decide_eq_false c3
    clear c3
    obtain rfl := Option.some.inj H
    go_wp2
    go_ret
    exact ⟨_, by first|rfl|(simp [errW_none, errW_some] <;> rfl)|(simp [*, errW_none, errW_some] <;> rfl), by (with_reducible repeat (first|apply Kd.R_alloc|apply Kd.R_drewN|apply Kd.R_drew));exact HO_5.out, by repeat (first|(with_reducible first|apply bA|apply bN|apply bD)|exact HB.out)⟩
end Go.Proofs.YthdiiiopjkaifaaGreatDoor.Pall

import Derived.Test.YtpfbemcoblganaaGreatDoorQzPall0
import Derived.Test.YtpfbemcoblganaaGreatDoorQzPall1
import Derived.Test.YtpfbemcoblganaaGreatDoorQzPall4
import Derived.Test.YtpfbemcoblganaaGreatDoorQzPall5
import Derived.Test.YtpfbemcoblganaaGreatDoorQzPall7
namespace Go.Proofs.YtpfbemcoblganaaGreatDoor.Pall
open Go.RowKit Go.Proofs.YtpfbemcoblganaaGreatDoorW.PrintWords Go.Proofs.YtpfbemcoblganaaGreatDoorW.PrintLast
set_option linter.unusedVariables false
set_option linter.unusedSimpArgs false
attribute [local go_sem high] eqA34
def wicketmanref09_Parse.j0 : Nat → List Int → List ByteArray → Int → Bool → Option (ByteArray × ByteArray × (List (S34)) × List Int × Int)
 | 0, _, _, _, _ => none
 | k + 1, x0, x4, x5, x24 => if x24 = true then (some ((⟨#[]⟩ : ByteArray), (⟨#[]⟩ : ByteArray), ([] : List (S34)), ([] : List Int), 10)) else (if 0 < (x4.length : Int) then ((wicketmanref09_first.f k (rdOf ByteArray.empty x4 0)).bind fun bt216 => (if bt216.2.2.2.2 = 0 then (if 1 ≤ (x4.length : Int) then ((wicketmanref09_fields.f k (x4.drop 1)).bind fun bt230 => (if bt230.2 = 0 then ((wicketmanref09_body.f k bt230.1 (wrap64 ((x0.length : Int) - x5))).bind fun t234 => (if t234 = 0 then (if 0 ≤ x5 then (if x5 ≤ (x0.length : Int) then (some (bt216.1, bt216.2.1, bt230.1, (x0.drop (x5 : Int).toNat), 0)) else (none)) else (none)) else (some ((⟨#[]⟩ : ByteArray), (⟨#[]⟩ : ByteArray), ([] : List (S34)), ([] : List Int), t234)))) else (some ((⟨#[]⟩ : ByteArray), (⟨#[]⟩ : ByteArray), ([] : List (S34)), ([] : List Int), bt230.2)))) else (none)) else (some ((⟨#[]⟩ : ByteArray), (⟨#[]⟩ : ByteArray), ([] : List (S34)), ([] : List Int), bt216.2.2.2.2)))) else (none))
def wicketmanref09_Parse.f (k : Nat) (l0 : List Int) : Option (ByteArray × ByteArray × (List (S34)) × List Int × Int) := (wicketmanref09_Lines.f k l0).bind fun bt210 => (if bt210.2.2 = true then (wicketmanref09_Parse.j0 k l0 bt210.1 bt210.2.1 ((bt210.1.length : Int) == 0)) else (wicketmanref09_Parse.j0 k l0 bt210.1 bt210.2.1 true))
theorem wicketmanref09_Parse.mono_l : ∀ k, (∀ y0 y1 y2 y3, LeO (wicketmanref09_Parse.j0 k y0 y1 y2 y3) (wicketmanref09_Parse.j0 (k + 1) y0 y1 y2 y3))
 | 0 => fun _ _ _ _ r h => by simp [wicketmanref09_Parse.j0] at h
 | k + 1 => by
  have ih0 := wicketmanref09_Parse.mono_l k
  ·intro y0 y1 y2 y3
   unfold wicketmanref09_Parse.j0
   repeat' first
   | (with_reducible exact ih0 _ _ _ _)
   | (with_reducible exact wicketmanref09_Lines.mono _ _)
   | (with_reducible exact wicketmanref09_body.mono _ _ _)
   | (with_reducible exact wicketmanref09_fields.mono _ _)
   | (with_reducible exact wicketmanref09_first.mono _ _)
   | (with_reducible exact LeO.refl _)
   | (with_reducible exact LeO.none _)
   | (with_reducible refine LeO.ite ?_ ?_)
   | (with_reducible refine LeO.bind ?_ (fun _ => ?_))
   | exact ih0 _ _ _ _
   | exact wicketmanref09_Lines.mono _ _
   | exact wicketmanref09_body.mono _ _ _
   | exact wicketmanref09_fields.mono _ _
   | exact wicketmanref09_first.mono _ _
   | exact LeO.none _
   | refine LeO.ite ?_ ?_
   | refine LeO.bind ?_ (fun _ => ?_)
theorem wicketmanref09_Parse.mono : ∀ a0 k, LeO (wicketmanref09_Parse.f k a0) (wicketmanref09_Parse.f (k + 1) a0) := by
 intro a0 k
 have ih0 := wicketmanref09_Parse.mono_l k
 unfold wicketmanref09_Parse.f
 repeat' first
   | (with_reducible exact ih0 _ _ _ _)
   | (with_reducible exact wicketmanref09_Lines.mono _ _)
   | (with_reducible exact wicketmanref09_body.mono _ _ _)
   | (with_reducible exact wicketmanref09_fields.mono _ _)
   | (with_reducible exact wicketmanref09_first.mono _ _)
   | (with_reducible exact LeO.refl _)
   | (with_reducible exact LeO.none _)
   | (with_reducible refine LeO.ite ?_ ?_)
   | (with_reducible refine LeO.bind ?_ (fun _ => ?_))
   | exact ih0 _ _ _ _
   | exact wicketmanref09_Lines.mono _ _
   | exact wicketmanref09_body.mono _ _ _
   | exact wicketmanref09_fields.mono _ _
   | exact wicketmanref09_first.mono _ _
   | exact LeO.none _
   | refine LeO.ite ?_ ?_
   | refine LeO.bind ?_ (fun _ => ?_)
set_option maxHeartbeats 8000000 in
set_option maxRecDepth 100000 in
theorem wicketmanref09_Parse.calls (k : Nat) (P0_ : Nat → Prop) (A0 : Option Addr) (c0 : Nat) (l0 : List Int) (r1 : ByteArray) (r2 : ByteArray) (r3 : List (S34)) (r4 : List Int) (r5 : Int) (w : World) (hs0 : Kd.V (Kd.int .u8) 5 w w.heap.size (fun k_ => P0_ k_) (.slice A0 l0.length c0) l0) (h : wicketmanref09_Parse.f k l0 = some (r1, r2, r3, r4, r5)) :
  Calls Tryz.prog 6 #[.slice A0 l0.length c0] w fun e w' => ∃ v2_ v3_ : Value, e = .returned (.tuple #[.agg #[.string r1, .string r2, v2_, v3_], .int .i64 r5]) ∧ Kd.R k34 34 w' w.heap.size (fun k_ => (w.heap.size ≤ k_)) v2_ r3 ∧ Kd.V (Kd.int .u8) 5 w' w.heap.size (fun k_ => (P0_ k_ ∨ w.heap.size ≤ k_) ∧ some k_ ≠ (v2_ : Value).ownBlock) v3_ r4 ∧ Below w.heap.size w w' := by
 have hu25 := Tryz.underlying25
 have HO0 := Aside0.mk (show Kd.V (Kd.int .u8) 5 w w.heap.size (fun k_ => (P0_ k_ ∨ w.heap.size ≤ k_)) (.slice A0 l0.length c0) l0 from Kd.V_mono hs0 (fun k_ hk => .inl hk))
 have HB := Aside0.mk (Below.refl w.heap.size w)
 have H : ((wicketmanref09_Lines.f k l0).bind fun bt210 => (if bt210.2.2 = true then (wicketmanref09_Parse.j0 k l0 bt210.1 bt210.2.1 ((bt210.1.length : Int) == 0)) else (wicketmanref09_Parse.j0 k l0 bt210.1 bt210.2.1 true))) = some (r1, r2, r3, r4, r5) := h
 clear h
 replace H := Option.bind_eq_some_iff.mp H
 obtain ⟨⟨t210, t211, t212⟩, A20, H⟩ := H
 try dsimp only at H
 have A2 := Aside0.mk A20
 clear A20
 have HC3 := Aside0.mk H
 clear H
 go_enter Tryz.func6, Tryz.ntmps6
 go_upto_region 2 with (first | ((with_reducible refine gate_dst (N := 2) rfl ?_); (try (refine gate_guard (by rfl) ?_; dsimp only)); refine box_event ?hg (N := 2) ?hd (cs := #[.string (⟨#[]⟩ : ByteArray), .string (⟨#[]⟩ : ByteArray), .slice none 0 0, .slice none 0 0]) (t := 25) ?hr ?_; (case hd => rfl); (case hg => rfl); (case hr => first | (go_simp; done) | (go_simp; rfl)); intro gb209 hg w4 hbox hb; have n0_ := Aside0.mk (Kd.V_below (Kd.V_elderB (by (with_reducible repeat (first | apply Kd.V_alloc | apply Kd.V_drewN | apply Kd.V_drew)); exact HO0.out) gb209 (Nat.le_of_eq hg.symm)) hb); have n1_ := Aside0.mk (below_step (by repeat (first | (with_reducible first | apply bA | apply bN | apply bD) | exact HB.out)) hb); have n2_ := Aside0.mk (hbox); have n3_ := Aside0.mk ((by rw [hg]; exact (below_size (by repeat (first | (with_reducible first | apply bA | apply bN | apply bD) | exact HB.out))) : w.heap.size ≤ gb209)); have n4_ := Aside0.mk ((by rw [hg]; exact (below_size (by repeat (first | (with_reducible first | apply bA | apply bN | apply bD) | exact HB.out))) : w.heap.size ≤ gb209)); clear HO0; clear HB; have HO0 := n0_; have HB := n1_; have BK209 := n2_; have GW209 := n3_; have GE209 := n4_; clear n0_ n1_ n2_ n3_ n4_; clear hb hbox hg) | ((with_reducible refine gate_callee (f := 13) rfl ?_); refine goesL_ (some 14) rfl rfl Tryz.func13 (by kernel_rfl) rfl #[.slice A0 l0.length c0] rfl (by (try simp only [List.map_toArray, List.map_cons, List.map_nil]); first | done | rfl | (simp only [List.length_drop, List.length_take]; rfl)) ?_; (with_reducible refine (wicketmanref09_Lines.calls k _ _ l0 t210 t211 t212 _ ?side1 ?side2 A2.out).mono ?_); (case side1 => repeat (first | exact (Kd.V_reads' HO0.out).2.2 | (with_reducible refine Kd.C_alloc ?_ _) | (with_reducible refine Kd.C_drewN ?_ _) | (with_reducible refine Kd.C_drew ?_))); (case side2 => exact (Kd.V_reads' HO0.out).2.1); rintro e w5 ⟨v213, rfl, ho0, hb⟩; refine ⟨_, rfl, ?_⟩; have n0_ := Aside0.mk (Kd.V_elder' (by (with_reducible repeat (first | apply Kd.V_alloc | apply Kd.V_drewN | apply Kd.V_drew)); exact HO0.out) (Kd.R_base ho0) hb); have n1_ := Aside0.mk (Kd.R_lower (Kd.R_newM (M := fun k_ => (w.heap.size ≤ k_)) ho0 (below_size (by repeat (first | (with_reducible first | apply bA | apply bN | apply bD | refine below_set ?_ GE209.out) | exact HB.out))) (fun k_ h_ => h_)) (below_size (by repeat (first | (with_reducible first | apply bA | apply bN | apply bD | refine below_set ?_ GE209.out) | exact HB.out)))); have n2_ := Aside0.mk (blk_below (g := gb209) (o := .cells #[.string (⟨#[]⟩ : ByteArray), .string (⟨#[]⟩ : ByteArray), .slice none 0 0, .slice none 0 0] 25 (0, 0)) (by (with_reducible repeat (first | refine blk_drewN ?_ _ | refine blk_drew ?_ | refine blk_alloc ?_ _)); exact BK209.out) hb); have n3_ := Aside0.mk (below_step (by repeat (first | (with_reducible first | apply bA | apply bN | apply bD | refine below_set ?_ GE209.out) | exact HB.out)) hb); clear HO0; clear BK209; clear HB; have HO0 := n0_; have HO214 := n1_; have BK209 := n2_; have HB := n3_; clear n0_ n1_ n2_ n3_; (try clear hb); (try clear hb2); (try clear hk); (try clear hi); (try clear ho0)))
 (try simp only [Act.put, List.setIfInBounds_toArray, List.set_cons_zero, List.set_cons_succ])
 go_cut [24] (fun v24 wc => ∃ (kq : Nat) (x24_2 : Bool), v24 = .bool x24_2 ∧ Aside0 (wicketmanref09_Parse.j0 kq l0 t210 t211 x24_2 = some (r1, r2, r3, r4, r5)) ∧ Aside0 (kq ≤ k) ∧ Aside0 (Kd.V (Kd.int .u8) 5 wc w.heap.size (fun k_ => (P0_ k_ ∨ w.heap.size ≤ k_) ∧ some k_ ≠ (v213 : Value).ownBlock ∧ k_ ≠ gb209) (.slice A0 l0.length c0) l0) ∧ Aside0 (Kd.R Kd.string 9 wc w.heap.size (fun k_ => (w.heap.size ≤ k_)) v213 t210) ∧ Aside0 (wc.heap[gb209]? = some (.cells #[.string (⟨#[]⟩ : ByteArray), .string (⟨#[]⟩ : ByteArray), (.slice none 0 0), (.slice none 0 0)] 25 (0, 0))) ∧ Aside0 (Below w.heap.size w wc))
 case first =>
  have H := HC3.out
  clear HC3
  by_cases c6 : t212 = true
  ·subst c6
   rw [if_pos rfl] at H
   have H' := Aside0.mk H
   clear H
   obtain ⟨Ao7, co7, eo7⟩ := Kd.R_slice HO214.out
   subst eo7
   go_wp2
   go_meet
   case rel => exact ⟨_, (((t210.length : Int) == 0)), (by first | rfl | (simp; done) | (simp [*]; done)), H', ⟨by first | omega | exact Nat.le_refl _⟩, ⟨by (with_reducible repeat (first | apply Kd.V_alloc | apply Kd.V_drewN | apply Kd.V_drew)); exact Kd.V_mono HO0.out (fun _ hk => ⟨hk.1.1, ⟨hk.2, hk.1.2⟩⟩)⟩, ⟨by (with_reducible repeat (first | apply Kd.R_alloc | apply Kd.R_drewN | apply Kd.R_drew)); exact Kd.R_mono HO214.out (fun _ hk => hk.1)⟩, ⟨by (with_reducible repeat (first | refine blk_drewN ?_ _ | refine blk_drew ?_ | refine blk_alloc ?_ _)); exact BK209.out⟩, ⟨by repeat (first | (with_reducible first | apply bA | apply bN | apply bD | refine below_set ?_ GE209.out) | exact HB.out)⟩⟩
  ·replace c6 := Bool.eq_false_iff.mpr c6
   subst c6
   rw [if_neg (show ¬ (false = true) by decide)] at H
   have H' := Aside0.mk H
   clear H
   go_wp2
   go_meet
   case rel => exact ⟨_, (true), (by first | rfl | (simp; done) | (simp [*]; done)), H', ⟨by first | omega | exact Nat.le_refl _⟩, ⟨by (with_reducible repeat (first | apply Kd.V_alloc | apply Kd.V_drewN | apply Kd.V_drew)); exact Kd.V_mono HO0.out (fun _ hk => ⟨hk.1.1, ⟨hk.2, hk.1.2⟩⟩)⟩, ⟨by (with_reducible repeat (first | apply Kd.R_alloc | apply Kd.R_drewN | apply Kd.R_drew)); exact Kd.R_mono HO214.out (fun _ hk => hk.1)⟩, ⟨by (with_reducible repeat (first | refine blk_drewN ?_ _ | refine blk_drew ?_ | refine blk_alloc ?_ _)); exact BK209.out⟩, ⟨by repeat (first | (with_reducible first | apply bA | apply bN | apply bD | refine below_set ?_ GE209.out) | exact HB.out)⟩⟩
 case rest =>
  clear HC3
  try clear c1
  try clear p2
  try clear c6
  obtain ⟨kq, x24_2, rfl, HA, HJ2, HO_0, HO_4, BK209, HB⟩ := hcut
  cases kq with
  | zero => exact absurd HA.out (by simp [wicketmanref09_Parse.j0])
  | succ kj2 =>
   have H := HA.out
   clear HA
   simp only [wicketmanref09_Parse.j0] at H
   by_cases c8 : x24_2 = true
   ·subst c8
    rw [if_pos rfl] at H
    simp only [Option.some.injEq, Prod.mk.injEq] at H
    obtain ⟨rfl, rfl, rfl, rfl, rfl⟩ := H
    have hcz9_0 : wc.cell? ⟨gb209, 0, none⟩ = some (.string (⟨#[]⟩ : ByteArray)) := (blk_cell BK209.out 0).trans rfl
    have hcz9_1 : wc.cell? ⟨gb209, 1, none⟩ = some (.string (⟨#[]⟩ : ByteArray)) := (blk_cell BK209.out 1).trans rfl
    have hcz9_2 : wc.cell? ⟨gb209, 2, none⟩ = some (.slice none 0 0) := (blk_cell BK209.out 2).trans rfl
    have hcz9_3 : wc.cell? ⟨gb209, 3, none⟩ = some (.slice none 0 0) := (blk_cell BK209.out 3).trans rfl
    have hfz9_0 := blk_frozen BK209.out 0
    have hfz9_1 := blk_frozen BK209.out 1
    have hfz9_2 := blk_frozen BK209.out 2
    have hfz9_3 := blk_frozen BK209.out 3
    go_wp2
    refine bodyPost_ret (results_ct rfl _ _ gb209 25 #[.string (⟨#[]⟩ : ByteArray), .string (⟨#[]⟩ : ByteArray), .slice none 0 0, .slice none 0 0] (0, 0) _ rfl (by (with_reducible repeat (first | refine blk_drewN ?_ _ | refine blk_drew ?_ | refine blk_alloc ?_ _)); refine blk_put (cs := #[.string (⟨#[]⟩ : ByteArray), .string (⟨#[]⟩ : ByteArray), .slice none 0 0, .slice none 0 0]) ?_ 3 _ rfl; (with_reducible repeat (first | refine blk_drewN ?_ _ | refine blk_drew ?_ | refine blk_alloc ?_ _)); refine blk_put (cs := #[.string (⟨#[]⟩ : ByteArray), .string (⟨#[]⟩ : ByteArray), .slice none 0 0, .slice none 0 0]) ?_ 2 _ rfl; (with_reducible repeat (first | refine blk_drewN ?_ _ | refine blk_drew ?_ | refine blk_alloc ?_ _)); refine blk_put (cs := #[.string (⟨#[]⟩ : ByteArray), .string (⟨#[]⟩ : ByteArray), .slice none 0 0, .slice none 0 0]) ?_ 1 _ rfl; (with_reducible repeat (first | refine blk_drewN ?_ _ | refine blk_drew ?_ | refine blk_alloc ?_ _)); refine blk_put (cs := #[.string (⟨#[]⟩ : ByteArray), .string (⟨#[]⟩ : ByteArray), .slice none 0 0, .slice none 0 0]) ?_ 0 _ rfl; (with_reducible repeat (first | refine blk_drewN ?_ _ | refine blk_drew ?_ | refine blk_alloc ?_ _)); exact BK209.out) Tryz.underlying25 rfl (by kernel_rfl)) rfl ?_
    exact ⟨_, _, by first | rfl | (simp [errW_none, errW_some] <;> rfl) | (simp [*, errW_none, errW_some] <;> rfl), by first | exact Kd.R_nil _ _ _ _ _ | exact Kd.N_nil _ _ _ _ _ | exact Kd.V_nil _ _ _ _ _ | exact Kd.Q_nil _ _ _ _ _ | exact Kd.S_nil _ _ _ _ _, Kd.V_nil _ _ _ _ _, by repeat (first | (with_reducible first | apply bA | apply bN | apply bD | refine below_set ?_ GE209.out) | exact HB.out)⟩
   ·replace c8 := Bool.eq_false_iff.mpr c8
    subst c8
    rw [if_neg (show ¬ (false = true) by decide)] at H
    by_cases c10 : 0 < (t210.length : Int)
    ·rw [if_pos c10] at H
     have c10b0 : decide (0 < (t210.length : Int)) = true := decide_eq_true c10
     have c10b1 : decide (0 < t210.length) = true := decide_eq_true (by omega)
     clear c10
     replace H := Option.bind_eq_some_iff.mp H
     obtain ⟨⟨t216, t217, t218, t221, t224⟩, A110, H⟩ := H
     try dsimp only at H
     have A11 := Aside0.mk A110
     clear A110
     by_cases c12 : t224 = 0
     ·rw [if_pos c12] at H
      have c12b0 : (t224 == 0) = true := beq_iff_eq.mpr c12
      have c12b1 : (t224 != 0) = false := bne_eq_false_iff_eq.mpr c12
      clear c12
      by_cases c13 : 1 ≤ (t210.length : Int)
      ·rw [if_pos c13] at H
       have c13b0 := eq_true c13
       have c13b1 : decide (1 ≤ (t210.length : Int)) = true := decide_eq_true c13
       clear c13
       obtain ⟨y226, hy226⟩ : ∃ y_ : List ByteArray, y_ = (t210.drop 1) := ⟨_, rfl⟩
       replace H : ((wicketmanref09_fields.f kj2 y226).bind fun bt230 => (if bt230.2 = 0 then ((wicketmanref09_body.f kj2 bt230.1 (wrap64 ((l0.length : Int) - t211))).bind fun t234 => (if t234 = 0 then (if 0 ≤ t211 then (if t211 ≤ (l0.length : Int) then (some (t216, t217, bt230.1, (l0.drop (t211 : Int).toNat), 0)) else (none)) else (none)) else (some ((⟨#[]⟩ : ByteArray), (⟨#[]⟩ : ByteArray), ([] : List (S34)), ([] : List Int), t234)))) else (some ((⟨#[]⟩ : ByteArray), (⟨#[]⟩ : ByteArray), ([] : List (S34)), ([] : List Int), bt230.2)))) = some (r1, r2, r3, r4, r5) := by first | (rw [hy226]; with_reducible exact H) | (have H2_ := (Option.bind_some _ _).symm.trans H; rw [hy226]; with_reducible exact H2_) | (have H2_ := (Option.bind_some _ _).symm.trans H; with_reducible exact H2_) | with_reducible exact H | (rw [hy226]; exact H) | exact H
       have Ny226 := Aside0.mk hy226
       clear hy226
       replace H := Option.bind_eq_some_iff.mp H
       obtain ⟨⟨t230, t231⟩, A140, H⟩ := H
       try dsimp only at H
       have A14 := Aside0.mk A140
       clear A140
       by_cases c15 : t231 = 0
       ·rw [if_pos c15] at H
        have c15b0 : (t231 == 0) = true := beq_iff_eq.mpr c15
        have c15b1 : (t231 != 0) = false := bne_eq_false_iff_eq.mpr c15
        clear c15
        replace H := Option.bind_eq_some_iff.mp H
        obtain ⟨t234, A160, H⟩ := H
        try dsimp only at H
        have A16 := Aside0.mk A160
        clear A160
        by_cases c17 : t234 = 0
        ·rw [if_pos c17] at H
         have c17b0 : (t234 == 0) = true := beq_iff_eq.mpr c17
         have c17b1 : (t234 != 0) = false := bne_eq_false_iff_eq.mpr c17
         clear c17
         by_cases c18 : 0 ≤ t211
         ·rw [if_pos c18] at H
          have c18b0 := eq_true c18
          have c18b1 : decide (0 ≤ t211) = true := decide_eq_true c18
          clear c18
          by_cases c19 : t211 ≤ (l0.length : Int)
          ·rw [if_pos c19] at H
           have c19b0 := eq_true c19
           have c19b1 : decide (t211 ≤ (l0.length : Int)) = true := decide_eq_true c19
           clear c19
           obtain ⟨y235, hy235⟩ : ∃ y_ : List Int, y_ = (l0.drop (t211 : Int).toNat) := ⟨_, rfl⟩
           replace H : (some (t216, t217, t230, y235, 0)) = some (r1, r2, r3, r4, r5) := by first | (rw [hy235]; with_reducible exact H) | (have H2_ := (Option.bind_some _ _).symm.trans H; rw [hy235]; with_reducible exact H2_) | (have H2_ := (Option.bind_some _ _).symm.trans H; with_reducible exact H2_) | with_reducible exact H | (rw [hy235]; exact H) | exact H
           have Ny235 := Aside0.mk hy235
           clear hy235
           simp only [Option.some.injEq, Prod.mk.injEq] at H
           obtain ⟨rfl, rfl, rfl, rfl, rfl⟩ := H
           obtain ⟨Ao20, co20, eo20⟩ := Kd.R_slice HO_4.out
           subst eo20
           have p215 : 0 ≤ (0 : Int) := (by omega)
           have q215 : 0 < (t210.length : Int) := of_decide_eq_true (by first | (with_reducible assumption) | assumption)
           obtain ⟨ad215, e215, hx215_0⟩ := Kd.at_string (Kd.R_reads' HO_4.out).2.2 0 p215 q215
           cases e215
           have qi215 : (0 < t210.length) = True := eq_true (by omega)
           (try rw [show ((0 : Int)).toNat = 0 from rfl] at hx215_0)
           (try rw [Addr.add_zero'] at hx215_0)
           replace p215 := eq_true p215
           replace q215 := eq_true q215
           go_wp2_with (first | ((with_reducible refine gate_callee (f := 14) rfl ?_); refine goesL_ (some 30) rfl rfl Tryz.func14 (by kernel_rfl) rfl #[.string (rdOf ByteArray.empty t210 0)] rfl (by (try simp only [List.map_toArray, List.map_cons, List.map_nil]); first | done | rfl | (simp only [List.length_drop, List.length_take]; rfl)) ?_; (with_reducible refine (wicketmanref09_first.calls kj2 (rdOf ByteArray.empty t210 0) t216 t217 t218 t221 t224 _ A11.out).mono ?_); rintro e w21 ⟨v219, v222, rfl, ho0, ho1, hb⟩; refine ⟨_, rfl, ?_⟩; have n0_ := Aside0.mk (Kd.V_mono (Kd.V_told (Kd.V_told (Kd.V_old (by (with_reducible repeat (first | apply Kd.V_alloc | apply Kd.V_drewN | apply Kd.V_drew)); exact HO_0.out) hb) (Kd.R_base ho0)) (Kd.R_base ho1)) (fun _ h_ => h_.1)); have n1_ := Aside0.mk (Kd.R_below (by (with_reducible repeat (first | apply Kd.R_alloc | apply Kd.R_drewN | apply Kd.R_drew)); exact HO_4.out) hb); have n2_ := Aside0.mk (Kd.R_lower (Kd.R_newM (M := fun k_ => (w.heap.size ≤ k_)) ho0 (below_size (by repeat (first | (with_reducible first | apply bA | apply bN | apply bD | refine below_set ?_ GE209.out) | exact HB.out))) (fun k_ h_ => h_)) (below_size (by repeat (first | (with_reducible first | apply bA | apply bN | apply bD | refine below_set ?_ GE209.out) | exact HB.out)))); have n3_ := Aside0.mk (Kd.R_lower (Kd.R_newM (M := fun k_ => (w.heap.size ≤ k_)) ho1 (below_size (by repeat (first | (with_reducible first | apply bA | apply bN | apply bD | refine below_set ?_ GE209.out) | exact HB.out))) (fun k_ h_ => h_)) (below_size (by repeat (first | (with_reducible first | apply bA | apply bN | apply bD | refine below_set ?_ GE209.out) | exact HB.out)))); have n4_ := Aside0.mk (blk_below (g := gb209) (o := .cells #[.string (⟨#[]⟩ : ByteArray), .string (⟨#[]⟩ : ByteArray), .slice none 0 0, .slice none 0 0] 25 (0, 0)) (by (with_reducible repeat (first | refine blk_drewN ?_ _ | refine blk_drew ?_ | refine blk_alloc ?_ _)); exact BK209.out) hb); have n5_ := Aside0.mk (below_step (by repeat (first | (with_reducible first | apply bA | apply bN | apply bD | refine below_set ?_ GE209.out) | exact HB.out)) hb); clear HO_0; clear HO_4; clear BK209; clear HB; have HO_0 := n0_; have HO_4 := n1_; have HO220 := n2_; have HO223 := n3_; have BK209 := n4_; have HB := n5_; clear n0_ n1_ n2_ n3_ n4_ n5_; (try clear hb); (try clear hb2); (try clear hk); (try clear hi); (try clear ho0); (try clear ho1)) | ((with_reducible refine gate_dst (N := 7) rfl ?_); (try (refine gate_guard (by rfl) ?_; dsimp only)); refine box_event ?hg (N := 7) ?hd (cs := #[.string (⟨#[]⟩ : ByteArray), .string (⟨#[]⟩ : ByteArray), .slice none 0 0, .slice none 0 0]) (t := 25) ?hr ?_; (case hd => rfl); (case hg => rfl); (case hr => first | (go_simp; done) | (go_simp; rfl)); intro gb225 hg w22 hbox hb; have n0_ := Aside0.mk (Kd.V_below (Kd.V_elderB (by (with_reducible repeat (first | apply Kd.V_alloc | apply Kd.V_drewN | apply Kd.V_drew)); exact HO_0.out) gb225 (Nat.le_of_eq hg.symm)) hb); have n1_ := Aside0.mk (Kd.R_below (by (with_reducible repeat (first | apply Kd.R_alloc | apply Kd.R_drewN | apply Kd.R_drew)); exact HO_4.out) hb); have n2_ := Aside0.mk (Kd.R_below (by (with_reducible repeat (first | apply Kd.R_alloc | apply Kd.R_drewN | apply Kd.R_drew)); exact HO220.out) hb); have n3_ := Aside0.mk (Kd.R_below (by (with_reducible repeat (first | apply Kd.R_alloc | apply Kd.R_drewN | apply Kd.R_drew)); exact HO223.out) hb); have n4_ := Aside0.mk (blk_below (g := gb209) (o := .cells #[.string (⟨#[]⟩ : ByteArray), .string (⟨#[]⟩ : ByteArray), .slice none 0 0, .slice none 0 0] 25 (0, 0)) (by (with_reducible repeat (first | refine blk_drewN ?_ _ | refine blk_drew ?_ | refine blk_alloc ?_ _)); exact BK209.out) hb); have n5_ := Aside0.mk (below_step (by repeat (first | (with_reducible first | apply bA | apply bN | apply bD | refine below_set ?_ GE209.out) | exact HB.out)) hb); have n6_ := Aside0.mk (hbox); have n7_ := Aside0.mk ((by rw [hg]; exact (below_size (by repeat (first | (with_reducible first | apply bA | apply bN | apply bD | refine below_set ?_ GE209.out) | exact HB.out))) : w.heap.size ≤ gb225)); have n8_ := Aside0.mk ((by rw [hg]; exact (below_size (by repeat (first | (with_reducible first | apply bA | apply bN | apply bD | refine below_set ?_ GE209.out) | exact HB.out))) : w.heap.size ≤ gb225)); have n9_ := Aside0.mk ((by rw [hg]; exact Nat.ne_of_lt (blk_lt (g := gb209) (o := .cells #[.string (⟨#[]⟩ : ByteArray), .string (⟨#[]⟩ : ByteArray), .slice none 0 0, .slice none 0 0] 25 (0, 0)) (by (with_reducible repeat (first | refine blk_drewN ?_ _ | refine blk_drew ?_ | refine blk_alloc ?_ _)); exact BK209.out)) : gb209 ≠ gb225)); have n10_ := Aside0.mk ((by rw [hg]; exact Nat.ne_of_gt (blk_lt (g := gb209) (o := .cells #[.string (⟨#[]⟩ : ByteArray), .string (⟨#[]⟩ : ByteArray), .slice none 0 0, .slice none 0 0] 25 (0, 0)) (by (with_reducible repeat (first | refine blk_drewN ?_ _ | refine blk_drew ?_ | refine blk_alloc ?_ _)); exact BK209.out)) : gb225 ≠ gb209)); clear HO_0; clear HO_4; clear HO220; clear HO223; clear BK209; clear HB; have HO_0 := n0_; have HO_4 := n1_; have HO220 := n2_; have HO223 := n3_; have BK209 := n4_; have HB := n5_; have BK225 := n6_; have GW225 := n7_; have GE225 := n8_; have NB209_225 := n9_; have NB225_209 := n10_; clear n0_ n1_ n2_ n3_ n4_ n5_ n6_ n7_ n8_ n9_ n10_; clear hb hbox hg; have hnb23 := NB225_209.out; have hnc23 := NB209_225.out; have hcz24_0 : w22.cell? ⟨gb225, 0, none⟩ = some (.string (⟨#[]⟩ : ByteArray)) := (blk_cell BK225.out 0).trans rfl; have hcz24_1 : w22.cell? ⟨gb225, 1, none⟩ = some (.string (⟨#[]⟩ : ByteArray)) := (blk_cell BK225.out 1).trans rfl; have hcz24_2 : w22.cell? ⟨gb225, 2, none⟩ = some (.slice none 0 0) := (blk_cell BK225.out 2).trans rfl; have hcz24_3 : w22.cell? ⟨gb225, 3, none⟩ = some (.slice none 0 0) := (blk_cell BK225.out 3).trans rfl; have hfz24_0 := blk_frozen BK225.out 0; have hfz24_1 := blk_frozen BK225.out 1; have hfz24_2 := blk_frozen BK225.out 2; have hfz24_3 := blk_frozen BK225.out 3; obtain ⟨Ao25, co25, eo25⟩ := Kd.R_slice HO220.out; subst eo25; obtain ⟨Ao26, co26, eo26⟩ := Kd.R_slice HO223.out; subst eo26) | ((with_reducible refine gate_store (t := 25) (p := 7) rfl ?_); refine store_event (t := 25) (p := 7) (v := ?vo_w27) (w1 := ((((w22.setCell ⟨gb225, 0, none⟩ (.string t216)).setCell ⟨gb225, 1, none⟩ (.string t217)).setCell ⟨gb225, 2, none⟩ (.slice Ao25 t218.length co25)).setCell ⟨gb225, 3, none⟩ (.slice Ao26 t221.length co26))) ?hg ?ho ?hn ?hr ?_; (case ho => rfl); (case hg => rfl); (case hn => rfl); (case hr => first | (go_simp; done) | (go_simp; rfl)); intro w27 hw; have n0_ : Aside0 (Kd.V (Kd.int .u8) 5 w27 w.heap.size (fun k_ => (P0_ k_ ∨ w.heap.size ≤ k_) ∧ some k_ ≠ (.slice (some ad215) t210.length co20 : Value).ownBlock ∧ some k_ ≠ (.slice Ao25 t218.length co25 : Value).ownBlock ∧ some k_ ≠ (.slice Ao26 t221.length co26 : Value).ownBlock ∧ k_ ≠ gb209 ∧ k_ ≠ gb225) (.slice A0 l0.length c0) l0) := ⟨(by rw [hw]; exact (by (with_reducible repeat (first | apply Kd.V_alloc | apply Kd.V_drewN | apply Kd.V_drew)); exact Kd.V_mono (Kd.V_far (p := ⟨gb225, 3, none⟩) (Kd.V_far (p := ⟨gb225, 2, none⟩) (Kd.V_far (p := ⟨gb225, 1, none⟩) (Kd.V_far (p := ⟨gb225, 0, none⟩) (Kd.V_mono HO_0.out (fun k_ hk => (⟨hk, hk.2⟩ : _ ∧ k_ ≠ gb225))) (fun _ hk => hk.2) (.string t216)) (fun _ hk => hk.2) (.string t217)) (fun _ hk => hk.2) (.slice Ao25 t218.length co25)) (fun _ hk => hk.2) (.slice Ao26 t221.length co26)) (fun _ hk => ⟨hk.1.1.1.1.1, ⟨hk.1.1.1.1.2.1, ⟨hk.1.1.1.2, ⟨hk.1.1.2, ⟨hk.1.1.1.1.2.2, hk.1.2⟩⟩⟩⟩⟩)))⟩; have n1_ : Aside0 (Kd.R Kd.string 9 w27 w.heap.size (fun k_ => (w.heap.size ≤ k_)) (.slice (some ad215) t210.length co20) t210) := ⟨(by rw [hw]; exact (by (with_reducible repeat (first | apply Kd.R_alloc | apply Kd.R_drewN | apply Kd.R_drew)); exact Kd.R_mono (Kd.R_far (p := ⟨gb225, 3, none⟩) (Kd.R_far (p := ⟨gb225, 2, none⟩) (Kd.R_far (p := ⟨gb225, 1, none⟩) (Kd.R_far (p := ⟨gb225, 0, none⟩) (Kd.R_types HO_4.out BK225.out (by decide)) (fun _ hk => hk.2) (.string t216)) (fun _ hk => hk.2) (.string t217)) (fun _ hk => hk.2) (.slice Ao25 t218.length co25)) (fun _ hk => hk.2) (.slice Ao26 t221.length co26)) (fun _ hk => hk.1)))⟩; have n2_ : Aside0 (Kd.R k34 34 w27 w.heap.size (fun k_ => (w.heap.size ≤ k_)) (.slice Ao25 t218.length co25) t218) := ⟨(by rw [hw]; exact (by (with_reducible repeat (first | apply Kd.R_alloc | apply Kd.R_drewN | apply Kd.R_drew)); exact Kd.R_mono (Kd.R_far (p := ⟨gb225, 3, none⟩) (Kd.R_far (p := ⟨gb225, 2, none⟩) (Kd.R_far (p := ⟨gb225, 1, none⟩) (Kd.R_far (p := ⟨gb225, 0, none⟩) (Kd.R_types HO220.out BK225.out (by decide)) (fun _ hk => hk.2) (.string t216)) (fun _ hk => hk.2) (.string t217)) (fun _ hk => hk.2) (.slice Ao25 t218.length co25)) (fun _ hk => hk.2) (.slice Ao26 t221.length co26)) (fun _ hk => hk.1.1)))⟩; have n3_ : Aside0 (Kd.R (Kd.int .u8) 5 w27 w.heap.size (fun k_ => (w.heap.size ≤ k_)) (.slice Ao26 t221.length co26) t221) := ⟨(by rw [hw]; exact (by (with_reducible repeat (first | apply Kd.R_alloc | apply Kd.R_drewN | apply Kd.R_drew)); exact Kd.R_mono (Kd.R_far (p := ⟨gb225, 3, none⟩) (Kd.R_far (p := ⟨gb225, 2, none⟩) (Kd.R_far (p := ⟨gb225, 1, none⟩) (Kd.R_far (p := ⟨gb225, 0, none⟩) (Kd.R_types HO223.out BK225.out (by decide)) (fun _ hk => hk.2) (.string t216)) (fun _ hk => hk.2) (.string t217)) (fun _ hk => hk.2) (.slice Ao25 t218.length co25)) (fun _ hk => hk.2) (.slice Ao26 t221.length co26)) (fun _ hk => hk.1.1)))⟩; have n4_ : Aside0 (w27.heap[gb209]? = some (.cells #[.string (⟨#[]⟩ : ByteArray), .string (⟨#[]⟩ : ByteArray), .slice none 0 0, .slice none 0 0] 25 (0, 0))) := ⟨(by rw [hw]; exact (by (with_reducible repeat (first | refine blk_drewN ?_ _ | refine blk_drew ?_ | refine blk_alloc ?_ _)); refine blk_far ?_ NB209_225.out _; (with_reducible repeat (first | refine blk_drewN ?_ _ | refine blk_drew ?_ | refine blk_alloc ?_ _)); refine blk_far ?_ NB209_225.out _; (with_reducible repeat (first | refine blk_drewN ?_ _ | refine blk_drew ?_ | refine blk_alloc ?_ _)); refine blk_far ?_ NB209_225.out _; (with_reducible repeat (first | refine blk_drewN ?_ _ | refine blk_drew ?_ | refine blk_alloc ?_ _)); refine blk_far ?_ NB209_225.out _; (with_reducible repeat (first | refine blk_drewN ?_ _ | refine blk_drew ?_ | refine blk_alloc ?_ _)); exact BK209.out))⟩; have n5_ : Aside0 (w27.heap[gb225]? = some (.cells #[.string t216, .string t217, .slice Ao25 t218.length co25, .slice Ao26 t221.length co26] 25 (0, 0))) := ⟨(by rw [hw]; exact (by (with_reducible repeat (first | refine blk_drewN ?_ _ | refine blk_drew ?_ | refine blk_alloc ?_ _)); refine blk_put (cs := #[.string t216, .string t217, .slice Ao25 t218.length co25, .slice none 0 0]) ?_ 3 _ rfl; (with_reducible repeat (first | refine blk_drewN ?_ _ | refine blk_drew ?_ | refine blk_alloc ?_ _)); refine blk_put (cs := #[.string t216, .string t217, .slice none 0 0, .slice none 0 0]) ?_ 2 _ rfl; (with_reducible repeat (first | refine blk_drewN ?_ _ | refine blk_drew ?_ | refine blk_alloc ?_ _)); refine blk_put (cs := #[.string t216, .string (⟨#[]⟩ : ByteArray), .slice none 0 0, .slice none 0 0]) ?_ 1 _ rfl; (with_reducible repeat (first | refine blk_drewN ?_ _ | refine blk_drew ?_ | refine blk_alloc ?_ _)); refine blk_put (cs := #[.string (⟨#[]⟩ : ByteArray), .string (⟨#[]⟩ : ByteArray), .slice none 0 0, .slice none 0 0]) ?_ 0 _ rfl; (with_reducible repeat (first | refine blk_drewN ?_ _ | refine blk_drew ?_ | refine blk_alloc ?_ _)); exact BK225.out))⟩; have n6_ : Aside0 (Below w.heap.size w w27) := ⟨(by rw [hw]; exact (by repeat (first | (with_reducible first | apply bA | apply bN | apply bD | refine below_set ?_ GE209.out | refine below_set ?_ GE225.out) | exact HB.out)))⟩; clear hw; clear HO_0; clear HO_4; clear HO220; clear HO223; clear BK209; clear BK225; clear HB; have HO_0 := n0_; have HO_4 := n1_; have HO220 := n2_; have HO223 := n3_; have BK209 := n4_; have BK225 := n5_; have HB := n6_; clear n0_ n1_ n2_ n3_ n4_ n5_ n6_; have q28 : (1 : Int) ≤ ((t210.length : Int) : Int) := of_decide_eq_true (by first | (with_reducible assumption) | assumption); obtain ⟨i028, hi028, _, hsz28, _⟩ := info_parts info9; have hroom28 : t210.length ≤ co20 := (Kd.R_reads' HO_4.out).2.1; have hC28 : Kd.C Kd.string _ (some ad215) t210.length t210 := (Kd.R_reads' HO_4.out).2.2; have hcut28 := cut_from (P := Tryz.prog) 40 9 .i64 Tryz.underlying40 hi028 1 hsz28 (some ad215) t210.length co20 1 (by omega) q28; have hr28 := Kd.C_drop (m := (1 : Int).toNat) (c := co20) hC28 (by omega) hroom28; obtain ⟨A28, hA28⟩ : ∃ A1, A1 = (if co20 = (1 : Int).toNat then (some ad215) else ((some ad215) : Option Addr).map (·.add ((1 : Int).toNat * 1))) := ⟨_, rfl⟩; obtain ⟨c28, hc28⟩ : ∃ c1, c1 = co20 - (1 : Int).toNat := ⟨_, rfl⟩; have hy28 : y226.length = t210.length - (1 : Int).toNat := (by rw [Ny226.out, List.length_drop] <;> omega); rw [show (t210).drop (1 : Int).toNat = y226 from Ny226.out.symm] at hr28; replace hr28 : Kd.C Kd.string _ A28 y226.length y226 := (by rw [hA28]; exact hr28); rw [← hy28, ← hA28, ← hc28] at hcut28; have HR229 := Aside0.mk hr28; have HC229 := Aside0.mk (show y226.length ≤ c28 from by rw [hy28, hc28]; exact Nat.sub_le_sub_right hroom28 _); clear hr28 hC28 hroom28 hi028 hsz28 hc28; have KY28 := Aside0.mk hy28; have KA28 := Aside0.mk hA28; clear hy28 hA28; have KL28 := Aside0.mk (show 1 ≤ t210.length from by omega); replace q28 := eq_true q28) | ((with_reducible refine gate_callee (f := 15) rfl ?_); refine goesL_ (some 40) rfl rfl Tryz.func15 (by kernel_rfl) rfl #[.slice A28 y226.length c28] rfl (by (try simp only [List.map_toArray, List.map_cons, List.map_nil]); first | done | rfl | (simp only [List.length_drop, List.length_take]; rfl)) ?_; (with_reducible refine (wicketmanref09_fields.calls kj2 _ _ y226 t230 t231 _ ?side1 ?side2 A14.out).mono ?_); (case side1 => repeat (first | exact (by repeat (first | (with_reducible exact HR229.out) | (with_reducible refine Kd.C_alloc ?_ _) | (with_reducible refine Kd.C_drewN ?_ _) | (with_reducible refine Kd.C_drew ?_) | exact HR229.out)) | (with_reducible refine Kd.C_alloc ?_ _) | (with_reducible refine Kd.C_drewN ?_ _) | (with_reducible refine Kd.C_drew ?_))); (case side2 => exact HC229.out); rintro e w29 ⟨v232, rfl, ho0, hb⟩; refine ⟨_, rfl, ?_⟩; have n0_ := Aside0.mk (Kd.V_elder' (by (with_reducible repeat (first | apply Kd.V_alloc | apply Kd.V_drewN | apply Kd.V_drew)); exact HO_0.out) (Kd.R_base ho0) hb); have n1_ := Aside0.mk (Kd.R_below (by (with_reducible repeat (first | apply Kd.R_alloc | apply Kd.R_drewN | apply Kd.R_drew)); exact HO_4.out) hb); have n2_ := Aside0.mk (Kd.R_elder' (by (with_reducible repeat (first | apply Kd.R_alloc | apply Kd.R_drewN | apply Kd.R_drew)); exact HO220.out) (Kd.R_base ho0) hb); have n3_ := Aside0.mk (Kd.R_below (by (with_reducible repeat (first | apply Kd.R_alloc | apply Kd.R_drewN | apply Kd.R_drew)); exact HO223.out) hb); have n4_ := Aside0.mk (Kd.R_lower (Kd.R_new' (Kd.R_newM (M := fun k_ => (w.heap.size ≤ k_)) ho0 (below_size (by repeat (first | (with_reducible first | apply bA | apply bN | apply bD | refine below_set ?_ GE209.out | refine below_set ?_ GE225.out) | exact HB.out))) (fun k_ h_ => h_)) (Kd.R_lt (by (with_reducible repeat (first | apply Kd.R_alloc | apply Kd.R_drewN | apply Kd.R_drew)); exact HO220.out))) (below_size (by repeat (first | (with_reducible first | apply bA | apply bN | apply bD | refine below_set ?_ GE209.out | refine below_set ?_ GE225.out) | exact HB.out)))); have n5_ := Aside0.mk (blk_below (g := gb209) (o := .cells #[.string (⟨#[]⟩ : ByteArray), .string (⟨#[]⟩ : ByteArray), .slice none 0 0, .slice none 0 0] 25 (0, 0)) (by (with_reducible repeat (first | refine blk_drewN ?_ _ | refine blk_drew ?_ | refine blk_alloc ?_ _)); exact BK209.out) hb); have n6_ := Aside0.mk (blk_below (g := gb225) (o := .cells #[.string t216, .string t217, .slice Ao25 t218.length co25, .slice Ao26 t221.length co26] 25 (0, 0)) (by (with_reducible repeat (first | refine blk_drewN ?_ _ | refine blk_drew ?_ | refine blk_alloc ?_ _)); exact BK225.out) hb); have n7_ := Aside0.mk (Kd.C_below (by repeat (first | (with_reducible exact HR229.out) | (with_reducible refine Kd.C_alloc ?_ _) | (with_reducible refine Kd.C_drewN ?_ _) | (with_reducible refine Kd.C_drew ?_) | exact HR229.out)) hb); have n8_ := Aside0.mk (below_step (by repeat (first | (with_reducible first | apply bA | apply bN | apply bD | refine below_set ?_ GE209.out | refine below_set ?_ GE225.out) | exact HB.out)) hb); clear HO_0; clear HO_4; clear HO220; clear HO223; clear BK209; clear BK225; clear HR229; clear HB; have HO_0 := n0_; have HO_4 := n1_; have HO220 := n2_; have HO223 := n3_; have HO233 := n4_; have BK209 := n5_; have BK225 := n6_; have HR229 := n7_; have HB := n8_; clear n0_ n1_ n2_ n3_ n4_ n5_ n6_ n7_ n8_; (try clear hb); (try clear hb2); (try clear hk); (try clear hi); (try clear ho0); obtain ⟨Ao30, co30, eo30⟩ := Kd.R_slice HO233.out; subst eo30) | ((with_reducible refine gate_callee (f := 16) rfl ?_); refine goesL_ (some 52) rfl rfl Tryz.func16 (by kernel_rfl) rfl #[.slice Ao30 t230.length co30, .int .i64 (wrap64 ((l0.length : Int) - t211))] rfl (by (try simp only [List.map_toArray, List.map_cons, List.map_nil]); first | done | rfl | (simp only [List.length_drop, List.length_take]; rfl)) ?_; (with_reducible refine (wicketmanref09_body.calls kj2 _ _ t230 (wrap64 ((l0.length : Int) - t211)) t234 _ ?side1 ?side2 A16.out).mono ?_); (case side1 => repeat (first | exact (Kd.R_reads' HO233.out).2.2 | (with_reducible refine Kd.C_alloc ?_ _) | (with_reducible refine Kd.C_drewN ?_ _) | (with_reducible refine Kd.C_drew ?_))); (case side2 => exact (Kd.R_reads' HO233.out).2.1); rintro e w31 ⟨rfl, hb⟩; refine ⟨_, rfl, ?_⟩; have n0_ := Aside0.mk (Kd.V_below (by (with_reducible repeat (first | apply Kd.V_alloc | apply Kd.V_drewN | apply Kd.V_drew)); exact HO_0.out) hb); have n1_ := Aside0.mk (Kd.R_below (by (with_reducible repeat (first | apply Kd.R_alloc | apply Kd.R_drewN | apply Kd.R_drew)); exact HO_4.out) hb); have n2_ := Aside0.mk (Kd.R_below (by (with_reducible repeat (first | apply Kd.R_alloc | apply Kd.R_drewN | apply Kd.R_drew)); exact HO220.out) hb); have n3_ := Aside0.mk (Kd.R_below (by (with_reducible repeat (first | apply Kd.R_alloc | apply Kd.R_drewN | apply Kd.R_drew)); exact HO223.out) hb); have n4_ := Aside0.mk (Kd.R_below (by (with_reducible repeat (first | apply Kd.R_alloc | apply Kd.R_drewN | apply Kd.R_drew)); exact HO233.out) hb); have n5_ := Aside0.mk (blk_below (g := gb209) (o := .cells #[.string (⟨#[]⟩ : ByteArray), .string (⟨#[]⟩ : ByteArray), .slice none 0 0, .slice none 0 0] 25 (0, 0)) (by (with_reducible repeat (first | refine blk_drewN ?_ _ | refine blk_drew ?_ | refine blk_alloc ?_ _)); exact BK209.out) hb); have n6_ := Aside0.mk (blk_below (g := gb225) (o := .cells #[.string t216, .string t217, .slice Ao25 t218.length co25, .slice Ao26 t221.length co26] 25 (0, 0)) (by (with_reducible repeat (first | refine blk_drewN ?_ _ | refine blk_drew ?_ | refine blk_alloc ?_ _)); exact BK225.out) hb); have n7_ := Aside0.mk (Kd.C_below (by repeat (first | (with_reducible exact HR229.out) | (with_reducible refine Kd.C_alloc ?_ _) | (with_reducible refine Kd.C_drewN ?_ _) | (with_reducible refine Kd.C_drew ?_) | exact HR229.out)) hb); have n8_ := Aside0.mk (below_step (by repeat (first | (with_reducible first | apply bA | apply bN | apply bD | refine below_set ?_ GE209.out | refine below_set ?_ GE225.out) | exact HB.out)) hb); clear HO_0; clear HO_4; clear HO220; clear HO223; clear HO233; clear BK209; clear BK225; clear HR229; clear HB; have HO_0 := n0_; have HO_4 := n1_; have HO220 := n2_; have HO223 := n3_; have HO233 := n4_; have BK209 := n5_; have BK225 := n6_; have HR229 := n7_; have HB := n8_; clear n0_ n1_ n2_ n3_ n4_ n5_ n6_ n7_ n8_; (try clear hb); (try clear hb2); (try clear hk); (try clear hi); have hcz32_0 : w31.cell? ⟨gb225, 0, none⟩ = some (.string t216) := (blk_cell BK225.out 0).trans rfl; have hcz32_1 : w31.cell? ⟨gb225, 1, none⟩ = some (.string t217) := (blk_cell BK225.out 1).trans rfl; have hcz32_2 : w31.cell? ⟨gb225, 2, none⟩ = some (.slice Ao25 t218.length co25) := (blk_cell BK225.out 2).trans rfl; have hcz32_3 : w31.cell? ⟨gb225, 3, none⟩ = some (.slice Ao26 t221.length co26) := (blk_cell BK225.out 3).trans rfl; have hfz32_0 := blk_frozen BK225.out 0; have hfz32_1 := blk_frozen BK225.out 1; have hfz32_2 := blk_frozen BK225.out 2; have hfz32_3 := blk_frozen BK225.out 3) | ((with_reducible refine gate_store (t := 22) (p := 58) rfl ?_); refine store_event (t := 22) (p := 58) (v := ?vo_w33) (w1 := (w31.setCell ⟨gb225, 2, none⟩ (.slice Ao30 t230.length co30))) ?hg ?ho ?hn ?hr ?_; (case ho => rfl); (case hg => rfl); (case hn => rfl); (case hr => first | (go_simp; done) | (go_simp; rfl)); intro w33 hw; have n0_ : Aside0 (Kd.V (Kd.int .u8) 5 w33 w.heap.size (fun k_ => (P0_ k_ ∨ w.heap.size ≤ k_) ∧ some k_ ≠ (.slice (some ad215) t210.length co20 : Value).ownBlock ∧ some k_ ≠ (.slice Ao25 t218.length co25 : Value).ownBlock ∧ some k_ ≠ (.slice Ao26 t221.length co26 : Value).ownBlock ∧ some k_ ≠ (.slice Ao30 t230.length co30 : Value).ownBlock ∧ k_ ≠ gb209 ∧ k_ ≠ gb225) (.slice A0 l0.length c0) l0) := ⟨(by rw [hw]; exact (by (with_reducible repeat (first | apply Kd.V_alloc | apply Kd.V_drewN | apply Kd.V_drew)); exact Kd.V_mono (Kd.V_far (p := ⟨gb225, 2, none⟩) (Kd.V_mono HO_0.out (fun k_ hk => (⟨hk, hk.1.2.2.2.2.2⟩ : _ ∧ k_ ≠ gb225))) (fun _ hk => hk.2) (.slice Ao30 t230.length co30)) (fun _ hk => ⟨hk.1.1.1, ⟨hk.1.1.2.1, ⟨hk.1.1.2.2.1, ⟨hk.1.1.2.2.2.1, ⟨hk.1.2, ⟨hk.1.1.2.2.2.2.1, hk.1.1.2.2.2.2.2⟩⟩⟩⟩⟩⟩)))⟩; have n1_ : Aside0 (Kd.R Kd.string 9 w33 w.heap.size (fun k_ => (w.heap.size ≤ k_)) (.slice (some ad215) t210.length co20) t210) := ⟨(by rw [hw]; exact (by (with_reducible repeat (first | apply Kd.R_alloc | apply Kd.R_drewN | apply Kd.R_drew)); exact Kd.R_mono (Kd.R_far (p := ⟨gb225, 2, none⟩) (Kd.R_types HO_4.out BK225.out (by decide)) (fun _ hk => hk.2) (.slice Ao30 t230.length co30)) (fun _ hk => hk.1)))⟩; have n2_ : Aside0 (Kd.R k34 34 w33 w.heap.size (fun k_ => (w.heap.size ≤ k_) ∧ some k_ ≠ (.slice Ao30 t230.length co30 : Value).ownBlock) (.slice Ao25 t218.length co25) t218) := ⟨(by rw [hw]; exact (by (with_reducible repeat (first | apply Kd.R_alloc | apply Kd.R_drewN | apply Kd.R_drew)); exact Kd.R_mono (Kd.R_far (p := ⟨gb225, 2, none⟩) (Kd.R_types HO220.out BK225.out (by decide)) (fun _ hk => hk.2) (.slice Ao30 t230.length co30)) (fun _ hk => ⟨hk.1.1, hk.1.2⟩)))⟩; have n3_ : Aside0 (Kd.R (Kd.int .u8) 5 w33 w.heap.size (fun k_ => (w.heap.size ≤ k_)) (.slice Ao26 t221.length co26) t221) := ⟨(by rw [hw]; exact (by (with_reducible repeat (first | apply Kd.R_alloc | apply Kd.R_drewN | apply Kd.R_drew)); exact Kd.R_mono (Kd.R_far (p := ⟨gb225, 2, none⟩) (Kd.R_types HO223.out BK225.out (by decide)) (fun _ hk => hk.2) (.slice Ao30 t230.length co30)) (fun _ hk => hk.1)))⟩; have n4_ : Aside0 (Kd.R k34 34 w33 w.heap.size (fun k_ => (w.heap.size ≤ k_) ∧ some k_ ≠ (.slice Ao25 t218.length co25 : Value).ownBlock) (.slice Ao30 t230.length co30) t230) := ⟨(by rw [hw]; exact (by (with_reducible repeat (first | apply Kd.R_alloc | apply Kd.R_drewN | apply Kd.R_drew)); exact Kd.R_mono (Kd.R_far (p := ⟨gb225, 2, none⟩) (Kd.R_types HO233.out BK225.out (by decide)) (fun _ hk => hk.2) (.slice Ao30 t230.length co30)) (fun _ hk => ⟨hk.1.1.1, hk.1.2⟩)))⟩; have n5_ : Aside0 (w33.heap[gb209]? = some (.cells #[.string (⟨#[]⟩ : ByteArray), .string (⟨#[]⟩ : ByteArray), .slice none 0 0, .slice none 0 0] 25 (0, 0))) := ⟨(by rw [hw]; exact (by (with_reducible repeat (first | refine blk_drewN ?_ _ | refine blk_drew ?_ | refine blk_alloc ?_ _)); refine blk_far ?_ NB209_225.out _; (with_reducible repeat (first | refine blk_drewN ?_ _ | refine blk_drew ?_ | refine blk_alloc ?_ _)); exact BK209.out))⟩; have n6_ : Aside0 (w33.heap[gb225]? = some (.cells #[.string t216, .string t217, .slice Ao30 t230.length co30, .slice Ao26 t221.length co26] 25 (0, 0))) := ⟨(by rw [hw]; exact (by (with_reducible repeat (first | refine blk_drewN ?_ _ | refine blk_drew ?_ | refine blk_alloc ?_ _)); refine blk_put (cs := #[.string t216, .string t217, .slice Ao25 t218.length co25, .slice Ao26 t221.length co26]) ?_ 2 _ rfl; (with_reducible repeat (first | refine blk_drewN ?_ _ | refine blk_drew ?_ | refine blk_alloc ?_ _)); exact BK225.out))⟩; have n7_ : Aside0 (Below w.heap.size w w33) := ⟨(by rw [hw]; exact (by repeat (first | (with_reducible first | apply bA | apply bN | apply bD | refine below_set ?_ GE209.out | refine below_set ?_ GE225.out) | exact HB.out)))⟩; clear hw; clear HO_0; clear HO_4; clear HO220; clear HO223; clear HO233; clear BK209; clear BK225; clear HB; have HO_0 := n0_; have HO_4 := n1_; have HO220 := n2_; have HO223 := n3_; have HO233 := n4_; have BK209 := n5_; have BK225 := n6_; have HB := n7_; clear n0_ n1_ n2_ n3_ n4_ n5_ n6_ n7_; have q34 : (t211 : Int) ≤ ((l0.length : Int) : Int) := of_decide_eq_true (by first | (with_reducible assumption) | assumption); obtain ⟨i034, hi034, _, hsz34, _⟩ := info_parts info5; have hroom34 : l0.length ≤ c0 := (Kd.V_reads' HO_0.out).2.1; have hC34 : Kd.F (Kd.int .u8) _ _ A0 l0.length l0 := (Kd.V_at (base := w.heap.size) HO_0.out).2.2; have q034 : (0 : Int) ≤ (t211 : Int) := of_decide_eq_true (by first | (with_reducible assumption) | assumption); have hcut34 := cut_from (P := Tryz.prog) 23 5 .i64 Tryz.underlying23 hi034 1 hsz34 A0 l0.length c0 t211 q034 q34; have hr34 := Kd.F_cut (m := (t211 : Int).toNat) (c := c0) hC34 (by omega) hroom34; obtain ⟨A34, hA34⟩ : ∃ A1, A1 = (if c0 = (t211 : Int).toNat then A0 else (A0 : Option Addr).map (·.add ((t211 : Int).toNat * 1))) := ⟨_, rfl⟩; obtain ⟨c34, hc34⟩ : ∃ c1, c1 = c0 - (t211 : Int).toNat := ⟨_, rfl⟩; have hy34 : y235.length = l0.length - (t211 : Int).toNat := (by rw [Ny235.out, List.length_drop] <;> omega); rw [show (l0).drop (t211 : Int).toNat = y235 from Ny235.out.symm] at hr34; replace hr34 : Kd.F (Kd.int .u8) _ _ A34 y235.length y235 := (by rw [hA34]; exact hr34); rw [← hy34, ← hA34, ← hc34] at hcut34; have HO239 := Aside0.mk (show Kd.V (Kd.int .u8) 5 _ w.heap.size _ (.slice A34 y235.length c34) y235 from Kd.V_mk (by rw [hy34, hc34]; exact Nat.sub_le_sub_right hroom34 _) hr34); have HC239 := Aside0.mk (show y235.length ≤ c34 from by rw [hy34, hc34]; exact Nat.sub_le_sub_right hroom34 _); clear hr34 hC34 hroom34 hi034 hsz34 hc34; have KY34 := Aside0.mk hy34; have KA34 := Aside0.mk hA34; clear hy34 hA34; replace q34 := eq_true q34; have hcz35_0 : w33.cell? ⟨gb225, 0, none⟩ = some (.string t216) := (blk_cell BK225.out 0).trans rfl; have hcz35_1 : w33.cell? ⟨gb225, 1, none⟩ = some (.string t217) := (blk_cell BK225.out 1).trans rfl; have hcz35_2 : w33.cell? ⟨gb225, 2, none⟩ = some (.slice Ao30 t230.length co30) := (blk_cell BK225.out 2).trans rfl; have hcz35_3 : w33.cell? ⟨gb225, 3, none⟩ = some (.slice Ao26 t221.length co26) := (blk_cell BK225.out 3).trans rfl; have hfz35_0 := blk_frozen BK225.out 0; have hfz35_1 := blk_frozen BK225.out 1; have hfz35_2 := blk_frozen BK225.out 2; have hfz35_3 := blk_frozen BK225.out 3; have hcz36_0 : w33.cell? ⟨gb209, 0, none⟩ = some (.string (⟨#[]⟩ : ByteArray)) := (blk_cell BK209.out 0).trans rfl; have hcz36_1 : w33.cell? ⟨gb209, 1, none⟩ = some (.string (⟨#[]⟩ : ByteArray)) := (blk_cell BK209.out 1).trans rfl; have hcz36_2 : w33.cell? ⟨gb209, 2, none⟩ = some (.slice none 0 0) := (blk_cell BK209.out 2).trans rfl; have hcz36_3 : w33.cell? ⟨gb209, 3, none⟩ = some (.slice none 0 0) := (blk_cell BK209.out 3).trans rfl; have hfz36_0 := blk_frozen BK209.out 0; have hfz36_1 := blk_frozen BK209.out 1; have hfz36_2 := blk_frozen BK209.out 2; have hfz36_3 := blk_frozen BK209.out 3))
           refine bodyPost_ret (results_ct rfl _ _ gb209 25 #[.string t216, .string t217, .slice Ao30 t230.length co30, .slice A34 y235.length c34] (0, 0) _ rfl (by (with_reducible repeat (first | refine blk_drewN ?_ _ | refine blk_drew ?_ | refine blk_alloc ?_ _)); refine blk_put (cs := #[.string t216, .string t217, .slice Ao30 t230.length co30, .slice none 0 0]) ?_ 3 _ rfl; (with_reducible repeat (first | refine blk_drewN ?_ _ | refine blk_drew ?_ | refine blk_alloc ?_ _)); refine blk_put (cs := #[.string t216, .string t217, .slice none 0 0, .slice none 0 0]) ?_ 2 _ rfl; (with_reducible repeat (first | refine blk_drewN ?_ _ | refine blk_drew ?_ | refine blk_alloc ?_ _)); refine blk_put (cs := #[.string t216, .string (⟨#[]⟩ : ByteArray), .slice none 0 0, .slice none 0 0]) ?_ 1 _ rfl; (with_reducible repeat (first | refine blk_drewN ?_ _ | refine blk_drew ?_ | refine blk_alloc ?_ _)); refine blk_put (cs := #[.string (⟨#[]⟩ : ByteArray), .string (⟨#[]⟩ : ByteArray), .slice none 0 0, .slice none 0 0]) ?_ 0 _ rfl; (with_reducible repeat (first | refine blk_drewN ?_ _ | refine blk_drew ?_ | refine blk_alloc ?_ _)); refine blk_far ?_ NB209_225.out _; (with_reducible repeat (first | refine blk_drewN ?_ _ | refine blk_drew ?_ | refine blk_alloc ?_ _)); exact BK209.out) Tryz.underlying25 rfl (by kernel_rfl)) rfl ?_
           exact ⟨_, _, by first | rfl | (simp [errW_none, errW_some] <;> rfl) | (simp [*, errW_none, errW_some] <;> rfl), by (with_reducible repeat (first | apply Kd.R_alloc | apply Kd.R_drewN | apply Kd.R_drew)); exact Kd.R_mono (Kd.R_far (p := ⟨gb209, 3, none⟩) (Kd.R_far (p := ⟨gb209, 2, none⟩) (Kd.R_far (p := ⟨gb209, 1, none⟩) (Kd.R_far (p := ⟨gb209, 0, none⟩) (Kd.R_far (p := ⟨gb225, 3, none⟩) (Kd.R_types (Kd.R_types HO233.out BK225.out (by decide)) BK209.out (by decide)) (fun _ hk => hk.1.2) (.slice A34 y235.length c34)) (fun _ hk => hk.2) (.string t216)) (fun _ hk => hk.2) (.string t217)) (fun _ hk => hk.2) (.slice Ao30 t230.length co30)) (fun _ hk => hk.2) (.slice A34 y235.length c34)) (fun _ hk => hk.1.1.1), by (with_reducible repeat (first | apply Kd.V_alloc | apply Kd.V_drewN | apply Kd.V_drew)); exact Kd.V_mono (Kd.V_far (p := ⟨gb209, 3, none⟩) (Kd.V_far (p := ⟨gb209, 2, none⟩) (Kd.V_far (p := ⟨gb209, 1, none⟩) (Kd.V_far (p := ⟨gb209, 0, none⟩) (Kd.V_far (p := ⟨gb225, 3, none⟩) (Kd.V_mono (Kd.V_mono HO239.out (fun k_ hk => (⟨hk, hk.2.2.2.2.2.2⟩ : _ ∧ k_ ≠ gb225))) (fun k_ hk => (⟨hk, hk.1.2.2.2.2.2.1⟩ : _ ∧ k_ ≠ gb209))) (fun _ hk => hk.1.2) (.slice A34 y235.length c34)) (fun _ hk => hk.2) (.string t216)) (fun _ hk => hk.2) (.string t217)) (fun _ hk => hk.2) (.slice Ao30 t230.length co30)) (fun _ hk => hk.2) (.slice A34 y235.length c34)) (fun _ hk => ⟨hk.1.1.1, hk.1.1.2.2.2.2.1⟩), by repeat (first | (with_reducible first | apply bA | apply bN | apply bD | refine below_set ?_ GE209.out | refine below_set ?_ GE225.out) | exact HB.out)⟩
          ·rw [if_neg c19] at H
           exact absurd H (by simp)
         ·rw [if_neg c18] at H
          exact absurd H (by simp)
        ·rw [if_neg c17] at H
         have c17b0 : (t234 == 0) = false := beq_eq_false_iff_ne.mpr c17
         have c17b1 : (t234 != 0) = true := bne_iff_ne.mpr c17
         simp only [Option.some.injEq, Prod.mk.injEq] at H
         obtain ⟨rfl, rfl, rfl, rfl, rfl⟩ := H
         obtain ⟨Ao37, co37, eo37⟩ := Kd.R_slice HO_4.out
         subst eo37
         have p215 : 0 ≤ (0 : Int) := (by omega)
         have q215 : 0 < (t210.length : Int) := of_decide_eq_true (by first | (with_reducible assumption) | assumption)
         obtain ⟨ad215, e215, hx215_0⟩ := Kd.at_string (Kd.R_reads' HO_4.out).2.2 0 p215 q215
         cases e215
         have qi215 : (0 < t210.length) = True := eq_true (by omega)
         (try rw [show ((0 : Int)).toNat = 0 from rfl] at hx215_0)
         (try rw [Addr.add_zero'] at hx215_0)
         replace p215 := eq_true p215
         replace q215 := eq_true q215
         go_wp2_with (first | ((with_reducible refine gate_callee (f := 14) rfl ?_); refine goesL_ (some 30) rfl rfl Tryz.func14 (by kernel_rfl) rfl #[.string (rdOf ByteArray.empty t210 0)] rfl (by (try simp only [List.map_toArray, List.map_cons, List.map_nil]); first | done | rfl | (simp only [List.length_drop, List.length_take]; rfl)) ?_; (with_reducible refine (wicketmanref09_first.calls kj2 (rdOf ByteArray.empty t210 0) t216 t217 t218 t221 t224 _ A11.out).mono ?_); rintro e w38 ⟨v219, v222, rfl, ho0, ho1, hb⟩; refine ⟨_, rfl, ?_⟩; have n0_ := Aside0.mk (Kd.V_mono (Kd.V_told (Kd.V_told (Kd.V_old (by (with_reducible repeat (first | apply Kd.V_alloc | apply Kd.V_drewN | apply Kd.V_drew)); exact HO_0.out) hb) (Kd.R_base ho0)) (Kd.R_base ho1)) (fun _ h_ => h_.1)); have n1_ := Aside0.mk (Kd.R_below (by (with_reducible repeat (first | apply Kd.R_alloc | apply Kd.R_drewN | apply Kd.R_drew)); exact HO_4.out) hb); have n2_ := Aside0.mk (Kd.R_lower (Kd.R_newM (M := fun k_ => (w.heap.size ≤ k_)) ho0 (below_size (by repeat (first | (with_reducible first | apply bA | apply bN | apply bD | refine below_set ?_ GE209.out) | exact HB.out))) (fun k_ h_ => h_)) (below_size (by repeat (first | (with_reducible first | apply bA | apply bN | apply bD | refine below_set ?_ GE209.out) | exact HB.out)))); have n3_ := Aside0.mk (Kd.R_lower (Kd.R_newM (M := fun k_ => (w.heap.size ≤ k_)) ho1 (below_size (by repeat (first | (with_reducible first | apply bA | apply bN | apply bD | refine below_set ?_ GE209.out) | exact HB.out))) (fun k_ h_ => h_)) (below_size (by repeat (first | (with_reducible first | apply bA | apply bN | apply bD | refine below_set ?_ GE209.out) | exact HB.out)))); have n4_ := Aside0.mk (blk_below (g := gb209) (o := .cells #[.string (⟨#[]⟩ : ByteArray), .string (⟨#[]⟩ : ByteArray), .slice none 0 0, .slice none 0 0] 25 (0, 0)) (by (with_reducible repeat (first | refine blk_drewN ?_ _ | refine blk_drew ?_ | refine blk_alloc ?_ _)); exact BK209.out) hb); have n5_ := Aside0.mk (below_step (by repeat (first | (with_reducible first | apply bA | apply bN | apply bD | refine below_set ?_ GE209.out) | exact HB.out)) hb); clear HO_0; clear HO_4; clear BK209; clear HB; have HO_0 := n0_; have HO_4 := n1_; have HO220 := n2_; have HO223 := n3_; have BK209 := n4_; have HB := n5_; clear n0_ n1_ n2_ n3_ n4_ n5_; (try clear hb); (try clear hb2); (try clear hk); (try clear hi); (try clear ho0); (try clear ho1)) | ((with_reducible refine gate_dst (N := 7) rfl ?_); (try (refine gate_guard (by rfl) ?_; dsimp only)); refine box_event ?hg (N := 7) ?hd (cs := #[.string (⟨#[]⟩ : ByteArray), .string (⟨#[]⟩ : ByteArray), .slice none 0 0, .slice none 0 0]) (t := 25) ?hr ?_; (case hd => rfl); (case hg => rfl); (case hr => first | (go_simp; done) | (go_simp; rfl)); intro gb225 hg w39 hbox hb; have n0_ := Aside0.mk (Kd.V_below (Kd.V_elderB (by (with_reducible repeat (first | apply Kd.V_alloc | apply Kd.V_drewN | apply Kd.V_drew)); exact HO_0.out) gb225 (Nat.le_of_eq hg.symm)) hb); have n1_ := Aside0.mk (Kd.R_below (by (with_reducible repeat (first | apply Kd.R_alloc | apply Kd.R_drewN | apply Kd.R_drew)); exact HO_4.out) hb); have n2_ := Aside0.mk (Kd.R_below (by (with_reducible repeat (first | apply Kd.R_alloc | apply Kd.R_drewN | apply Kd.R_drew)); exact HO220.out) hb); have n3_ := Aside0.mk (Kd.R_below (by (with_reducible repeat (first | apply Kd.R_alloc | apply Kd.R_drewN | apply Kd.R_drew)); exact HO223.out) hb); have n4_ := Aside0.mk (blk_below (g := gb209) (o := .cells #[.string (⟨#[]⟩ : ByteArray), .string (⟨#[]⟩ : ByteArray), .slice none 0 0, .slice none 0 0] 25 (0, 0)) (by (with_reducible repeat (first | refine blk_drewN ?_ _ | refine blk_drew ?_ | refine blk_alloc ?_ _)); exact BK209.out) hb); have n5_ := Aside0.mk (below_step (by repeat (first | (with_reducible first | apply bA | apply bN | apply bD | refine below_set ?_ GE209.out) | exact HB.out)) hb); have n6_ := Aside0.mk (hbox); have n7_ := Aside0.mk ((by rw [hg]; exact (below_size (by repeat (first | (with_reducible first | apply bA | apply bN | apply bD | refine below_set ?_ GE209.out) | exact HB.out))) : w.heap.size ≤ gb225)); have n8_ := Aside0.mk ((by rw [hg]; exact (below_size (by repeat (first | (with_reducible first | apply bA | apply bN | apply bD | refine below_set ?_ GE209.out) | exact HB.out))) : w.heap.size ≤ gb225)); have n9_ := Aside0.mk ((by rw [hg]; exact Nat.ne_of_lt (blk_lt (g := gb209) (o := .cells #[.string (⟨#[]⟩ : ByteArray), .string (⟨#[]⟩ : ByteArray), .slice none 0 0, .slice none 0 0] 25 (0, 0)) (by (with_reducible repeat (first | refine blk_drewN ?_ _ | refine blk_drew ?_ | refine blk_alloc ?_ _)); exact BK209.out)) : gb209 ≠ gb225)); have n10_ := Aside0.mk ((by rw [hg]; exact Nat.ne_of_gt (blk_lt (g := gb209) (o := .cells #[.string (⟨#[]⟩ : ByteArray), .string (⟨#[]⟩ : ByteArray), .slice none 0 0, .slice none 0 0] 25 (0, 0)) (by (with_reducible repeat (first | refine blk_drewN ?_ _ | refine blk_drew ?_ | refine blk_alloc ?_ _)); exact BK209.out)) : gb225 ≠ gb209)); clear HO_0; clear HO_4; clear HO220; clear HO223; clear BK209; clear HB; have HO_0 := n0_; have HO_4 := n1_; have HO220 := n2_; have HO223 := n3_; have BK209 := n4_; have HB := n5_; have BK225 := n6_; have GW225 := n7_; have GE225 := n8_; have NB209_225 := n9_; have NB225_209 := n10_; clear n0_ n1_ n2_ n3_ n4_ n5_ n6_ n7_ n8_ n9_ n10_; clear hb hbox hg; have hnb40 := NB225_209.out; have hnc40 := NB209_225.out; have hcz41_0 : w39.cell? ⟨gb225, 0, none⟩ = some (.string (⟨#[]⟩ : ByteArray)) := (blk_cell BK225.out 0).trans rfl; have hcz41_1 : w39.cell? ⟨gb225, 1, none⟩ = some (.string (⟨#[]⟩ : ByteArray)) := (blk_cell BK225.out 1).trans rfl; have hcz41_2 : w39.cell? ⟨gb225, 2, none⟩ = some (.slice none 0 0) := (blk_cell BK225.out 2).trans rfl; have hcz41_3 : w39.cell? ⟨gb225, 3, none⟩ = some (.slice none 0 0) := (blk_cell BK225.out 3).trans rfl; have hfz41_0 := blk_frozen BK225.out 0; have hfz41_1 := blk_frozen BK225.out 1; have hfz41_2 := blk_frozen BK225.out 2; have hfz41_3 := blk_frozen BK225.out 3; obtain ⟨Ao42, co42, eo42⟩ := Kd.R_slice HO220.out; subst eo42; obtain ⟨Ao43, co43, eo43⟩ := Kd.R_slice HO223.out; subst eo43) | ((with_reducible refine gate_store (t := 25) (p := 7) rfl ?_); refine store_event (t := 25) (p := 7) (v := ?vo_w44) (w1 := ((((w39.setCell ⟨gb225, 0, none⟩ (.string t216)).setCell ⟨gb225, 1, none⟩ (.string t217)).setCell ⟨gb225, 2, none⟩ (.slice Ao42 t218.length co42)).setCell ⟨gb225, 3, none⟩ (.slice Ao43 t221.length co43))) ?hg ?ho ?hn ?hr ?_; (case ho => rfl); (case hg => rfl); (case hn => rfl); (case hr => first | (go_simp; done) | (go_simp; rfl)); intro w44 hw; have n0_ : Aside0 (Kd.V (Kd.int .u8) 5 w44 w.heap.size (fun k_ => (P0_ k_ ∨ w.heap.size ≤ k_) ∧ some k_ ≠ (.slice (some ad215) t210.length co37 : Value).ownBlock ∧ some k_ ≠ (.slice Ao42 t218.length co42 : Value).ownBlock ∧ some k_ ≠ (.slice Ao43 t221.length co43 : Value).ownBlock ∧ k_ ≠ gb209 ∧ k_ ≠ gb225) (.slice A0 l0.length c0) l0) := ⟨(by rw [hw]; exact (by (with_reducible repeat (first | apply Kd.V_alloc | apply Kd.V_drewN | apply Kd.V_drew)); exact Kd.V_mono (Kd.V_far (p := ⟨gb225, 3, none⟩) (Kd.V_far (p := ⟨gb225, 2, none⟩) (Kd.V_far (p := ⟨gb225, 1, none⟩) (Kd.V_far (p := ⟨gb225, 0, none⟩) (Kd.V_mono HO_0.out (fun k_ hk => (⟨hk, hk.2⟩ : _ ∧ k_ ≠ gb225))) (fun _ hk => hk.2) (.string t216)) (fun _ hk => hk.2) (.string t217)) (fun _ hk => hk.2) (.slice Ao42 t218.length co42)) (fun _ hk => hk.2) (.slice Ao43 t221.length co43)) (fun _ hk => ⟨hk.1.1.1.1.1, ⟨hk.1.1.1.1.2.1, ⟨hk.1.1.1.2, ⟨hk.1.1.2, ⟨hk.1.1.1.1.2.2, hk.1.2⟩⟩⟩⟩⟩)))⟩; have n1_ : Aside0 (Kd.R Kd.string 9 w44 w.heap.size (fun k_ => (w.heap.size ≤ k_)) (.slice (some ad215) t210.length co37) t210) := ⟨(by rw [hw]; exact (by (with_reducible repeat (first | apply Kd.R_alloc | apply Kd.R_drewN | apply Kd.R_drew)); exact Kd.R_mono (Kd.R_far (p := ⟨gb225, 3, none⟩) (Kd.R_far (p := ⟨gb225, 2, none⟩) (Kd.R_far (p := ⟨gb225, 1, none⟩) (Kd.R_far (p := ⟨gb225, 0, none⟩) (Kd.R_types HO_4.out BK225.out (by decide)) (fun _ hk => hk.2) (.string t216)) (fun _ hk => hk.2) (.string t217)) (fun _ hk => hk.2) (.slice Ao42 t218.length co42)) (fun _ hk => hk.2) (.slice Ao43 t221.length co43)) (fun _ hk => hk.1)))⟩; have n2_ : Aside0 (Kd.R k34 34 w44 w.heap.size (fun k_ => (w.heap.size ≤ k_)) (.slice Ao42 t218.length co42) t218) := ⟨(by rw [hw]; exact (by (with_reducible repeat (first | apply Kd.R_alloc | apply Kd.R_drewN | apply Kd.R_drew)); exact Kd.R_mono (Kd.R_far (p := ⟨gb225, 3, none⟩) (Kd.R_far (p := ⟨gb225, 2, none⟩) (Kd.R_far (p := ⟨gb225, 1, none⟩) (Kd.R_far (p := ⟨gb225, 0, none⟩) (Kd.R_types HO220.out BK225.out (by decide)) (fun _ hk => hk.2) (.string t216)) (fun _ hk => hk.2) (.string t217)) (fun _ hk => hk.2) (.slice Ao42 t218.length co42)) (fun _ hk => hk.2) (.slice Ao43 t221.length co43)) (fun _ hk => hk.1.1)))⟩; have n3_ : Aside0 (Kd.R (Kd.int .u8) 5 w44 w.heap.size (fun k_ => (w.heap.size ≤ k_)) (.slice Ao43 t221.length co43) t221) := ⟨(by rw [hw]; exact (by (with_reducible repeat (first | apply Kd.R_alloc | apply Kd.R_drewN | apply Kd.R_drew)); exact Kd.R_mono (Kd.R_far (p := ⟨gb225, 3, none⟩) (Kd.R_far (p := ⟨gb225, 2, none⟩) (Kd.R_far (p := ⟨gb225, 1, none⟩) (Kd.R_far (p := ⟨gb225, 0, none⟩) (Kd.R_types HO223.out BK225.out (by decide)) (fun _ hk => hk.2) (.string t216)) (fun _ hk => hk.2) (.string t217)) (fun _ hk => hk.2) (.slice Ao42 t218.length co42)) (fun _ hk => hk.2) (.slice Ao43 t221.length co43)) (fun _ hk => hk.1.1)))⟩; have n4_ : Aside0 (w44.heap[gb209]? = some (.cells #[.string (⟨#[]⟩ : ByteArray), .string (⟨#[]⟩ : ByteArray), .slice none 0 0, .slice none 0 0] 25 (0, 0))) := ⟨(by rw [hw]; exact (by (with_reducible repeat (first | refine blk_drewN ?_ _ | refine blk_drew ?_ | refine blk_alloc ?_ _)); refine blk_far ?_ NB209_225.out _; (with_reducible repeat (first | refine blk_drewN ?_ _ | refine blk_drew ?_ | refine blk_alloc ?_ _)); refine blk_far ?_ NB209_225.out _; (with_reducible repeat (first | refine blk_drewN ?_ _ | refine blk_drew ?_ | refine blk_alloc ?_ _)); refine blk_far ?_ NB209_225.out _; (with_reducible repeat (first | refine blk_drewN ?_ _ | refine blk_drew ?_ | refine blk_alloc ?_ _)); refine blk_far ?_ NB209_225.out _; (with_reducible repeat (first | refine blk_drewN ?_ _ | refine blk_drew ?_ | refine blk_alloc ?_ _)); exact BK209.out))⟩; have n5_ : Aside0 (w44.heap[gb225]? = some (.cells #[.string t216, .string t217, .slice Ao42 t218.length co42, .slice Ao43 t221.length co43] 25 (0, 0))) := ⟨(by rw [hw]; exact (by (with_reducible repeat (first | refine blk_drewN ?_ _ | refine blk_drew ?_ | refine blk_alloc ?_ _)); refine blk_put (cs := #[.string t216, .string t217, .slice Ao42 t218.length co42, .slice none 0 0]) ?_ 3 _ rfl; (with_reducible repeat (first | refine blk_drewN ?_ _ | refine blk_drew ?_ | refine blk_alloc ?_ _)); refine blk_put (cs := #[.string t216, .string t217, .slice none 0 0, .slice none 0 0]) ?_ 2 _ rfl; (with_reducible repeat (first | refine blk_drewN ?_ _ | refine blk_drew ?_ | refine blk_alloc ?_ _)); refine blk_put (cs := #[.string t216, .string (⟨#[]⟩ : ByteArray), .slice none 0 0, .slice none 0 0]) ?_ 1 _ rfl; (with_reducible repeat (first | refine blk_drewN ?_ _ | refine blk_drew ?_ | refine blk_alloc ?_ _)); refine blk_put (cs := #[.string (⟨#[]⟩ : ByteArray), .string (⟨#[]⟩ : ByteArray), .slice none 0 0, .slice none 0 0]) ?_ 0 _ rfl; (with_reducible repeat (first | refine blk_drewN ?_ _ | refine blk_drew ?_ | refine blk_alloc ?_ _)); exact BK225.out))⟩; have n6_ : Aside0 (Below w.heap.size w w44) := ⟨(by rw [hw]; exact (by repeat (first | (with_reducible first | apply bA | apply bN | apply bD | refine below_set ?_ GE209.out | refine below_set ?_ GE225.out) | exact HB.out)))⟩; clear hw; clear HO_0; clear HO_4; clear HO220; clear HO223; clear BK209; clear BK225; clear HB; have HO_0 := n0_; have HO_4 := n1_; have HO220 := n2_; have HO223 := n3_; have BK209 := n4_; have BK225 := n5_; have HB := n6_; clear n0_ n1_ n2_ n3_ n4_ n5_ n6_; have q45 : (1 : Int) ≤ ((t210.length : Int) : Int) := of_decide_eq_true (by first | (with_reducible assumption) | assumption); obtain ⟨i045, hi045, _, hsz45, _⟩ := info_parts info9; have hroom45 : t210.length ≤ co37 := (Kd.R_reads' HO_4.out).2.1; have hC45 : Kd.C Kd.string _ (some ad215) t210.length t210 := (Kd.R_reads' HO_4.out).2.2; have hcut45 := cut_from (P := Tryz.prog) 40 9 .i64 Tryz.underlying40 hi045 1 hsz45 (some ad215) t210.length co37 1 (by omega) q45; have hr45 := Kd.C_drop (m := (1 : Int).toNat) (c := co37) hC45 (by omega) hroom45; obtain ⟨A45, hA45⟩ : ∃ A1, A1 = (if co37 = (1 : Int).toNat then (some ad215) else ((some ad215) : Option Addr).map (·.add ((1 : Int).toNat * 1))) := ⟨_, rfl⟩; obtain ⟨c45, hc45⟩ : ∃ c1, c1 = co37 - (1 : Int).toNat := ⟨_, rfl⟩; have hy45 : y226.length = t210.length - (1 : Int).toNat := (by rw [Ny226.out, List.length_drop] <;> omega); rw [show (t210).drop (1 : Int).toNat = y226 from Ny226.out.symm] at hr45; replace hr45 : Kd.C Kd.string _ A45 y226.length y226 := (by rw [hA45]; exact hr45); rw [← hy45, ← hA45, ← hc45] at hcut45; have HR229 := Aside0.mk hr45; have HC229 := Aside0.mk (show y226.length ≤ c45 from by rw [hy45, hc45]; exact Nat.sub_le_sub_right hroom45 _); clear hr45 hC45 hroom45 hi045 hsz45 hc45; have KY45 := Aside0.mk hy45; have KA45 := Aside0.mk hA45; clear hy45 hA45; have KL45 := Aside0.mk (show 1 ≤ t210.length from by omega); replace q45 := eq_true q45) | ((with_reducible refine gate_callee (f := 15) rfl ?_); refine goesL_ (some 40) rfl rfl Tryz.func15 (by kernel_rfl) rfl #[.slice A45 y226.length c45] rfl (by (try simp only [List.map_toArray, List.map_cons, List.map_nil]); first | done | rfl | (simp only [List.length_drop, List.length_take]; rfl)) ?_; (with_reducible refine (wicketmanref09_fields.calls kj2 _ _ y226 t230 t231 _ ?side1 ?side2 A14.out).mono ?_); (case side1 => repeat (first | exact (by repeat (first | (with_reducible exact HR229.out) | (with_reducible refine Kd.C_alloc ?_ _) | (with_reducible refine Kd.C_drewN ?_ _) | (with_reducible refine Kd.C_drew ?_) | exact HR229.out)) | (with_reducible refine Kd.C_alloc ?_ _) | (with_reducible refine Kd.C_drewN ?_ _) | (with_reducible refine Kd.C_drew ?_))); (case side2 => exact HC229.out); rintro e w46 ⟨v232, rfl, ho0, hb⟩; refine ⟨_, rfl, ?_⟩; have n0_ := Aside0.mk (Kd.V_elder' (by (with_reducible repeat (first | apply Kd.V_alloc | apply Kd.V_drewN | apply Kd.V_drew)); exact HO_0.out) (Kd.R_base ho0) hb); have n1_ := Aside0.mk (Kd.R_below (by (with_reducible repeat (first | apply Kd.R_alloc | apply Kd.R_drewN | apply Kd.R_drew)); exact HO_4.out) hb); have n2_ := Aside0.mk (Kd.R_elder' (by (with_reducible repeat (first | apply Kd.R_alloc | apply Kd.R_drewN | apply Kd.R_drew)); exact HO220.out) (Kd.R_base ho0) hb); have n3_ := Aside0.mk (Kd.R_below (by (with_reducible repeat (first | apply Kd.R_alloc | apply Kd.R_drewN | apply Kd.R_drew)); exact HO223.out) hb); have n4_ := Aside0.mk (Kd.R_lower (Kd.R_new' (Kd.R_newM (M := fun k_ => (w.heap.size ≤ k_)) ho0 (below_size (by repeat (first | (with_reducible first | apply bA | apply bN | apply bD | refine below_set ?_ GE209.out | refine below_set ?_ GE225.out) | exact HB.out))) (fun k_ h_ => h_)) (Kd.R_lt (by (with_reducible repeat (first | apply Kd.R_alloc | apply Kd.R_drewN | apply Kd.R_drew)); exact HO220.out))) (below_size (by repeat (first | (with_reducible first | apply bA | apply bN | apply bD | refine below_set ?_ GE209.out | refine below_set ?_ GE225.out) | exact HB.out)))); have n5_ := Aside0.mk (blk_below (g := gb209) (o := .cells #[.string (⟨#[]⟩ : ByteArray), .string (⟨#[]⟩ : ByteArray), .slice none 0 0, .slice none 0 0] 25 (0, 0)) (by (with_reducible repeat (first | refine blk_drewN ?_ _ | refine blk_drew ?_ | refine blk_alloc ?_ _)); exact BK209.out) hb); have n6_ := Aside0.mk (blk_below (g := gb225) (o := .cells #[.string t216, .string t217, .slice Ao42 t218.length co42, .slice Ao43 t221.length co43] 25 (0, 0)) (by (with_reducible repeat (first | refine blk_drewN ?_ _ | refine blk_drew ?_ | refine blk_alloc ?_ _)); exact BK225.out) hb); have n7_ := Aside0.mk (Kd.C_below (by repeat (first | (with_reducible exact HR229.out) | (with_reducible refine Kd.C_alloc ?_ _) | (with_reducible refine Kd.C_drewN ?_ _) | (with_reducible refine Kd.C_drew ?_) | exact HR229.out)) hb); have n8_ := Aside0.mk (below_step (by repeat (first | (with_reducible first | apply bA | apply bN | apply bD | refine below_set ?_ GE209.out | refine below_set ?_ GE225.out) | exact HB.out)) hb); clear HO_0; clear HO_4; clear HO220; clear HO223; clear BK209; clear BK225; clear HR229; clear HB; have HO_0 := n0_; have HO_4 := n1_; have HO220 := n2_; have HO223 := n3_; have HO233 := n4_; have BK209 := n5_; have BK225 := n6_; have HR229 := n7_; have HB := n8_; clear n0_ n1_ n2_ n3_ n4_ n5_ n6_ n7_ n8_; (try clear hb); (try clear hb2); (try clear hk); (try clear hi); (try clear ho0); obtain ⟨Ao47, co47, eo47⟩ := Kd.R_slice HO233.out; subst eo47) | ((with_reducible refine gate_callee (f := 16) rfl ?_); refine goesL_ (some 52) rfl rfl Tryz.func16 (by kernel_rfl) rfl #[.slice Ao47 t230.length co47, .int .i64 (wrap64 ((l0.length : Int) - t211))] rfl (by (try simp only [List.map_toArray, List.map_cons, List.map_nil]); first | done | rfl | (simp only [List.length_drop, List.length_take]; rfl)) ?_; (with_reducible refine (wicketmanref09_body.calls kj2 _ _ t230 (wrap64 ((l0.length : Int) - t211)) t234 _ ?side1 ?side2 A16.out).mono ?_); (case side1 => repeat (first | exact (Kd.R_reads' HO233.out).2.2 | (with_reducible refine Kd.C_alloc ?_ _) | (with_reducible refine Kd.C_drewN ?_ _) | (with_reducible refine Kd.C_drew ?_))); (case side2 => exact (Kd.R_reads' HO233.out).2.1); rintro e w48 ⟨rfl, hb⟩; refine ⟨_, rfl, ?_⟩; have n0_ := Aside0.mk (Kd.V_below (by (with_reducible repeat (first | apply Kd.V_alloc | apply Kd.V_drewN | apply Kd.V_drew)); exact HO_0.out) hb); have n1_ := Aside0.mk (Kd.R_below (by (with_reducible repeat (first | apply Kd.R_alloc | apply Kd.R_drewN | apply Kd.R_drew)); exact HO_4.out) hb); have n2_ := Aside0.mk (Kd.R_below (by (with_reducible repeat (first | apply Kd.R_alloc | apply Kd.R_drewN | apply Kd.R_drew)); exact HO220.out) hb); have n3_ := Aside0.mk (Kd.R_below (by (with_reducible repeat (first | apply Kd.R_alloc | apply Kd.R_drewN | apply Kd.R_drew)); exact HO223.out) hb); have n4_ := Aside0.mk (Kd.R_below (by (with_reducible repeat (first | apply Kd.R_alloc | apply Kd.R_drewN | apply Kd.R_drew)); exact HO233.out) hb); have n5_ := Aside0.mk (blk_below (g := gb209) (o := .cells #[.string (⟨#[]⟩ : ByteArray), .string (⟨#[]⟩ : ByteArray), .slice none 0 0, .slice none 0 0] 25 (0, 0)) (by (with_reducible repeat (first | refine blk_drewN ?_ _ | refine blk_drew ?_ | refine blk_alloc ?_ _)); exact BK209.out) hb); have n6_ := Aside0.mk (blk_below (g := gb225) (o := .cells #[.string t216, .string t217, .slice Ao42 t218.length co42, .slice Ao43 t221.length co43] 25 (0, 0)) (by (with_reducible repeat (first | refine blk_drewN ?_ _ | refine blk_drew ?_ | refine blk_alloc ?_ _)); exact BK225.out) hb); have n7_ := Aside0.mk (Kd.C_below (by repeat (first | (with_reducible exact HR229.out) | (with_reducible refine Kd.C_alloc ?_ _) | (with_reducible refine Kd.C_drewN ?_ _) | (with_reducible refine Kd.C_drew ?_) | exact HR229.out)) hb); have n8_ := Aside0.mk (below_step (by repeat (first | (with_reducible first | apply bA | apply bN | apply bD | refine below_set ?_ GE209.out | refine below_set ?_ GE225.out) | exact HB.out)) hb); clear HO_0; clear HO_4; clear HO220; clear HO223; clear HO233; clear BK209; clear BK225; clear HR229; clear HB; have HO_0 := n0_; have HO_4 := n1_; have HO220 := n2_; have HO223 := n3_; have HO233 := n4_; have BK209 := n5_; have BK225 := n6_; have HR229 := n7_; have HB := n8_; clear n0_ n1_ n2_ n3_ n4_ n5_ n6_ n7_ n8_; (try clear hb); (try clear hb2); (try clear hk); (try clear hi); have hcz49_0 : w48.cell? ⟨gb209, 0, none⟩ = some (.string (⟨#[]⟩ : ByteArray)) := (blk_cell BK209.out 0).trans rfl; have hcz49_1 : w48.cell? ⟨gb209, 1, none⟩ = some (.string (⟨#[]⟩ : ByteArray)) := (blk_cell BK209.out 1).trans rfl; have hcz49_2 : w48.cell? ⟨gb209, 2, none⟩ = some (.slice none 0 0) := (blk_cell BK209.out 2).trans rfl; have hcz49_3 : w48.cell? ⟨gb209, 3, none⟩ = some (.slice none 0 0) := (blk_cell BK209.out 3).trans rfl; have hfz49_0 := blk_frozen BK209.out 0; have hfz49_1 := blk_frozen BK209.out 1; have hfz49_2 := blk_frozen BK209.out 2; have hfz49_3 := blk_frozen BK209.out 3))
         refine bodyPost_ret (results_ct rfl _ _ gb209 25 #[.string (⟨#[]⟩ : ByteArray), .string (⟨#[]⟩ : ByteArray), .slice none 0 0, .slice none 0 0] (0, 0) _ rfl (by (with_reducible repeat (first | refine blk_drewN ?_ _ | refine blk_drew ?_ | refine blk_alloc ?_ _)); refine blk_put (cs := #[.string (⟨#[]⟩ : ByteArray), .string (⟨#[]⟩ : ByteArray), .slice none 0 0, .slice none 0 0]) ?_ 3 _ rfl; (with_reducible repeat (first | refine blk_drewN ?_ _ | refine blk_drew ?_ | refine blk_alloc ?_ _)); refine blk_put (cs := #[.string (⟨#[]⟩ : ByteArray), .string (⟨#[]⟩ : ByteArray), .slice none 0 0, .slice none 0 0]) ?_ 2 _ rfl; (with_reducible repeat (first | refine blk_drewN ?_ _ | refine blk_drew ?_ | refine blk_alloc ?_ _)); refine blk_put (cs := #[.string (⟨#[]⟩ : ByteArray), .string (⟨#[]⟩ : ByteArray), .slice none 0 0, .slice none 0 0]) ?_ 1 _ rfl; (with_reducible repeat (first | refine blk_drewN ?_ _ | refine blk_drew ?_ | refine blk_alloc ?_ _)); refine blk_put (cs := #[.string (⟨#[]⟩ : ByteArray), .string (⟨#[]⟩ : ByteArray), .slice none 0 0, .slice none 0 0]) ?_ 0 _ rfl; (with_reducible repeat (first | refine blk_drewN ?_ _ | refine blk_drew ?_ | refine blk_alloc ?_ _)); exact BK209.out) Tryz.underlying25 rfl (by kernel_rfl)) rfl ?_
         exact ⟨_, _, by first | rfl | (simp [errW_none, errW_some] <;> rfl) | (simp [*, errW_none, errW_some] <;> rfl), by first | exact Kd.R_nil _ _ _ _ _ | exact Kd.N_nil _ _ _ _ _ | exact Kd.V_nil _ _ _ _ _ | exact Kd.Q_nil _ _ _ _ _ | exact Kd.S_nil _ _ _ _ _, Kd.V_nil _ _ _ _ _, by repeat (first | (with_reducible first | apply bA | apply bN | apply bD | refine below_set ?_ GE209.out | refine below_set ?_ GE225.out) | exact HB.out)⟩
       ·rw [if_neg c15] at H
        have c15b0 : (t231 == 0) = false := beq_eq_false_iff_ne.mpr c15
        have c15b1 : (t231 != 0) = true := bne_iff_ne.mpr c15
        simp only [Option.some.injEq, Prod.mk.injEq] at H
        obtain ⟨rfl, rfl, rfl, rfl, rfl⟩ := H
        obtain ⟨Ao50, co50, eo50⟩ := Kd.R_slice HO_4.out
        subst eo50
        have p215 : 0 ≤ (0 : Int) := (by omega)
        have q215 : 0 < (t210.length : Int) := of_decide_eq_true (by first | (with_reducible assumption) | assumption)
        obtain ⟨ad215, e215, hx215_0⟩ := Kd.at_string (Kd.R_reads' HO_4.out).2.2 0 p215 q215
        cases e215
        have qi215 : (0 < t210.length) = True := eq_true (by omega)
        (try rw [show ((0 : Int)).toNat = 0 from rfl] at hx215_0)
        (try rw [Addr.add_zero'] at hx215_0)
        replace p215 := eq_true p215
        replace q215 := eq_true q215
        go_wp2_with (first | ((with_reducible refine gate_callee (f := 14) rfl ?_); refine goesL_ (some 30) rfl rfl Tryz.func14 (by kernel_rfl) rfl #[.string (rdOf ByteArray.empty t210 0)] rfl (by (try simp only [List.map_toArray, List.map_cons, List.map_nil]); first | done | rfl | (simp only [List.length_drop, List.length_take]; rfl)) ?_; (with_reducible refine (wicketmanref09_first.calls kj2 (rdOf ByteArray.empty t210 0) t216 t217 t218 t221 t224 _ A11.out).mono ?_); rintro e w51 ⟨v219, v222, rfl, ho0, ho1, hb⟩; refine ⟨_, rfl, ?_⟩; have n0_ := Aside0.mk (Kd.V_mono (Kd.V_told (Kd.V_told (Kd.V_old (by (with_reducible repeat (first | apply Kd.V_alloc | apply Kd.V_drewN | apply Kd.V_drew)); exact HO_0.out) hb) (Kd.R_base ho0)) (Kd.R_base ho1)) (fun _ h_ => h_.1)); have n1_ := Aside0.mk (Kd.R_below (by (with_reducible repeat (first | apply Kd.R_alloc | apply Kd.R_drewN | apply Kd.R_drew)); exact HO_4.out) hb); have n2_ := Aside0.mk (Kd.R_lower (Kd.R_newM (M := fun k_ => (w.heap.size ≤ k_)) ho0 (below_size (by repeat (first | (with_reducible first | apply bA | apply bN | apply bD | refine below_set ?_ GE209.out) | exact HB.out))) (fun k_ h_ => h_)) (below_size (by repeat (first | (with_reducible first | apply bA | apply bN | apply bD | refine below_set ?_ GE209.out) | exact HB.out)))); have n3_ := Aside0.mk (Kd.R_lower (Kd.R_newM (M := fun k_ => (w.heap.size ≤ k_)) ho1 (below_size (by repeat (first | (with_reducible first | apply bA | apply bN | apply bD | refine below_set ?_ GE209.out) | exact HB.out))) (fun k_ h_ => h_)) (below_size (by repeat (first | (with_reducible first | apply bA | apply bN | apply bD | refine below_set ?_ GE209.out) | exact HB.out)))); have n4_ := Aside0.mk (blk_below (g := gb209) (o := .cells #[.string (⟨#[]⟩ : ByteArray), .string (⟨#[]⟩ : ByteArray), .slice none 0 0, .slice none 0 0] 25 (0, 0)) (by (with_reducible repeat (first | refine blk_drewN ?_ _ | refine blk_drew ?_ | refine blk_alloc ?_ _)); exact BK209.out) hb); have n5_ := Aside0.mk (below_step (by repeat (first | (with_reducible first | apply bA | apply bN | apply bD | refine below_set ?_ GE209.out) | exact HB.out)) hb); clear HO_0; clear HO_4; clear BK209; clear HB; have HO_0 := n0_; have HO_4 := n1_; have HO220 := n2_; have HO223 := n3_; have BK209 := n4_; have HB := n5_; clear n0_ n1_ n2_ n3_ n4_ n5_; (try clear hb); (try clear hb2); (try clear hk); (try clear hi); (try clear ho0); (try clear ho1)) | ((with_reducible refine gate_dst (N := 7) rfl ?_); (try (refine gate_guard (by rfl) ?_; dsimp only)); refine box_event ?hg (N := 7) ?hd (cs := #[.string (⟨#[]⟩ : ByteArray), .string (⟨#[]⟩ : ByteArray), .slice none 0 0, .slice none 0 0]) (t := 25) ?hr ?_; (case hd => rfl); (case hg => rfl); (case hr => first | (go_simp; done) | (go_simp; rfl)); intro gb225 hg w52 hbox hb; have n0_ := Aside0.mk (Kd.V_below (Kd.V_elderB (by (with_reducible repeat (first | apply Kd.V_alloc | apply Kd.V_drewN | apply Kd.V_drew)); exact HO_0.out) gb225 (Nat.le_of_eq hg.symm)) hb); have n1_ := Aside0.mk (Kd.R_below (by (with_reducible repeat (first | apply Kd.R_alloc | apply Kd.R_drewN | apply Kd.R_drew)); exact HO_4.out) hb); have n2_ := Aside0.mk (Kd.R_below (by (with_reducible repeat (first | apply Kd.R_alloc | apply Kd.R_drewN | apply Kd.R_drew)); exact HO220.out) hb); have n3_ := Aside0.mk (Kd.R_below (by (with_reducible repeat (first | apply Kd.R_alloc | apply Kd.R_drewN | apply Kd.R_drew)); exact HO223.out) hb); have n4_ := Aside0.mk (blk_below (g := gb209) (o := .cells #[.string (⟨#[]⟩ : ByteArray), .string (⟨#[]⟩ : ByteArray), .slice none 0 0, .slice none 0 0] 25 (0, 0)) (by (with_reducible repeat (first | refine blk_drewN ?_ _ | refine blk_drew ?_ | refine blk_alloc ?_ _)); exact BK209.out) hb); have n5_ := Aside0.mk (below_step (by repeat (first | (with_reducible first | apply bA | apply bN | apply bD | refine below_set ?_ GE209.out) | exact HB.out)) hb); have n6_ := Aside0.mk (hbox); have n7_ := Aside0.mk ((by rw [hg]; exact (below_size (by repeat (first | (with_reducible first | apply bA | apply bN | apply bD | refine below_set ?_ GE209.out) | exact HB.out))) : w.heap.size ≤ gb225)); have n8_ := Aside0.mk ((by rw [hg]; exact (below_size (by repeat (first | (with_reducible first | apply bA | apply bN | apply bD | refine below_set ?_ GE209.out) | exact HB.out))) : w.heap.size ≤ gb225)); have n9_ := Aside0.mk ((by rw [hg]; exact Nat.ne_of_lt (blk_lt (g := gb209) (o := .cells #[.string (⟨#[]⟩ : ByteArray), .string (⟨#[]⟩ : ByteArray), .slice none 0 0, .slice none 0 0] 25 (0, 0)) (by (with_reducible repeat (first | refine blk_drewN ?_ _ | refine blk_drew ?_ | refine blk_alloc ?_ _)); exact BK209.out)) : gb209 ≠ gb225)); have n10_ := Aside0.mk ((by rw [hg]; exact Nat.ne_of_gt (blk_lt (g := gb209) (o := .cells #[.string (⟨#[]⟩ : ByteArray), .string (⟨#[]⟩ : ByteArray), .slice none 0 0, .slice none 0 0] 25 (0, 0)) (by (with_reducible repeat (first | refine blk_drewN ?_ _ | refine blk_drew ?_ | refine blk_alloc ?_ _)); exact BK209.out)) : gb225 ≠ gb209)); clear HO_0; clear HO_4; clear HO220; clear HO223; clear BK209; clear HB; have HO_0 := n0_; have HO_4 := n1_; have HO220 := n2_; have HO223 := n3_; have BK209 := n4_; have HB := n5_; have BK225 := n6_; have GW225 := n7_; have GE225 := n8_; have NB209_225 := n9_; have NB225_209 := n10_; clear n0_ n1_ n2_ n3_ n4_ n5_ n6_ n7_ n8_ n9_ n10_; clear hb hbox hg; have hnb53 := NB225_209.out; have hnc53 := NB209_225.out; have hcz54_0 : w52.cell? ⟨gb225, 0, none⟩ = some (.string (⟨#[]⟩ : ByteArray)) := (blk_cell BK225.out 0).trans rfl; have hcz54_1 : w52.cell? ⟨gb225, 1, none⟩ = some (.string (⟨#[]⟩ : ByteArray)) := (blk_cell BK225.out 1).trans rfl; have hcz54_2 : w52.cell? ⟨gb225, 2, none⟩ = some (.slice none 0 0) := (blk_cell BK225.out 2).trans rfl; have hcz54_3 : w52.cell? ⟨gb225, 3, none⟩ = some (.slice none 0 0) := (blk_cell BK225.out 3).trans rfl; have hfz54_0 := blk_frozen BK225.out 0; have hfz54_1 := blk_frozen BK225.out 1; have hfz54_2 := blk_frozen BK225.out 2; have hfz54_3 := blk_frozen BK225.out 3; obtain ⟨Ao55, co55, eo55⟩ := Kd.R_slice HO220.out; subst eo55; obtain ⟨Ao56, co56, eo56⟩ := Kd.R_slice HO223.out; subst eo56) | ((with_reducible refine gate_store (t := 25) (p := 7) rfl ?_); refine store_event (t := 25) (p := 7) (v := ?vo_w57) (w1 := ((((w52.setCell ⟨gb225, 0, none⟩ (.string t216)).setCell ⟨gb225, 1, none⟩ (.string t217)).setCell ⟨gb225, 2, none⟩ (.slice Ao55 t218.length co55)).setCell ⟨gb225, 3, none⟩ (.slice Ao56 t221.length co56))) ?hg ?ho ?hn ?hr ?_; (case ho => rfl); (case hg => rfl); (case hn => rfl); (case hr => first | (go_simp; done) | (go_simp; rfl)); intro w57 hw; have n0_ : Aside0 (Kd.V (Kd.int .u8) 5 w57 w.heap.size (fun k_ => (P0_ k_ ∨ w.heap.size ≤ k_) ∧ some k_ ≠ (.slice (some ad215) t210.length co50 : Value).ownBlock ∧ some k_ ≠ (.slice Ao55 t218.length co55 : Value).ownBlock ∧ some k_ ≠ (.slice Ao56 t221.length co56 : Value).ownBlock ∧ k_ ≠ gb209 ∧ k_ ≠ gb225) (.slice A0 l0.length c0) l0) := ⟨(by rw [hw]; exact (by (with_reducible repeat (first | apply Kd.V_alloc | apply Kd.V_drewN | apply Kd.V_drew)); exact Kd.V_mono (Kd.V_far (p := ⟨gb225, 3, none⟩) (Kd.V_far (p := ⟨gb225, 2, none⟩) (Kd.V_far (p := ⟨gb225, 1, none⟩) (Kd.V_far (p := ⟨gb225, 0, none⟩) (Kd.V_mono HO_0.out (fun k_ hk => (⟨hk, hk.2⟩ : _ ∧ k_ ≠ gb225))) (fun _ hk => hk.2) (.string t216)) (fun _ hk => hk.2) (.string t217)) (fun _ hk => hk.2) (.slice Ao55 t218.length co55)) (fun _ hk => hk.2) (.slice Ao56 t221.length co56)) (fun _ hk => ⟨hk.1.1.1.1.1, ⟨hk.1.1.1.1.2.1, ⟨hk.1.1.1.2, ⟨hk.1.1.2, ⟨hk.1.1.1.1.2.2, hk.1.2⟩⟩⟩⟩⟩)))⟩; have n1_ : Aside0 (Kd.R Kd.string 9 w57 w.heap.size (fun k_ => (w.heap.size ≤ k_)) (.slice (some ad215) t210.length co50) t210) := ⟨(by rw [hw]; exact (by (with_reducible repeat (first | apply Kd.R_alloc | apply Kd.R_drewN | apply Kd.R_drew)); exact Kd.R_mono (Kd.R_far (p := ⟨gb225, 3, none⟩) (Kd.R_far (p := ⟨gb225, 2, none⟩) (Kd.R_far (p := ⟨gb225, 1, none⟩) (Kd.R_far (p := ⟨gb225, 0, none⟩) (Kd.R_types HO_4.out BK225.out (by decide)) (fun _ hk => hk.2) (.string t216)) (fun _ hk => hk.2) (.string t217)) (fun _ hk => hk.2) (.slice Ao55 t218.length co55)) (fun _ hk => hk.2) (.slice Ao56 t221.length co56)) (fun _ hk => hk.1)))⟩; have n2_ : Aside0 (Kd.R k34 34 w57 w.heap.size (fun k_ => (w.heap.size ≤ k_)) (.slice Ao55 t218.length co55) t218) := ⟨(by rw [hw]; exact (by (with_reducible repeat (first | apply Kd.R_alloc | apply Kd.R_drewN | apply Kd.R_drew)); exact Kd.R_mono (Kd.R_far (p := ⟨gb225, 3, none⟩) (Kd.R_far (p := ⟨gb225, 2, none⟩) (Kd.R_far (p := ⟨gb225, 1, none⟩) (Kd.R_far (p := ⟨gb225, 0, none⟩) (Kd.R_types HO220.out BK225.out (by decide)) (fun _ hk => hk.2) (.string t216)) (fun _ hk => hk.2) (.string t217)) (fun _ hk => hk.2) (.slice Ao55 t218.length co55)) (fun _ hk => hk.2) (.slice Ao56 t221.length co56)) (fun _ hk => hk.1.1)))⟩; have n3_ : Aside0 (Kd.R (Kd.int .u8) 5 w57 w.heap.size (fun k_ => (w.heap.size ≤ k_)) (.slice Ao56 t221.length co56) t221) := ⟨(by rw [hw]; exact (by (with_reducible repeat (first | apply Kd.R_alloc | apply Kd.R_drewN | apply Kd.R_drew)); exact Kd.R_mono (Kd.R_far (p := ⟨gb225, 3, none⟩) (Kd.R_far (p := ⟨gb225, 2, none⟩) (Kd.R_far (p := ⟨gb225, 1, none⟩) (Kd.R_far (p := ⟨gb225, 0, none⟩) (Kd.R_types HO223.out BK225.out (by decide)) (fun _ hk => hk.2) (.string t216)) (fun _ hk => hk.2) (.string t217)) (fun _ hk => hk.2) (.slice Ao55 t218.length co55)) (fun _ hk => hk.2) (.slice Ao56 t221.length co56)) (fun _ hk => hk.1.1)))⟩; have n4_ : Aside0 (w57.heap[gb209]? = some (.cells #[.string (⟨#[]⟩ : ByteArray), .string (⟨#[]⟩ : ByteArray), .slice none 0 0, .slice none 0 0] 25 (0, 0))) := ⟨(by rw [hw]; exact (by (with_reducible repeat (first | refine blk_drewN ?_ _ | refine blk_drew ?_ | refine blk_alloc ?_ _)); refine blk_far ?_ NB209_225.out _; (with_reducible repeat (first | refine blk_drewN ?_ _ | refine blk_drew ?_ | refine blk_alloc ?_ _)); refine blk_far ?_ NB209_225.out _; (with_reducible repeat (first | refine blk_drewN ?_ _ | refine blk_drew ?_ | refine blk_alloc ?_ _)); refine blk_far ?_ NB209_225.out _; (with_reducible repeat (first | refine blk_drewN ?_ _ | refine blk_drew ?_ | refine blk_alloc ?_ _)); refine blk_far ?_ NB209_225.out _; (with_reducible repeat (first | refine blk_drewN ?_ _ | refine blk_drew ?_ | refine blk_alloc ?_ _)); exact BK209.out))⟩; have n5_ : Aside0 (w57.heap[gb225]? = some (.cells #[.string t216, .string t217, .slice Ao55 t218.length co55, .slice Ao56 t221.length co56] 25 (0, 0))) := ⟨(by rw [hw]; exact (by (with_reducible repeat (first | refine blk_drewN ?_ _ | refine blk_drew ?_ | refine blk_alloc ?_ _)); refine blk_put (cs := #[.string t216, .string t217, .slice Ao55 t218.length co55, .slice none 0 0]) ?_ 3 _ rfl; (with_reducible repeat (first | refine blk_drewN ?_ _ | refine blk_drew ?_ | refine blk_alloc ?_ _)); refine blk_put (cs := #[.string t216, .string t217, .slice none 0 0, .slice none 0 0]) ?_ 2 _ rfl; (with_reducible repeat (first | refine blk_drewN ?_ _ | refine blk_drew ?_ | refine blk_alloc ?_ _)); refine blk_put (cs := #[.string t216, .string (⟨#[]⟩ : ByteArray), .slice none 0 0, .slice none 0 0]) ?_ 1 _ rfl; (with_reducible repeat (first | refine blk_drewN ?_ _ | refine blk_drew ?_ | refine blk_alloc ?_ _)); refine blk_put (cs := #[.string (⟨#[]⟩ : ByteArray), .string (⟨#[]⟩ : ByteArray), .slice none 0 0, .slice none 0 0]) ?_ 0 _ rfl; (with_reducible repeat (first | refine blk_drewN ?_ _ | refine blk_drew ?_ | refine blk_alloc ?_ _)); exact BK225.out))⟩; have n6_ : Aside0 (Below w.heap.size w w57) := ⟨(by rw [hw]; exact (by repeat (first | (with_reducible first | apply bA | apply bN | apply bD | refine below_set ?_ GE209.out | refine below_set ?_ GE225.out) | exact HB.out)))⟩; clear hw; clear HO_0; clear HO_4; clear HO220; clear HO223; clear BK209; clear BK225; clear HB; have HO_0 := n0_; have HO_4 := n1_; have HO220 := n2_; have HO223 := n3_; have BK209 := n4_; have BK225 := n5_; have HB := n6_; clear n0_ n1_ n2_ n3_ n4_ n5_ n6_; have q58 : (1 : Int) ≤ ((t210.length : Int) : Int) := of_decide_eq_true (by first | (with_reducible assumption) | assumption); obtain ⟨i058, hi058, _, hsz58, _⟩ := info_parts info9; have hroom58 : t210.length ≤ co50 := (Kd.R_reads' HO_4.out).2.1; have hC58 : Kd.C Kd.string _ (some ad215) t210.length t210 := (Kd.R_reads' HO_4.out).2.2; have hcut58 := cut_from (P := Tryz.prog) 40 9 .i64 Tryz.underlying40 hi058 1 hsz58 (some ad215) t210.length co50 1 (by omega) q58; have hr58 := Kd.C_drop (m := (1 : Int).toNat) (c := co50) hC58 (by omega) hroom58; obtain ⟨A58, hA58⟩ : ∃ A1, A1 = (if co50 = (1 : Int).toNat then (some ad215) else ((some ad215) : Option Addr).map (·.add ((1 : Int).toNat * 1))) := ⟨_, rfl⟩; obtain ⟨c58, hc58⟩ : ∃ c1, c1 = co50 - (1 : Int).toNat := ⟨_, rfl⟩; have hy58 : y226.length = t210.length - (1 : Int).toNat := (by rw [Ny226.out, List.length_drop] <;> omega); rw [show (t210).drop (1 : Int).toNat = y226 from Ny226.out.symm] at hr58; replace hr58 : Kd.C Kd.string _ A58 y226.length y226 := (by rw [hA58]; exact hr58); rw [← hy58, ← hA58, ← hc58] at hcut58; have HR229 := Aside0.mk hr58; have HC229 := Aside0.mk (show y226.length ≤ c58 from by rw [hy58, hc58]; exact Nat.sub_le_sub_right hroom58 _); clear hr58 hC58 hroom58 hi058 hsz58 hc58; have KY58 := Aside0.mk hy58; have KA58 := Aside0.mk hA58; clear hy58 hA58; have KL58 := Aside0.mk (show 1 ≤ t210.length from by omega); replace q58 := eq_true q58) | ((with_reducible refine gate_callee (f := 15) rfl ?_); refine goesL_ (some 40) rfl rfl Tryz.func15 (by kernel_rfl) rfl #[.slice A58 y226.length c58] rfl (by (try simp only [List.map_toArray, List.map_cons, List.map_nil]); first | done | rfl | (simp only [List.length_drop, List.length_take]; rfl)) ?_; (with_reducible refine (wicketmanref09_fields.calls kj2 _ _ y226 t230 t231 _ ?side1 ?side2 A14.out).mono ?_); (case side1 => repeat (first | exact (by repeat (first | (with_reducible exact HR229.out) | (with_reducible refine Kd.C_alloc ?_ _) | (with_reducible refine Kd.C_drewN ?_ _) | (with_reducible refine Kd.C_drew ?_) | exact HR229.out)) | (with_reducible refine Kd.C_alloc ?_ _) | (with_reducible refine Kd.C_drewN ?_ _) | (with_reducible refine Kd.C_drew ?_))); (case side2 => exact HC229.out); rintro e w59 ⟨v232, rfl, ho0, hb⟩; refine ⟨_, rfl, ?_⟩; have n0_ := Aside0.mk (Kd.V_elder' (by (with_reducible repeat (first | apply Kd.V_alloc | apply Kd.V_drewN | apply Kd.V_drew)); exact HO_0.out) (Kd.R_base ho0) hb); have n1_ := Aside0.mk (Kd.R_below (by (with_reducible repeat (first | apply Kd.R_alloc | apply Kd.R_drewN | apply Kd.R_drew)); exact HO_4.out) hb); have n2_ := Aside0.mk (Kd.R_elder' (by (with_reducible repeat (first | apply Kd.R_alloc | apply Kd.R_drewN | apply Kd.R_drew)); exact HO220.out) (Kd.R_base ho0) hb); have n3_ := Aside0.mk (Kd.R_below (by (with_reducible repeat (first | apply Kd.R_alloc | apply Kd.R_drewN | apply Kd.R_drew)); exact HO223.out) hb); have n4_ := Aside0.mk (Kd.R_lower (Kd.R_new' (Kd.R_newM (M := fun k_ => (w.heap.size ≤ k_)) ho0 (below_size (by repeat (first | (with_reducible first | apply bA | apply bN | apply bD | refine below_set ?_ GE209.out | refine below_set ?_ GE225.out) | exact HB.out))) (fun k_ h_ => h_)) (Kd.R_lt (by (with_reducible repeat (first | apply Kd.R_alloc | apply Kd.R_drewN | apply Kd.R_drew)); exact HO220.out))) (below_size (by repeat (first | (with_reducible first | apply bA | apply bN | apply bD | refine below_set ?_ GE209.out | refine below_set ?_ GE225.out) | exact HB.out)))); have n5_ := Aside0.mk (blk_below (g := gb209) (o := .cells #[.string (⟨#[]⟩ : ByteArray), .string (⟨#[]⟩ : ByteArray), .slice none 0 0, .slice none 0 0] 25 (0, 0)) (by (with_reducible repeat (first | refine blk_drewN ?_ _ | refine blk_drew ?_ | refine blk_alloc ?_ _)); exact BK209.out) hb); have n6_ := Aside0.mk (blk_below (g := gb225) (o := .cells #[.string t216, .string t217, .slice Ao55 t218.length co55, .slice Ao56 t221.length co56] 25 (0, 0)) (by (with_reducible repeat (first | refine blk_drewN ?_ _ | refine blk_drew ?_ | refine blk_alloc ?_ _)); exact BK225.out) hb); have n7_ := Aside0.mk (Kd.C_below (by repeat (first | (with_reducible exact HR229.out) | (with_reducible refine Kd.C_alloc ?_ _) | (with_reducible refine Kd.C_drewN ?_ _) | (with_reducible refine Kd.C_drew ?_) | exact HR229.out)) hb); have n8_ := Aside0.mk (below_step (by repeat (first | (with_reducible first | apply bA | apply bN | apply bD | refine below_set ?_ GE209.out | refine below_set ?_ GE225.out) | exact HB.out)) hb); clear HO_0; clear HO_4; clear HO220; clear HO223; clear BK209; clear BK225; clear HR229; clear HB; have HO_0 := n0_; have HO_4 := n1_; have HO220 := n2_; have HO223 := n3_; have HO233 := n4_; have BK209 := n5_; have BK225 := n6_; have HR229 := n7_; have HB := n8_; clear n0_ n1_ n2_ n3_ n4_ n5_ n6_ n7_ n8_; (try clear hb); (try clear hb2); (try clear hk); (try clear hi); (try clear ho0); have hcz60_0 : w59.cell? ⟨gb209, 0, none⟩ = some (.string (⟨#[]⟩ : ByteArray)) := (blk_cell BK209.out 0).trans rfl; have hcz60_1 : w59.cell? ⟨gb209, 1, none⟩ = some (.string (⟨#[]⟩ : ByteArray)) := (blk_cell BK209.out 1).trans rfl; have hcz60_2 : w59.cell? ⟨gb209, 2, none⟩ = some (.slice none 0 0) := (blk_cell BK209.out 2).trans rfl; have hcz60_3 : w59.cell? ⟨gb209, 3, none⟩ = some (.slice none 0 0) := (blk_cell BK209.out 3).trans rfl; have hfz60_0 := blk_frozen BK209.out 0; have hfz60_1 := blk_frozen BK209.out 1; have hfz60_2 := blk_frozen BK209.out 2; have hfz60_3 := blk_frozen BK209.out 3))
        refine bodyPost_ret (results_ct rfl _ _ gb209 25 #[.string (⟨#[]⟩ : ByteArray), .string (⟨#[]⟩ : ByteArray), .slice none 0 0, .slice none 0 0] (0, 0) _ rfl (by (with_reducible repeat (first | refine blk_drewN ?_ _ | refine blk_drew ?_ | refine blk_alloc ?_ _)); refine blk_put (cs := #[.string (⟨#[]⟩ : ByteArray), .string (⟨#[]⟩ : ByteArray), .slice none 0 0, .slice none 0 0]) ?_ 3 _ rfl; (with_reducible repeat (first | refine blk_drewN ?_ _ | refine blk_drew ?_ | refine blk_alloc ?_ _)); refine blk_put (cs := #[.string (⟨#[]⟩ : ByteArray), .string (⟨#[]⟩ : ByteArray), .slice none 0 0, .slice none 0 0]) ?_ 2 _ rfl; (with_reducible repeat (first | refine blk_drewN ?_ _ | refine blk_drew ?_ | refine blk_alloc ?_ _)); refine blk_put (cs := #[.string (⟨#[]⟩ : ByteArray), .string (⟨#[]⟩ : ByteArray), .slice none 0 0, .slice none 0 0]) ?_ 1 _ rfl; (with_reducible repeat (first | refine blk_drewN ?_ _ | refine blk_drew ?_ | refine blk_alloc ?_ _)); refine blk_put (cs := #[.string (⟨#[]⟩ : ByteArray), .string (⟨#[]⟩ : ByteArray), .slice none 0 0, .slice none 0 0]) ?_ 0 _ rfl; (with_reducible repeat (first | refine blk_drewN ?_ _ | refine blk_drew ?_ | refine blk_alloc ?_ _)); exact BK209.out) Tryz.underlying25 rfl (by kernel_rfl)) rfl ?_
        exact ⟨_, _, by first | rfl | (simp [errW_none, errW_some] <;> rfl) | (simp [*, errW_none, errW_some] <;> rfl), by first | exact Kd.R_nil _ _ _ _ _ | exact Kd.N_nil _ _ _ _ _ | exact Kd.V_nil _ _ _ _ _ | exact Kd.Q_nil _ _ _ _ _ | exact Kd.S_nil _ _ _ _ _, Kd.V_nil _ _ _ _ _, by repeat (first | (with_reducible first | apply bA | apply bN | apply bD | refine below_set ?_ GE209.out | refine below_set ?_ GE225.out) | exact HB.out)⟩
      ·rw [if_neg c13] at H
       exact absurd H (by simp)
     ·rw [if_neg c12] at H
      have c12b0 : (t224 == 0) = false := beq_eq_false_iff_ne.mpr c12
      have c12b1 : (t224 != 0) = true := bne_iff_ne.mpr c12
      simp only [Option.some.injEq, Prod.mk.injEq] at H
      obtain ⟨rfl, rfl, rfl, rfl, rfl⟩ := H
      obtain ⟨Ao61, co61, eo61⟩ := Kd.R_slice HO_4.out
      subst eo61
      have p215 : 0 ≤ (0 : Int) := (by omega)
      have q215 : 0 < (t210.length : Int) := of_decide_eq_true (by first | (with_reducible assumption) | assumption)
      obtain ⟨ad215, e215, hx215_0⟩ := Kd.at_string (Kd.R_reads' HO_4.out).2.2 0 p215 q215
      cases e215
      have qi215 : (0 < t210.length) = True := eq_true (by omega)
      (try rw [show ((0 : Int)).toNat = 0 from rfl] at hx215_0)
      (try rw [Addr.add_zero'] at hx215_0)
      replace p215 := eq_true p215
      replace q215 := eq_true q215
      go_wp2_with (first | ((with_reducible refine gate_callee (f := 14) rfl ?_); refine goesL_ (some 30) rfl rfl Tryz.func14 (by kernel_rfl) rfl #[.string (rdOf ByteArray.empty t210 0)] rfl (by (try simp only [List.map_toArray, List.map_cons, List.map_nil]); first | done | rfl | (simp only [List.length_drop, List.length_take]; rfl)) ?_; (with_reducible refine (wicketmanref09_first.calls kj2 (rdOf ByteArray.empty t210 0) t216 t217 t218 t221 t224 _ A11.out).mono ?_); rintro e w62 ⟨v219, v222, rfl, ho0, ho1, hb⟩; refine ⟨_, rfl, ?_⟩; have n0_ := Aside0.mk (Kd.V_mono (Kd.V_told (Kd.V_told (Kd.V_old (by (with_reducible repeat (first | apply Kd.V_alloc | apply Kd.V_drewN | apply Kd.V_drew)); exact HO_0.out) hb) (Kd.R_base ho0)) (Kd.R_base ho1)) (fun _ h_ => h_.1)); have n1_ := Aside0.mk (Kd.R_below (by (with_reducible repeat (first | apply Kd.R_alloc | apply Kd.R_drewN | apply Kd.R_drew)); exact HO_4.out) hb); have n2_ := Aside0.mk (Kd.R_lower (Kd.R_newM (M := fun k_ => (w.heap.size ≤ k_)) ho0 (below_size (by repeat (first | (with_reducible first | apply bA | apply bN | apply bD | refine below_set ?_ GE209.out) | exact HB.out))) (fun k_ h_ => h_)) (below_size (by repeat (first | (with_reducible first | apply bA | apply bN | apply bD | refine below_set ?_ GE209.out) | exact HB.out)))); have n3_ := Aside0.mk (Kd.R_lower (Kd.R_newM (M := fun k_ => (w.heap.size ≤ k_)) ho1 (below_size (by repeat (first | (with_reducible first | apply bA | apply bN | apply bD | refine below_set ?_ GE209.out) | exact HB.out))) (fun k_ h_ => h_)) (below_size (by repeat (first | (with_reducible first | apply bA | apply bN | apply bD | refine below_set ?_ GE209.out) | exact HB.out)))); have n4_ := Aside0.mk (blk_below (g := gb209) (o := .cells #[.string (⟨#[]⟩ : ByteArray), .string (⟨#[]⟩ : ByteArray), .slice none 0 0, .slice none 0 0] 25 (0, 0)) (by (with_reducible repeat (first | refine blk_drewN ?_ _ | refine blk_drew ?_ | refine blk_alloc ?_ _)); exact BK209.out) hb); have n5_ := Aside0.mk (below_step (by repeat (first | (with_reducible first | apply bA | apply bN | apply bD | refine below_set ?_ GE209.out) | exact HB.out)) hb); clear HO_0; clear HO_4; clear BK209; clear HB; have HO_0 := n0_; have HO_4 := n1_; have HO220 := n2_; have HO223 := n3_; have BK209 := n4_; have HB := n5_; clear n0_ n1_ n2_ n3_ n4_ n5_; (try clear hb); (try clear hb2); (try clear hk); (try clear hi); (try clear ho0); (try clear ho1)) | ((with_reducible refine gate_dst (N := 7) rfl ?_); (try (refine gate_guard (by rfl) ?_; dsimp only)); refine box_event ?hg (N := 7) ?hd (cs := #[.string (⟨#[]⟩ : ByteArray), .string (⟨#[]⟩ : ByteArray), .slice none 0 0, .slice none 0 0]) (t := 25) ?hr ?_; (case hd => rfl); (case hg => rfl); (case hr => first | (go_simp; done) | (go_simp; rfl)); intro gb225 hg w63 hbox hb; have n0_ := Aside0.mk (Kd.V_below (Kd.V_elderB (by (with_reducible repeat (first | apply Kd.V_alloc | apply Kd.V_drewN | apply Kd.V_drew)); exact HO_0.out) gb225 (Nat.le_of_eq hg.symm)) hb); have n1_ := Aside0.mk (Kd.R_below (by (with_reducible repeat (first | apply Kd.R_alloc | apply Kd.R_drewN | apply Kd.R_drew)); exact HO_4.out) hb); have n2_ := Aside0.mk (Kd.R_below (by (with_reducible repeat (first | apply Kd.R_alloc | apply Kd.R_drewN | apply Kd.R_drew)); exact HO220.out) hb); have n3_ := Aside0.mk (Kd.R_below (by (with_reducible repeat (first | apply Kd.R_alloc | apply Kd.R_drewN | apply Kd.R_drew)); exact HO223.out) hb); have n4_ := Aside0.mk (blk_below (g := gb209) (o := .cells #[.string (⟨#[]⟩ : ByteArray), .string (⟨#[]⟩ : ByteArray), .slice none 0 0, .slice none 0 0] 25 (0, 0)) (by (with_reducible repeat (first | refine blk_drewN ?_ _ | refine blk_drew ?_ | refine blk_alloc ?_ _)); exact BK209.out) hb); have n5_ := Aside0.mk (below_step (by repeat (first | (with_reducible first | apply bA | apply bN | apply bD | refine below_set ?_ GE209.out) | exact HB.out)) hb); have n6_ := Aside0.mk (hbox); have n7_ := Aside0.mk ((by rw [hg]; exact (below_size (by repeat (first | (with_reducible first | apply bA | apply bN | apply bD | refine below_set ?_ GE209.out) | exact HB.out))) : w.heap.size ≤ gb225)); have n8_ := Aside0.mk ((by rw [hg]; exact (below_size (by repeat (first | (with_reducible first | apply bA | apply bN | apply bD | refine below_set ?_ GE209.out) | exact HB.out))) : w.heap.size ≤ gb225)); have n9_ := Aside0.mk ((by rw [hg]; exact Nat.ne_of_lt (blk_lt (g := gb209) (o := .cells #[.string (⟨#[]⟩ : ByteArray), .string (⟨#[]⟩ : ByteArray), .slice none 0 0, .slice none 0 0] 25 (0, 0)) (by (with_reducible repeat (first | refine blk_drewN ?_ _ | refine blk_drew ?_ | refine blk_alloc ?_ _)); exact BK209.out)) : gb209 ≠ gb225)); have n10_ := Aside0.mk ((by rw [hg]; exact Nat.ne_of_gt (blk_lt (g := gb209) (o := .cells #[.string (⟨#[]⟩ : ByteArray), .string (⟨#[]⟩ : ByteArray), .slice none 0 0, .slice none 0 0] 25 (0, 0)) (by (with_reducible repeat (first | refine blk_drewN ?_ _ | refine blk_drew ?_ | refine blk_alloc ?_ _)); exact BK209.out)) : gb225 ≠ gb209)); clear HO_0; clear HO_4; clear HO220; clear HO223; clear BK209; clear HB; have HO_0 := n0_; have HO_4 := n1_; have HO220 := n2_; have HO223 := n3_; have BK209 := n4_; have HB := n5_; have BK225 := n6_; have GW225 := n7_; have GE225 := n8_; have NB209_225 := n9_; have NB225_209 := n10_; clear n0_ n1_ n2_ n3_ n4_ n5_ n6_ n7_ n8_ n9_ n10_; clear hb hbox hg; have hnb64 := NB225_209.out; have hnc64 := NB209_225.out; have hcz65_0 : w63.cell? ⟨gb225, 0, none⟩ = some (.string (⟨#[]⟩ : ByteArray)) := (blk_cell BK225.out 0).trans rfl; have hcz65_1 : w63.cell? ⟨gb225, 1, none⟩ = some (.string (⟨#[]⟩ : ByteArray)) := (blk_cell BK225.out 1).trans rfl; have hcz65_2 : w63.cell? ⟨gb225, 2, none⟩ = some (.slice none 0 0) := (blk_cell BK225.out 2).trans rfl; have hcz65_3 : w63.cell? ⟨gb225, 3, none⟩ = some (.slice none 0 0) := (blk_cell BK225.out 3).trans rfl; have hfz65_0 := blk_frozen BK225.out 0; have hfz65_1 := blk_frozen BK225.out 1; have hfz65_2 := blk_frozen BK225.out 2; have hfz65_3 := blk_frozen BK225.out 3; obtain ⟨Ao66, co66, eo66⟩ := Kd.R_slice HO220.out; subst eo66; obtain ⟨Ao67, co67, eo67⟩ := Kd.R_slice HO223.out; subst eo67; have hcz68_0 : w63.cell? ⟨gb209, 0, none⟩ = some (.string (⟨#[]⟩ : ByteArray)) := (blk_cell BK209.out 0).trans rfl; have hcz68_1 : w63.cell? ⟨gb209, 1, none⟩ = some (.string (⟨#[]⟩ : ByteArray)) := (blk_cell BK209.out 1).trans rfl; have hcz68_2 : w63.cell? ⟨gb209, 2, none⟩ = some (.slice none 0 0) := (blk_cell BK209.out 2).trans rfl; have hcz68_3 : w63.cell? ⟨gb209, 3, none⟩ = some (.slice none 0 0) := (blk_cell BK209.out 3).trans rfl; have hfz68_0 := blk_frozen BK209.out 0; have hfz68_1 := blk_frozen BK209.out 1; have hfz68_2 := blk_frozen BK209.out 2; have hfz68_3 := blk_frozen BK209.out 3))
      refine bodyPost_ret (results_ct rfl _ _ gb209 25 #[.string (⟨#[]⟩ : ByteArray), .string (⟨#[]⟩ : ByteArray), .slice none 0 0, .slice none 0 0] (0, 0) _ rfl (by (with_reducible repeat (first | refine blk_drewN ?_ _ | refine blk_drew ?_ | refine blk_alloc ?_ _)); refine blk_put (cs := #[.string (⟨#[]⟩ : ByteArray), .string (⟨#[]⟩ : ByteArray), .slice none 0 0, .slice none 0 0]) ?_ 3 _ rfl; (with_reducible repeat (first | refine blk_drewN ?_ _ | refine blk_drew ?_ | refine blk_alloc ?_ _)); refine blk_put (cs := #[.string (⟨#[]⟩ : ByteArray), .string (⟨#[]⟩ : ByteArray), .slice none 0 0, .slice none 0 0]) ?_ 2 _ rfl; (with_reducible repeat (first | refine blk_drewN ?_ _ | refine blk_drew ?_ | refine blk_alloc ?_ _)); refine blk_put (cs := #[.string (⟨#[]⟩ : ByteArray), .string (⟨#[]⟩ : ByteArray), .slice none 0 0, .slice none 0 0]) ?_ 1 _ rfl; (with_reducible repeat (first | refine blk_drewN ?_ _ | refine blk_drew ?_ | refine blk_alloc ?_ _)); refine blk_put (cs := #[.string (⟨#[]⟩ : ByteArray), .string (⟨#[]⟩ : ByteArray), .slice none 0 0, .slice none 0 0]) ?_ 0 _ rfl; (with_reducible repeat (first | refine blk_drewN ?_ _ | refine blk_drew ?_ | refine blk_alloc ?_ _)); refine blk_far ?_ NB209_225.out _; (with_reducible repeat (first | refine blk_drewN ?_ _ | refine blk_drew ?_ | refine blk_alloc ?_ _)); refine blk_far ?_ NB209_225.out _; (with_reducible repeat (first | refine blk_drewN ?_ _ | refine blk_drew ?_ | refine blk_alloc ?_ _)); refine blk_far ?_ NB209_225.out _; (with_reducible repeat (first | refine blk_drewN ?_ _ | refine blk_drew ?_ | refine blk_alloc ?_ _)); refine blk_far ?_ NB209_225.out _; (with_reducible repeat (first | refine blk_drewN ?_ _ | refine blk_drew ?_ | refine blk_alloc ?_ _)); exact BK209.out) Tryz.underlying25 rfl (by kernel_rfl)) rfl ?_
      exact ⟨_, _, by first | rfl | (simp [errW_none, errW_some] <;> rfl) | (simp [*, errW_none, errW_some] <;> rfl), by first | exact Kd.R_nil _ _ _ _ _ | exact Kd.N_nil _ _ _ _ _ | exact Kd.V_nil _ _ _ _ _ | exact Kd.Q_nil _ _ _ _ _ | exact Kd.S_nil _ _ _ _ _, Kd.V_nil _ _ _ _ _, by repeat (first | (with_reducible first | apply bA | apply bN | apply bD | refine below_set ?_ GE209.out | refine below_set ?_ GE225.out) | exact HB.out)⟩
    ·rw [if_neg c10] at H
     exact absurd H (by simp)
mutual
def wicketmanlaw09_Raw.j0 : Nat → List Int → Int → List ByteArray → ByteArray → Option (List Int)
 | 0, _, _, _, _ => none
 | k + 1, x0, x1, x6, x7 => wicketmanlaw09_Raw.l0 k x0 x1 x6 x7 0
def wicketmanlaw09_Raw.l0 : Nat → List Int → Int → List ByteArray → ByteArray → Int → Option (List Int)
 | 0, _, _, _, _, _ => none
 | k + 1, x0, x1, x6, x7, x8 => if x8 < (x0.length : Int) then (if x8 < 8 then (if 0 ≤ x8 then (if (x6.length : Int) = 0 then (none) else (if 0 ≤ (Int.tmod (wrap64 (rd x0 x8)) (x6.length : Int)) then (if (Int.tmod (wrap64 (rd x0 x8)) (x6.length : Int)) < (x6.length : Int) then (if x7.size + (rdOf ByteArray.empty x6 (Int.tmod (wrap64 (rd x0 x8)) (x6.length : Int))).size ≤ 9223372036854775807 then (if (x7 ++ (rdOf ByteArray.empty x6 (Int.tmod (wrap64 (rd x0 x8)) (x6.length : Int)))).size + 2 ≤ 9223372036854775807 then (wicketmanlaw09_Raw.l0 k x0 x1 x6 ((x7 ++ (rdOf ByteArray.empty x6 (Int.tmod (wrap64 (rd x0 x8)) (x6.length : Int)))) ++ (⟨#[13, 10]⟩ : ByteArray)) (wrap64 (x8 + 1))) else (none)) else (none)) else (none)) else (none))) else (none)) else (if x7.size + 2 ≤ 9223372036854775807 then (if (((Int.tdiv x1 8) % 256) % 4) > 0 then (if 0 ≤ (((Int.tdiv x1 8) % 256) % 4) then (if (((Int.tdiv x1 8) % 256) % 4) ≤ 3 then (if (x7 ++ (⟨#[13, 10]⟩ : ByteArray)).size + ((⟨#[97, 98, 99]⟩ : ByteArray).extract 0 ((((Int.tdiv x1 8) % 256) % 4) : Int).toNat).size ≤ 9223372036854775807 then (if ((x7 ++ (⟨#[13, 10]⟩ : ByteArray)) ++ ((⟨#[97, 98, 99]⟩ : ByteArray).extract 0 ((((Int.tdiv x1 8) % 256) % 4) : Int).toNat)).size ≤ 140737488351232 then (some (btsOf ((x7 ++ (⟨#[13, 10]⟩ : ByteArray)) ++ ((⟨#[97, 98, 99]⟩ : ByteArray).extract 0 ((((Int.tdiv x1 8) % 256) % 4) : Int).toNat)))) else (none)) else (none)) else (none)) else (none)) else (if (x7 ++ (⟨#[13, 10]⟩ : ByteArray)).size ≤ 140737488351232 then (some (btsOf (x7 ++ (⟨#[13, 10]⟩ : ByteArray)))) else (none))) else (none))) else (if x7.size + 2 ≤ 9223372036854775807 then (if (((Int.tdiv x1 8) % 256) % 4) > 0 then (if 0 ≤ (((Int.tdiv x1 8) % 256) % 4) then (if (((Int.tdiv x1 8) % 256) % 4) ≤ 3 then (if (x7 ++ (⟨#[13, 10]⟩ : ByteArray)).size + ((⟨#[97, 98, 99]⟩ : ByteArray).extract 0 ((((Int.tdiv x1 8) % 256) % 4) : Int).toNat).size ≤ 9223372036854775807 then (if ((x7 ++ (⟨#[13, 10]⟩ : ByteArray)) ++ ((⟨#[97, 98, 99]⟩ : ByteArray).extract 0 ((((Int.tdiv x1 8) % 256) % 4) : Int).toNat)).size ≤ 140737488351232 then (some (btsOf ((x7 ++ (⟨#[13, 10]⟩ : ByteArray)) ++ ((⟨#[97, 98, 99]⟩ : ByteArray).extract 0 ((((Int.tdiv x1 8) % 256) % 4) : Int).toNat)))) else (none)) else (none)) else (none)) else (none)) else (if (x7 ++ (⟨#[13, 10]⟩ : ByteArray)).size ≤ 140737488351232 then (some (btsOf (x7 ++ (⟨#[13, 10]⟩ : ByteArray)))) else (none))) else (none))
end
def wicketmanlaw09_Raw.f (k : Nat) (l0 : List Int) (a1 : Int) : Option (List Int) := (some (([(⟨#[71, 69, 84, 32, 47, 32, 72, 84, 84, 80, 47, 49, 46, 49]⟩ : ByteArray), (⟨#[80, 79, 83, 84, 32, 47, 108, 111, 103, 105, 110, 32, 72, 84, 84, 80, 47, 49, 46, 49]⟩ : ByteArray), (⟨#[71, 69, 84, 32, 32, 47, 32, 72, 84, 84, 80, 47, 49, 46, 49]⟩ : ByteArray), (⟨#[71, 69, 84, 32, 47, 97, 32, 72, 84, 84, 80, 47, 49, 46, 48]⟩ : ByteArray), (⟨#[71, 32, 84, 32, 47, 32, 72, 84, 84, 80, 47, 49, 46, 49]⟩ : ByteArray), (⟨#[71, 69, 84, 32, 120, 32, 72, 84, 84, 80, 47, 49, 46, 49]⟩ : ByteArray), (⟨#[80, 85, 84, 32, 47, 128, 32, 72, 84, 84, 80, 47, 49, 46, 49]⟩ : ByteArray), (⟨#[]⟩ : ByteArray)] : List ByteArray) : List ByteArray)).bind fun y240 => ((some (([(⟨#[72, 111, 115, 116, 58, 32, 97]⟩ : ByteArray), (⟨#[72, 111, 115, 116, 58, 98]⟩ : ByteArray), (⟨#[67, 111, 110, 116, 101, 110, 116, 45, 76, 101, 110, 103, 116, 104, 58, 32, 51]⟩ : ByteArray), (⟨#[67, 111, 110, 116, 101, 110, 116, 45, 76, 101, 110, 103, 116, 104, 58, 32, 48]⟩ : ByteArray), (⟨#[67, 111, 110, 116, 101, 110, 116, 45, 76, 101, 110, 103, 116, 104, 58, 32, 43, 51]⟩ : ByteArray), (⟨#[67, 111, 110, 116, 101, 110, 116, 45, 76, 101, 110, 103, 116, 104, 58, 32, 52, 48, 48, 49]⟩ : ByteArray), (⟨#[84, 114, 97, 110, 115, 102, 101, 114, 45, 69, 110, 99, 111, 100, 105, 110, 103, 58, 32, 99, 104, 117, 110, 107, 101, 100]⟩ : ByteArray), (⟨#[67, 111, 111, 107, 105, 101, 58, 32, 97, 61, 49]⟩ : ByteArray), (⟨#[32, 120, 58, 32, 49]⟩ : ByteArray), (⟨#[88, 32, 58, 32, 49]⟩ : ByteArray), (⟨#[88, 58]⟩ : ByteArray), (⟨#[99, 111, 110, 116, 101, 110, 116, 45, 108, 101, 110, 103, 116, 104, 58, 32, 48, 51]⟩ : ByteArray)] : List ByteArray) : List ByteArray)).bind fun y243 => (if 0 ≤ (Int.tmod a1 8) then (if (Int.tmod a1 8) < (y240.length : Int) then (if (rdOf ByteArray.empty y240 (Int.tmod a1 8)).size + 2 ≤ 9223372036854775807 then (if a1 ≥ 128 then (if 0 ≤ (Int.tmod a1 2) then (if (Int.tmod a1 2) < (y240.length : Int) then (if (rdOf ByteArray.empty y240 (Int.tmod a1 2)).size + 2 ≤ 9223372036854775807 then (if ((rdOf ByteArray.empty y240 (Int.tmod a1 2)) ++ (⟨#[13, 10]⟩ : ByteArray)).size + 9 ≤ 9223372036854775807 then (wicketmanlaw09_Raw.j0 k l0 a1 y243 (((rdOf ByteArray.empty y240 (Int.tmod a1 2)) ++ (⟨#[13, 10]⟩ : ByteArray)) ++ (⟨#[72, 111, 115, 116, 58, 32, 97, 13, 10]⟩ : ByteArray))) else (none)) else (none)) else (none)) else (none)) else (wicketmanlaw09_Raw.j0 k l0 a1 y243 ((rdOf ByteArray.empty y240 (Int.tmod a1 8)) ++ (⟨#[13, 10]⟩ : ByteArray)))) else (none)) else (none)) else (none)))
theorem wicketmanlaw09_Raw.mono_l : ∀ k, (∀ y0 y1 y2 y3, LeO (wicketmanlaw09_Raw.j0 k y0 y1 y2 y3) (wicketmanlaw09_Raw.j0 (k + 1) y0 y1 y2 y3)) ∧ (∀ y0 y1 y2 y3 y4, LeO (wicketmanlaw09_Raw.l0 k y0 y1 y2 y3 y4) (wicketmanlaw09_Raw.l0 (k + 1) y0 y1 y2 y3 y4))
 | 0 => ⟨fun _ _ _ _ r h => by simp [wicketmanlaw09_Raw.j0] at h, fun _ _ _ _ _ r h => by simp [wicketmanlaw09_Raw.l0] at h⟩
 | k + 1 => by
  obtain ⟨ih0, ih1⟩ := wicketmanlaw09_Raw.mono_l k
  refine ⟨?_, ?_⟩
  ·intro y0 y1 y2 y3
   unfold wicketmanlaw09_Raw.j0
   repeat' first
   | (with_reducible exact ih0 _ _ _ _)
   | (with_reducible exact ih1 _ _ _ _ _)
   | (with_reducible exact LeO.refl _)
   | (with_reducible exact LeO.none _)
   | (with_reducible refine LeO.ite ?_ ?_)
   | (with_reducible refine LeO.bind ?_ (fun _ => ?_))
   | exact ih0 _ _ _ _
   | exact ih1 _ _ _ _ _
   | exact LeO.none _
   | refine LeO.ite ?_ ?_
   | refine LeO.bind ?_ (fun _ => ?_)
  ·intro y0 y1 y2 y3 y4
   unfold wicketmanlaw09_Raw.l0
   repeat' first
   | (with_reducible exact ih0 _ _ _ _)
   | (with_reducible exact ih1 _ _ _ _ _)
   | (with_reducible exact LeO.refl _)
   | (with_reducible exact LeO.none _)
   | (with_reducible refine LeO.ite ?_ ?_)
   | (with_reducible refine LeO.bind ?_ (fun _ => ?_))
   | exact ih0 _ _ _ _
   | exact ih1 _ _ _ _ _
   | exact LeO.none _
   | refine LeO.ite ?_ ?_
   | refine LeO.bind ?_ (fun _ => ?_)
theorem wicketmanlaw09_Raw.mono : ∀ a0 a1 k, LeO (wicketmanlaw09_Raw.f k a0 a1) (wicketmanlaw09_Raw.f (k + 1) a0 a1) := by
 intro a0 a1 k
 obtain ⟨ih0, ih1⟩ := wicketmanlaw09_Raw.mono_l k
 unfold wicketmanlaw09_Raw.f
 repeat' first
   | (with_reducible exact ih0 _ _ _ _)
   | (with_reducible exact ih1 _ _ _ _ _)
   | (with_reducible exact LeO.refl _)
   | (with_reducible exact LeO.none _)
   | (with_reducible refine LeO.ite ?_ ?_)
   | (with_reducible refine LeO.bind ?_ (fun _ => ?_))
   | exact ih0 _ _ _ _
   | exact ih1 _ _ _ _ _
   | exact LeO.none _
   | refine LeO.ite ?_ ?_
   | refine LeO.bind ?_ (fun _ => ?_)
set_option maxHeartbeats 8000000 in
set_option maxRecDepth 100000 in
theorem wicketmanlaw09_Raw.calls (k : Nat) (A0 : Option Addr) (c0 : Nat) (l0 : List Int) (a1 : Int) (r : List Int) (w : World) (hr0 : Kd.C (Kd.int .u8) w A0 l0.length l0) (hc0 : l0.length ≤ c0) (h : wicketmanlaw09_Raw.f k l0 a1 = some r) :
  Calls Tryz.prog 7 #[.slice A0 l0.length c0, .int .u8 a1] w fun e w' => ∃ v0_ : Value, e = .returned (v0_) ∧ Kd.V (Kd.int .u8) 5 w' w.heap.size (fun k_ => (w.heap.size ≤ k_)) v0_ r ∧ Below w.heap.size w w' := by
 have HR0 := Aside0.mk hr0
 have HC0 := Aside0.mk hc0
 clear hr0 hc0
 have HB := Aside0.mk (Below.refl w.heap.size w)
 have H : ((some (([(⟨#[71, 69, 84, 32, 47, 32, 72, 84, 84, 80, 47, 49, 46, 49]⟩ : ByteArray), (⟨#[80, 79, 83, 84, 32, 47, 108, 111, 103, 105, 110, 32, 72, 84, 84, 80, 47, 49, 46, 49]⟩ : ByteArray), (⟨#[71, 69, 84, 32, 32, 47, 32, 72, 84, 84, 80, 47, 49, 46, 49]⟩ : ByteArray), (⟨#[71, 69, 84, 32, 47, 97, 32, 72, 84, 84, 80, 47, 49, 46, 48]⟩ : ByteArray), (⟨#[71, 32, 84, 32, 47, 32, 72, 84, 84, 80, 47, 49, 46, 49]⟩ : ByteArray), (⟨#[71, 69, 84, 32, 120, 32, 72, 84, 84, 80, 47, 49, 46, 49]⟩ : ByteArray), (⟨#[80, 85, 84, 32, 47, 128, 32, 72, 84, 84, 80, 47, 49, 46, 49]⟩ : ByteArray), (⟨#[]⟩ : ByteArray)] : List ByteArray) : List ByteArray)).bind fun y240 => ((some (([(⟨#[72, 111, 115, 116, 58, 32, 97]⟩ : ByteArray), (⟨#[72, 111, 115, 116, 58, 98]⟩ : ByteArray), (⟨#[67, 111, 110, 116, 101, 110, 116, 45, 76, 101, 110, 103, 116, 104, 58, 32, 51]⟩ : ByteArray), (⟨#[67, 111, 110, 116, 101, 110, 116, 45, 76, 101, 110, 103, 116, 104, 58, 32, 48]⟩ : ByteArray), (⟨#[67, 111, 110, 116, 101, 110, 116, 45, 76, 101, 110, 103, 116, 104, 58, 32, 43, 51]⟩ : ByteArray), (⟨#[67, 111, 110, 116, 101, 110, 116, 45, 76, 101, 110, 103, 116, 104, 58, 32, 52, 48, 48, 49]⟩ : ByteArray), (⟨#[84, 114, 97, 110, 115, 102, 101, 114, 45, 69, 110, 99, 111, 100, 105, 110, 103, 58, 32, 99, 104, 117, 110, 107, 101, 100]⟩ : ByteArray), (⟨#[67, 111, 111, 107, 105, 101, 58, 32, 97, 61, 49]⟩ : ByteArray), (⟨#[32, 120, 58, 32, 49]⟩ : ByteArray), (⟨#[88, 32, 58, 32, 49]⟩ : ByteArray), (⟨#[88, 58]⟩ : ByteArray), (⟨#[99, 111, 110, 116, 101, 110, 116, 45, 108, 101, 110, 103, 116, 104, 58, 32, 48, 51]⟩ : ByteArray)] : List ByteArray) : List ByteArray)).bind fun y243 => (if 0 ≤ (Int.tmod a1 8) then (if (Int.tmod a1 8) < (y240.length : Int) then (if (rdOf ByteArray.empty y240 (Int.tmod a1 8)).size + 2 ≤ 9223372036854775807 then (if a1 ≥ 128 then (if 0 ≤ (Int.tmod a1 2) then (if (Int.tmod a1 2) < (y240.length : Int) then (if (rdOf ByteArray.empty y240 (Int.tmod a1 2)).size + 2 ≤ 9223372036854775807 then (if ((rdOf ByteArray.empty y240 (Int.tmod a1 2)) ++ (⟨#[13, 10]⟩ : ByteArray)).size + 9 ≤ 9223372036854775807 then (wicketmanlaw09_Raw.j0 k l0 a1 y243 (((rdOf ByteArray.empty y240 (Int.tmod a1 2)) ++ (⟨#[13, 10]⟩ : ByteArray)) ++ (⟨#[72, 111, 115, 116, 58, 32, 97, 13, 10]⟩ : ByteArray))) else (none)) else (none)) else (none)) else (none)) else (wicketmanlaw09_Raw.j0 k l0 a1 y243 ((rdOf ByteArray.empty y240 (Int.tmod a1 8)) ++ (⟨#[13, 10]⟩ : ByteArray)))) else (none)) else (none)) else (none)))) = some r := h
 clear h
 obtain ⟨y240, hy240⟩ : ∃ y_ : List ByteArray, y_ = (([(⟨#[71, 69, 84, 32, 47, 32, 72, 84, 84, 80, 47, 49, 46, 49]⟩ : ByteArray), (⟨#[80, 79, 83, 84, 32, 47, 108, 111, 103, 105, 110, 32, 72, 84, 84, 80, 47, 49, 46, 49]⟩ : ByteArray), (⟨#[71, 69, 84, 32, 32, 47, 32, 72, 84, 84, 80, 47, 49, 46, 49]⟩ : ByteArray), (⟨#[71, 69, 84, 32, 47, 97, 32, 72, 84, 84, 80, 47, 49, 46, 48]⟩ : ByteArray), (⟨#[71, 32, 84, 32, 47, 32, 72, 84, 84, 80, 47, 49, 46, 49]⟩ : ByteArray), (⟨#[71, 69, 84, 32, 120, 32, 72, 84, 84, 80, 47, 49, 46, 49]⟩ : ByteArray), (⟨#[80, 85, 84, 32, 47, 128, 32, 72, 84, 84, 80, 47, 49, 46, 49]⟩ : ByteArray), (⟨#[]⟩ : ByteArray)] : List ByteArray)) := ⟨_, rfl⟩
 replace H : ((some (([(⟨#[72, 111, 115, 116, 58, 32, 97]⟩ : ByteArray), (⟨#[72, 111, 115, 116, 58, 98]⟩ : ByteArray), (⟨#[67, 111, 110, 116, 101, 110, 116, 45, 76, 101, 110, 103, 116, 104, 58, 32, 51]⟩ : ByteArray), (⟨#[67, 111, 110, 116, 101, 110, 116, 45, 76, 101, 110, 103, 116, 104, 58, 32, 48]⟩ : ByteArray), (⟨#[67, 111, 110, 116, 101, 110, 116, 45, 76, 101, 110, 103, 116, 104, 58, 32, 43, 51]⟩ : ByteArray), (⟨#[67, 111, 110, 116, 101, 110, 116, 45, 76, 101, 110, 103, 116, 104, 58, 32, 52, 48, 48, 49]⟩ : ByteArray), (⟨#[84, 114, 97, 110, 115, 102, 101, 114, 45, 69, 110, 99, 111, 100, 105, 110, 103, 58, 32, 99, 104, 117, 110, 107, 101, 100]⟩ : ByteArray), (⟨#[67, 111, 111, 107, 105, 101, 58, 32, 97, 61, 49]⟩ : ByteArray), (⟨#[32, 120, 58, 32, 49]⟩ : ByteArray), (⟨#[88, 32, 58, 32, 49]⟩ : ByteArray), (⟨#[88, 58]⟩ : ByteArray), (⟨#[99, 111, 110, 116, 101, 110, 116, 45, 108, 101, 110, 103, 116, 104, 58, 32, 48, 51]⟩ : ByteArray)] : List ByteArray) : List ByteArray)).bind fun y243 => (if 0 ≤ (Int.tmod a1 8) then (if (Int.tmod a1 8) < (y240.length : Int) then (if (rdOf ByteArray.empty y240 (Int.tmod a1 8)).size + 2 ≤ 9223372036854775807 then (if a1 ≥ 128 then (if 0 ≤ (Int.tmod a1 2) then (if (Int.tmod a1 2) < (y240.length : Int) then (if (rdOf ByteArray.empty y240 (Int.tmod a1 2)).size + 2 ≤ 9223372036854775807 then (if ((rdOf ByteArray.empty y240 (Int.tmod a1 2)) ++ (⟨#[13, 10]⟩ : ByteArray)).size + 9 ≤ 9223372036854775807 then (wicketmanlaw09_Raw.j0 k l0 a1 y243 (((rdOf ByteArray.empty y240 (Int.tmod a1 2)) ++ (⟨#[13, 10]⟩ : ByteArray)) ++ (⟨#[72, 111, 115, 116, 58, 32, 97, 13, 10]⟩ : ByteArray))) else (none)) else (none)) else (none)) else (none)) else (wicketmanlaw09_Raw.j0 k l0 a1 y243 ((rdOf ByteArray.empty y240 (Int.tmod a1 8)) ++ (⟨#[13, 10]⟩ : ByteArray)))) else (none)) else (none)) else (none))) = some r := by first | (rw [hy240]; with_reducible exact H) | (have H2_ := (Option.bind_some _ _).symm.trans H; rw [hy240]; with_reducible exact H2_) | (have H2_ := (Option.bind_some _ _).symm.trans H; with_reducible exact H2_) | with_reducible exact H | (rw [hy240]; exact H) | exact H
 have Ny240 := Aside0.mk hy240
 clear hy240
 obtain ⟨y243, hy243⟩ : ∃ y_ : List ByteArray, y_ = (([(⟨#[72, 111, 115, 116, 58, 32, 97]⟩ : ByteArray), (⟨#[72, 111, 115, 116, 58, 98]⟩ : ByteArray), (⟨#[67, 111, 110, 116, 101, 110, 116, 45, 76, 101, 110, 103, 116, 104, 58, 32, 51]⟩ : ByteArray), (⟨#[67, 111, 110, 116, 101, 110, 116, 45, 76, 101, 110, 103, 116, 104, 58, 32, 48]⟩ : ByteArray), (⟨#[67, 111, 110, 116, 101, 110, 116, 45, 76, 101, 110, 103, 116, 104, 58, 32, 43, 51]⟩ : ByteArray), (⟨#[67, 111, 110, 116, 101, 110, 116, 45, 76, 101, 110, 103, 116, 104, 58, 32, 52, 48, 48, 49]⟩ : ByteArray), (⟨#[84, 114, 97, 110, 115, 102, 101, 114, 45, 69, 110, 99, 111, 100, 105, 110, 103, 58, 32, 99, 104, 117, 110, 107, 101, 100]⟩ : ByteArray), (⟨#[67, 111, 111, 107, 105, 101, 58, 32, 97, 61, 49]⟩ : ByteArray), (⟨#[32, 120, 58, 32, 49]⟩ : ByteArray), (⟨#[88, 32, 58, 32, 49]⟩ : ByteArray), (⟨#[88, 58]⟩ : ByteArray), (⟨#[99, 111, 110, 116, 101, 110, 116, 45, 108, 101, 110, 103, 116, 104, 58, 32, 48, 51]⟩ : ByteArray)] : List ByteArray)) := ⟨_, rfl⟩
 replace H : (if 0 ≤ (Int.tmod a1 8) then (if (Int.tmod a1 8) < (y240.length : Int) then (if (rdOf ByteArray.empty y240 (Int.tmod a1 8)).size + 2 ≤ 9223372036854775807 then (if a1 ≥ 128 then (if 0 ≤ (Int.tmod a1 2) then (if (Int.tmod a1 2) < (y240.length : Int) then (if (rdOf ByteArray.empty y240 (Int.tmod a1 2)).size + 2 ≤ 9223372036854775807 then (if ((rdOf ByteArray.empty y240 (Int.tmod a1 2)) ++ (⟨#[13, 10]⟩ : ByteArray)).size + 9 ≤ 9223372036854775807 then (wicketmanlaw09_Raw.j0 k l0 a1 y243 (((rdOf ByteArray.empty y240 (Int.tmod a1 2)) ++ (⟨#[13, 10]⟩ : ByteArray)) ++ (⟨#[72, 111, 115, 116, 58, 32, 97, 13, 10]⟩ : ByteArray))) else (none)) else (none)) else (none)) else (none)) else (wicketmanlaw09_Raw.j0 k l0 a1 y243 ((rdOf ByteArray.empty y240 (Int.tmod a1 8)) ++ (⟨#[13, 10]⟩ : ByteArray)))) else (none)) else (none)) else (none)) = some r := by first | (rw [hy243]; with_reducible exact H) | (have H2_ := (Option.bind_some _ _).symm.trans H; rw [hy243]; with_reducible exact H2_) | (have H2_ := (Option.bind_some _ _).symm.trans H; with_reducible exact H2_) | with_reducible exact H | (rw [hy243]; exact H) | exact H
 have Ny243 := Aside0.mk hy243
 clear hy243
 obtain ⟨ji3, hji3⟩ : ∃ j_ : Int, (Int.tmod a1 8) = j_ := ⟨_, rfl⟩
 replace H : (if 0 ≤ (ji3) then (if (ji3) < (y240.length : Int) then (if (rdOf ByteArray.empty y240 (ji3)).size + 2 ≤ 9223372036854775807 then (if a1 ≥ 128 then (if 0 ≤ (Int.tmod a1 2) then (if (Int.tmod a1 2) < (y240.length : Int) then (if (rdOf ByteArray.empty y240 (Int.tmod a1 2)).size + 2 ≤ 9223372036854775807 then (if ((rdOf ByteArray.empty y240 (Int.tmod a1 2)) ++ (⟨#[13, 10]⟩ : ByteArray)).size + 9 ≤ 9223372036854775807 then (wicketmanlaw09_Raw.j0 k l0 a1 y243 (((rdOf ByteArray.empty y240 (Int.tmod a1 2)) ++ (⟨#[13, 10]⟩ : ByteArray)) ++ (⟨#[72, 111, 115, 116, 58, 32, 97, 13, 10]⟩ : ByteArray))) else (none)) else (none)) else (none)) else (none)) else (wicketmanlaw09_Raw.j0 k l0 a1 y243 ((rdOf ByteArray.empty y240 (ji3)) ++ (⟨#[13, 10]⟩ : ByteArray)))) else (none)) else (none)) else (none)) = some r := by first | (rw [hji3] at H; exact H) | (simp only [hji3] at H ⊢; exact H)
 by_cases c4 : 0 ≤ (ji3)
 ·rw [if_pos c4] at H
  have c4b0 : decide (0 ≤ (ji3)) = true := decide_eq_true c4
  clear c4
  by_cases c5 : (ji3) < (y240.length : Int)
  ·rw [if_pos c5] at H
   have c5b0 : decide ((ji3) < (y240.length : Int)) = true := decide_eq_true c5
   clear c5
   by_cases c6 : (rdOf ByteArray.empty y240 (ji3)).size + 2 ≤ 9223372036854775807
   ·rw [if_pos c6] at H
    have c6b0 := eq_true c6
    have c6b1 : decide ((rdOf ByteArray.empty y240 (ji3)).size + 2 ≤ 9223372036854775807) = true := decide_eq_true c6
    try have c6b2 : (9223372036854775807 < (rdOf ByteArray.empty y240 (ji3)).size + 2) = False := eq_false (Nat.not_lt.2 c6)
    have HC7 := Aside0.mk H
    clear H
    go_enter Tryz.func7, Tryz.ntmps7
    go_upto_if 18 with (first | ((with_reducible refine gate_dst (N := 9) rfl ?_); refine Kd.R_lit Kd.string _ 9 ?hg (N := 9) ?hd (xs := ([(⟨#[71, 69, 84, 32, 47, 32, 72, 84, 84, 80, 47, 49, 46, 49]⟩ : ByteArray), (⟨#[80, 79, 83, 84, 32, 47, 108, 111, 103, 105, 110, 32, 72, 84, 84, 80, 47, 49, 46, 49]⟩ : ByteArray), (⟨#[71, 69, 84, 32, 32, 47, 32, 72, 84, 84, 80, 47, 49, 46, 49]⟩ : ByteArray), (⟨#[71, 69, 84, 32, 47, 97, 32, 72, 84, 84, 80, 47, 49, 46, 48]⟩ : ByteArray), (⟨#[71, 32, 84, 32, 47, 32, 72, 84, 84, 80, 47, 49, 46, 49]⟩ : ByteArray), (⟨#[71, 69, 84, 32, 120, 32, 72, 84, 84, 80, 47, 49, 46, 49]⟩ : ByteArray), (⟨#[80, 85, 84, 32, 47, 128, 32, 72, 84, 84, 80, 47, 49, 46, 49]⟩ : ByteArray), (⟨#[]⟩ : ByteArray)] : List ByteArray)) (inner := [.string (⟨#[71, 69, 84, 32, 47, 32, 72, 84, 84, 80, 47, 49, 46, 49]⟩ : ByteArray), .string (⟨#[80, 79, 83, 84, 32, 47, 108, 111, 103, 105, 110, 32, 72, 84, 84, 80, 47, 49, 46, 49]⟩ : ByteArray), .string (⟨#[71, 69, 84, 32, 32, 47, 32, 72, 84, 84, 80, 47, 49, 46, 49]⟩ : ByteArray), .string (⟨#[71, 69, 84, 32, 47, 97, 32, 72, 84, 84, 80, 47, 49, 46, 48]⟩ : ByteArray), .string (⟨#[71, 32, 84, 32, 47, 32, 72, 84, 84, 80, 47, 49, 46, 49]⟩ : ByteArray), .string (⟨#[71, 69, 84, 32, 120, 32, 72, 84, 84, 80, 47, 49, 46, 49]⟩ : ByteArray), .string (⟨#[80, 85, 84, 32, 47, 128, 32, 72, 84, 84, 80, 47, 49, 46, 49]⟩ : ByteArray), .string (⟨#[]⟩ : ByteArray)]) (ok := fun _ => True) (okp := fun _ => True) ?hr ?hp (fun _ hk => hk) trivial (Below.refl _ _) (Nat.le_refl _) (by simp) ?_; (case hd => rfl); (case hg => rfl); (case hr => first | (go_simp; done) | (go_simp; rfl)); (case hp => exact (Reps.one (show Kd.M Kd.string _ _ _ (⟨#[71, 69, 84, 32, 47, 32, 72, 84, 84, 80, 47, 49, 46, 49]⟩ : ByteArray) [.string (⟨#[71, 69, 84, 32, 47, 32, 72, 84, 84, 80, 47, 49, 46, 49]⟩ : ByteArray)] from rfl) (Reps.one (show Kd.M Kd.string _ _ _ (⟨#[80, 79, 83, 84, 32, 47, 108, 111, 103, 105, 110, 32, 72, 84, 84, 80, 47, 49, 46, 49]⟩ : ByteArray) [.string (⟨#[80, 79, 83, 84, 32, 47, 108, 111, 103, 105, 110, 32, 72, 84, 84, 80, 47, 49, 46, 49]⟩ : ByteArray)] from rfl) (Reps.one (show Kd.M Kd.string _ _ _ (⟨#[71, 69, 84, 32, 32, 47, 32, 72, 84, 84, 80, 47, 49, 46, 49]⟩ : ByteArray) [.string (⟨#[71, 69, 84, 32, 32, 47, 32, 72, 84, 84, 80, 47, 49, 46, 49]⟩ : ByteArray)] from rfl) (Reps.one (show Kd.M Kd.string _ _ _ (⟨#[71, 69, 84, 32, 47, 97, 32, 72, 84, 84, 80, 47, 49, 46, 48]⟩ : ByteArray) [.string (⟨#[71, 69, 84, 32, 47, 97, 32, 72, 84, 84, 80, 47, 49, 46, 48]⟩ : ByteArray)] from rfl) (Reps.one (show Kd.M Kd.string _ _ _ (⟨#[71, 32, 84, 32, 47, 32, 72, 84, 84, 80, 47, 49, 46, 49]⟩ : ByteArray) [.string (⟨#[71, 32, 84, 32, 47, 32, 72, 84, 84, 80, 47, 49, 46, 49]⟩ : ByteArray)] from rfl) (Reps.one (show Kd.M Kd.string _ _ _ (⟨#[71, 69, 84, 32, 120, 32, 72, 84, 84, 80, 47, 49, 46, 49]⟩ : ByteArray) [.string (⟨#[71, 69, 84, 32, 120, 32, 72, 84, 84, 80, 47, 49, 46, 49]⟩ : ByteArray)] from rfl) (Reps.one (show Kd.M Kd.string _ _ _ (⟨#[80, 85, 84, 32, 47, 128, 32, 72, 84, 84, 80, 47, 49, 46, 49]⟩ : ByteArray) [.string (⟨#[80, 85, 84, 32, 47, 128, 32, 72, 84, 84, 80, 47, 49, 46, 49]⟩ : ByteArray)] from rfl) (Reps.one (show Kd.M Kd.string _ _ _ (⟨#[]⟩ : ByteArray) [.string (⟨#[]⟩ : ByteArray)] from rfl) (Reps.none _ _)))))))))); intro v241 w8 ho9 hb hg_ hnew_; clear hg_ hnew_; (first | rw [← Ny240.out] at ho9 | (simp only [Int.reduceToNat] at ho9; rw [← Ny240.out] at ho9)); have n0_ := Aside0.mk (Kd.R_lower (Kd.R_newM (M := fun k_ => (w.heap.size ≤ k_)) ho9 (below_size (by repeat (first | (with_reducible first | apply bA | apply bN | apply bD) | exact HB.out))) (fun k_ h_ => h_)) (below_size (by repeat (first | (with_reducible first | apply bA | apply bN | apply bD) | exact HB.out)))); have n1_ := Aside0.mk (below_step (by repeat (first | (with_reducible first | apply bA | apply bN | apply bD) | exact HB.out)) hb); clear HB; have HO242 := n0_; have HB := n1_; clear n0_ n1_; clear hb ho9) | ((with_reducible refine gate_dst (N := 10) rfl ?_); refine Kd.R_lit Kd.string _ 9 ?hg (N := 10) ?hd (xs := ([(⟨#[72, 111, 115, 116, 58, 32, 97]⟩ : ByteArray), (⟨#[72, 111, 115, 116, 58, 98]⟩ : ByteArray), (⟨#[67, 111, 110, 116, 101, 110, 116, 45, 76, 101, 110, 103, 116, 104, 58, 32, 51]⟩ : ByteArray), (⟨#[67, 111, 110, 116, 101, 110, 116, 45, 76, 101, 110, 103, 116, 104, 58, 32, 48]⟩ : ByteArray), (⟨#[67, 111, 110, 116, 101, 110, 116, 45, 76, 101, 110, 103, 116, 104, 58, 32, 43, 51]⟩ : ByteArray), (⟨#[67, 111, 110, 116, 101, 110, 116, 45, 76, 101, 110, 103, 116, 104, 58, 32, 52, 48, 48, 49]⟩ : ByteArray), (⟨#[84, 114, 97, 110, 115, 102, 101, 114, 45, 69, 110, 99, 111, 100, 105, 110, 103, 58, 32, 99, 104, 117, 110, 107, 101, 100]⟩ : ByteArray), (⟨#[67, 111, 111, 107, 105, 101, 58, 32, 97, 61, 49]⟩ : ByteArray), (⟨#[32, 120, 58, 32, 49]⟩ : ByteArray), (⟨#[88, 32, 58, 32, 49]⟩ : ByteArray), (⟨#[88, 58]⟩ : ByteArray), (⟨#[99, 111, 110, 116, 101, 110, 116, 45, 108, 101, 110, 103, 116, 104, 58, 32, 48, 51]⟩ : ByteArray)] : List ByteArray)) (inner := [.string (⟨#[72, 111, 115, 116, 58, 32, 97]⟩ : ByteArray), .string (⟨#[72, 111, 115, 116, 58, 98]⟩ : ByteArray), .string (⟨#[67, 111, 110, 116, 101, 110, 116, 45, 76, 101, 110, 103, 116, 104, 58, 32, 51]⟩ : ByteArray), .string (⟨#[67, 111, 110, 116, 101, 110, 116, 45, 76, 101, 110, 103, 116, 104, 58, 32, 48]⟩ : ByteArray), .string (⟨#[67, 111, 110, 116, 101, 110, 116, 45, 76, 101, 110, 103, 116, 104, 58, 32, 43, 51]⟩ : ByteArray), .string (⟨#[67, 111, 110, 116, 101, 110, 116, 45, 76, 101, 110, 103, 116, 104, 58, 32, 52, 48, 48, 49]⟩ : ByteArray), .string (⟨#[84, 114, 97, 110, 115, 102, 101, 114, 45, 69, 110, 99, 111, 100, 105, 110, 103, 58, 32, 99, 104, 117, 110, 107, 101, 100]⟩ : ByteArray), .string (⟨#[67, 111, 111, 107, 105, 101, 58, 32, 97, 61, 49]⟩ : ByteArray), .string (⟨#[32, 120, 58, 32, 49]⟩ : ByteArray), .string (⟨#[88, 32, 58, 32, 49]⟩ : ByteArray), .string (⟨#[88, 58]⟩ : ByteArray), .string (⟨#[99, 111, 110, 116, 101, 110, 116, 45, 108, 101, 110, 103, 116, 104, 58, 32, 48, 51]⟩ : ByteArray)]) (ok := fun _ => True) (okp := fun _ => True) ?hr ?hp (fun _ hk => hk) trivial (Below.refl _ _) (Nat.le_refl _) (by simp) ?_; (case hd => rfl); (case hg => rfl); (case hr => first | (go_simp; done) | (go_simp; rfl)); (case hp => exact (Reps.one (show Kd.M Kd.string _ _ _ (⟨#[72, 111, 115, 116, 58, 32, 97]⟩ : ByteArray) [.string (⟨#[72, 111, 115, 116, 58, 32, 97]⟩ : ByteArray)] from rfl) (Reps.one (show Kd.M Kd.string _ _ _ (⟨#[72, 111, 115, 116, 58, 98]⟩ : ByteArray) [.string (⟨#[72, 111, 115, 116, 58, 98]⟩ : ByteArray)] from rfl) (Reps.one (show Kd.M Kd.string _ _ _ (⟨#[67, 111, 110, 116, 101, 110, 116, 45, 76, 101, 110, 103, 116, 104, 58, 32, 51]⟩ : ByteArray) [.string (⟨#[67, 111, 110, 116, 101, 110, 116, 45, 76, 101, 110, 103, 116, 104, 58, 32, 51]⟩ : ByteArray)] from rfl) (Reps.one (show Kd.M Kd.string _ _ _ (⟨#[67, 111, 110, 116, 101, 110, 116, 45, 76, 101, 110, 103, 116, 104, 58, 32, 48]⟩ : ByteArray) [.string (⟨#[67, 111, 110, 116, 101, 110, 116, 45, 76, 101, 110, 103, 116, 104, 58, 32, 48]⟩ : ByteArray)] from rfl) (Reps.one (show Kd.M Kd.string _ _ _ (⟨#[67, 111, 110, 116, 101, 110, 116, 45, 76, 101, 110, 103, 116, 104, 58, 32, 43, 51]⟩ : ByteArray) [.string (⟨#[67, 111, 110, 116, 101, 110, 116, 45, 76, 101, 110, 103, 116, 104, 58, 32, 43, 51]⟩ : ByteArray)] from rfl) (Reps.one (show Kd.M Kd.string _ _ _ (⟨#[67, 111, 110, 116, 101, 110, 116, 45, 76, 101, 110, 103, 116, 104, 58, 32, 52, 48, 48, 49]⟩ : ByteArray) [.string (⟨#[67, 111, 110, 116, 101, 110, 116, 45, 76, 101, 110, 103, 116, 104, 58, 32, 52, 48, 48, 49]⟩ : ByteArray)] from rfl) (Reps.one (show Kd.M Kd.string _ _ _ (⟨#[84, 114, 97, 110, 115, 102, 101, 114, 45, 69, 110, 99, 111, 100, 105, 110, 103, 58, 32, 99, 104, 117, 110, 107, 101, 100]⟩ : ByteArray) [.string (⟨#[84, 114, 97, 110, 115, 102, 101, 114, 45, 69, 110, 99, 111, 100, 105, 110, 103, 58, 32, 99, 104, 117, 110, 107, 101, 100]⟩ : ByteArray)] from rfl) (Reps.one (show Kd.M Kd.string _ _ _ (⟨#[67, 111, 111, 107, 105, 101, 58, 32, 97, 61, 49]⟩ : ByteArray) [.string (⟨#[67, 111, 111, 107, 105, 101, 58, 32, 97, 61, 49]⟩ : ByteArray)] from rfl) (Reps.one (show Kd.M Kd.string _ _ _ (⟨#[32, 120, 58, 32, 49]⟩ : ByteArray) [.string (⟨#[32, 120, 58, 32, 49]⟩ : ByteArray)] from rfl) (Reps.one (show Kd.M Kd.string _ _ _ (⟨#[88, 32, 58, 32, 49]⟩ : ByteArray) [.string (⟨#[88, 32, 58, 32, 49]⟩ : ByteArray)] from rfl) (Reps.one (show Kd.M Kd.string _ _ _ (⟨#[88, 58]⟩ : ByteArray) [.string (⟨#[88, 58]⟩ : ByteArray)] from rfl) (Reps.one (show Kd.M Kd.string _ _ _ (⟨#[99, 111, 110, 116, 101, 110, 116, 45, 108, 101, 110, 103, 116, 104, 58, 32, 48, 51]⟩ : ByteArray) [.string (⟨#[99, 111, 110, 116, 101, 110, 116, 45, 108, 101, 110, 103, 116, 104, 58, 32, 48, 51]⟩ : ByteArray)] from rfl) (Reps.none _ _)))))))))))))); intro v244 w10 ho11 hb hg_ hnew_; clear hg_ hnew_; (first | rw [← Ny243.out] at ho11 | (simp only [Int.reduceToNat] at ho11; rw [← Ny243.out] at ho11)); have n0_ := Aside0.mk (Kd.R_elder' (by (with_reducible repeat (first | apply Kd.R_alloc | apply Kd.R_drewN | apply Kd.R_drew)); exact HO242.out) (Kd.R_base ho11) hb); have n1_ := Aside0.mk (Kd.R_lower (Kd.R_new' (Kd.R_newM (M := fun k_ => (w.heap.size ≤ k_)) ho11 (below_size (by repeat (first | (with_reducible first | apply bA | apply bN | apply bD) | exact HB.out))) (fun k_ h_ => h_)) (Kd.R_lt (by (with_reducible repeat (first | apply Kd.R_alloc | apply Kd.R_drewN | apply Kd.R_drew)); exact HO242.out))) (below_size (by repeat (first | (with_reducible first | apply bA | apply bN | apply bD) | exact HB.out)))); have n2_ := Aside0.mk (below_step (by repeat (first | (with_reducible first | apply bA | apply bN | apply bD) | exact HB.out)) hb); clear HO242; clear HB; have HO242 := n0_; have HO245 := n1_; have HB := n2_; clear n0_ n1_ n2_; clear hb ho11; obtain ⟨Ao12, co12, eo12⟩ := Kd.R_slice HO242.out; subst eo12; have p246 : 0 ≤ ((ji3) : Int) := of_decide_eq_true (by first | (with_reducible assumption) | assumption); have q246 : (ji3) < (y240.length : Int) := of_decide_eq_true (by first | (with_reducible assumption) | assumption); obtain ⟨ad246, e246, hx246_0⟩ := Kd.at_string (Kd.R_reads' HO242.out).2.2 (ji3) p246 q246; cases e246; replace p246 := eq_true p246; replace q246 := eq_true q246))
    (try simp only [Act.put, List.setIfInBounds_toArray, List.set_cons_zero, List.set_cons_succ])
    go_cut [7] (fun v7 wc => ∃ (kq : Nat) (x7_6 : ByteArray), v7 = .string x7_6 ∧ Aside0 (wicketmanlaw09_Raw.j0 kq l0 a1 y243 x7_6 = some r) ∧ Aside0 (kq ≤ k) ∧ Aside0 (Kd.R Kd.string 9 wc w.heap.size (fun k_ => (w.heap.size ≤ k_)) v244 y243) ∧ Aside0 (Below w.heap.size w wc))
    case first =>
     have H := HC7.out
     clear HC7
     by_cases c13 : a1 ≥ 128
     ·rw [if_pos c13] at H
      have c13b0 : decide (128 ≤ a1) = true := decide_eq_true c13
      clear c13
      (first | rw [c13b0] | (simp only [i64_w, i32_w]; rw [c13b0]) | skip)
      obtain ⟨ji14, hji14⟩ : ∃ j_ : Int, (Int.tmod a1 2) = j_ := ⟨_, rfl⟩
      replace H : (if 0 ≤ (ji14) then (if (ji14) < (y240.length : Int) then (if (rdOf ByteArray.empty y240 (ji14)).size + 2 ≤ 9223372036854775807 then (if ((rdOf ByteArray.empty y240 (ji14)) ++ (⟨#[13, 10]⟩ : ByteArray)).size + 9 ≤ 9223372036854775807 then (wicketmanlaw09_Raw.j0 k l0 a1 y243 (((rdOf ByteArray.empty y240 (ji14)) ++ (⟨#[13, 10]⟩ : ByteArray)) ++ (⟨#[72, 111, 115, 116, 58, 32, 97, 13, 10]⟩ : ByteArray))) else (none)) else (none)) else (none)) else (none)) = some r := by first | (rw [hji14] at H; exact H) | (simp only [hji14] at H ⊢; exact H)
      by_cases c15 : 0 ≤ (ji14)
      ·rw [if_pos c15] at H
       have c15b0 : decide (0 ≤ (ji14)) = true := decide_eq_true c15
       clear c15
       by_cases c16 : (ji14) < (y240.length : Int)
       ·rw [if_pos c16] at H
        have c16b0 : decide ((ji14) < (y240.length : Int)) = true := decide_eq_true c16
        clear c16
        by_cases c17 : (rdOf ByteArray.empty y240 (ji14)).size + 2 ≤ 9223372036854775807
        ·rw [if_pos c17] at H
         have c17b0 := eq_true c17
         have c17b1 : decide ((rdOf ByteArray.empty y240 (ji14)).size + 2 ≤ 9223372036854775807) = true := decide_eq_true c17
         try have c17b2 : (9223372036854775807 < (rdOf ByteArray.empty y240 (ji14)).size + 2) = False := eq_false (Nat.not_lt.2 c17)
         by_cases c18 : ((rdOf ByteArray.empty y240 (ji14)) ++ (⟨#[13, 10]⟩ : ByteArray)).size + 9 ≤ 9223372036854775807
         ·rw [if_pos c18] at H
          have c18b0 := eq_true c18
          have c18b1 : decide (((rdOf ByteArray.empty y240 (ji14)) ++ (⟨#[13, 10]⟩ : ByteArray)).size + 9 ≤ 9223372036854775807) = true := decide_eq_true c18
          try have c18b2 : (9223372036854775807 < ((rdOf ByteArray.empty y240 (ji14)) ++ (⟨#[13, 10]⟩ : ByteArray)).size + 9) = False := eq_false (Nat.not_lt.2 c18)
          try (have c18b8 := c18b2; simp only [ByteArray.size_append, show ((⟨#[13, 10]⟩ : ByteArray) : ByteArray).size = 2 from rfl] at c18b8)
          have H' := Aside0.mk H
          clear H
          have p247 : 0 ≤ ((ji14) : Int) := of_decide_eq_true (by first | (with_reducible assumption) | assumption)
          have q247 : (ji14) < (y240.length : Int) := of_decide_eq_true (by first | (with_reducible assumption) | assumption)
          obtain ⟨ad247, e247, hx247_0⟩ := Kd.at_string (Kd.R_reads' HO242.out).2.2 (ji14) p247 q247
          obtain rfl : ad246 = ad247 := (by injection e247)
          replace p247 := eq_true p247
          replace q247 := eq_true q247
          go_wp2
          go_meet
          case rel => exact ⟨_, (((rdOf ByteArray.empty y240 (ji14)) ++ (⟨#[13, 10]⟩ : ByteArray)) ++ (⟨#[72, 111, 115, 116, 58, 32, 97, 13, 10]⟩ : ByteArray)), (by first | rfl | (simp; done) | (simp only [← hji14] <;> (first | rfl | simp)) | (simp [*]; done)), H', ⟨by first | omega | exact Nat.le_refl _⟩, ⟨by (with_reducible repeat (first | apply Kd.R_alloc | apply Kd.R_drewN | apply Kd.R_drew)); exact Kd.R_mono HO245.out (fun _ hk => hk.1.1)⟩, ⟨by repeat (first | (with_reducible first | apply bA | apply bN | apply bD) | exact HB.out)⟩⟩
         ·rw [if_neg c18] at H
          exact absurd H (by simp)
        ·rw [if_neg c17] at H
         exact absurd H (by simp)
       ·rw [if_neg c16] at H
        exact absurd H (by simp)
      ·rw [if_neg c15] at H
       exact absurd H (by simp)
     ·rw [if_neg c13] at H
      have c13b0 : decide (128 ≤ a1) = false := decide_eq_false c13
      clear c13
      (first | rw [c13b0] | (simp only [i64_w, i32_w]; rw [c13b0]) | skip)
      have H' := Aside0.mk H
      clear H
      go_wp2
      go_meet
      case rel => exact ⟨_, ((rdOf ByteArray.empty y240 (ji3)) ++ (⟨#[13, 10]⟩ : ByteArray)), (by first | rfl | (simp; done) | (simp only [← hji3] <;> (first | rfl | simp)) | (simp [*]; done)), H', ⟨by first | omega | exact Nat.le_refl _⟩, ⟨by (with_reducible repeat (first | apply Kd.R_alloc | apply Kd.R_drewN | apply Kd.R_drew)); exact Kd.R_mono HO245.out (fun _ hk => hk.1.1)⟩, ⟨by repeat (first | (with_reducible first | apply bA | apply bN | apply bD) | exact HB.out)⟩⟩
    case rest =>
     clear HC7
     try clear c1
     try clear p2
     try clear q2
     try clear hx2
     try clear c4
     try clear c4b0
     try clear c5
     try clear c5b0
     try clear c6
     try clear c6b0
     try clear c6b1
     try clear c6b2
     try clear c7
     try clear c13
     try clear c13b0
     try clear c15
     try clear c15b0
     try clear c16
     try clear c16b0
     try clear c17
     try clear c17b0
     try clear c17b1
     try clear c17b2
     try clear c18
     try clear c18b0
     try clear c18b1
     try clear c18b2
     try clear hx246_0
     try clear hx247_0
     try clear p246
     try clear p247
     try clear q246
     try clear q247
     obtain ⟨kq, x7_6, rfl, HA, HJ6, HO_6, HB⟩ := hcut
     cases kq with
     | zero => exact absurd HA.out (by simp [wicketmanlaw09_Raw.j0])
     | succ kj6 =>
      have H := HA.out
      clear HA
      simp only [wicketmanlaw09_Raw.j0] at H
      have H' := Aside0.mk H
      clear H
      go_wp2
      go_loopg [7, 8] kj6 (fun kq v7 v8 w' => ∃ (x7_2 : ByteArray) (x8_2 : Int), v7 = .string x7_2 ∧ v8 = .int .i64 x8_2 ∧ Aside0 (wicketmanlaw09_Raw.l0 kq l0 a1 y243 x7_2 x8_2 = some r) ∧ Aside0 (kq ≤ kj6) ∧ Aside0 (Kd.R Kd.string 9 w' w.heap.size (fun k_ => (w.heap.size ≤ k_)) v244 y243) ∧ Aside0 (Below w.heap.size w w'))
      case atStart => exact ⟨(x7_6), (0), (by first | rfl | (simp; done) | (simp [*]; done)), (by first | rfl | (simp; done) | (simp [*]; done)), H', ⟨Nat.le_refl _⟩, ⟨by (with_reducible repeat (first | apply Kd.R_alloc | apply Kd.R_drewN | apply Kd.R_drew)); exact HO_6.out⟩, ⟨by repeat (first | (with_reducible first | apply bA | apply bN | apply bD) | exact HB.out)⟩⟩
      case round =>
       clear H'
       try clear c1
       try clear p2
       try clear q2
       try clear hx2
       try clear c4
       try clear c4b0
       try clear c5
       try clear c5b0
       try clear c6
       try clear c6b0
       try clear c6b1
       try clear c6b2
       try clear c7
       try clear c13
       try clear c13b0
       try clear c15
       try clear c15b0
       try clear c16
       try clear c16b0
       try clear c17
       try clear c17b0
       try clear c17b1
       try clear c17b2
       try clear c18
       try clear c18b0
       try clear c18b1
       try clear c18b2
       try clear hx246_0
       try clear hx247_0
       try clear p2
       try clear p246
       try clear p247
       try clear q2
       try clear q246
       try clear q247
       obtain ⟨x7_2, x8_2, rfl, rfl, HA, HK2, HO_6, HB⟩ := hrel
       cases gk with
       | zero => exact absurd HA.out (by simp [wicketmanlaw09_Raw.l0])
       | succ k2 =>
        have H := HA.out
        clear HA
        simp only [wicketmanlaw09_Raw.l0] at H
        by_cases c19 : x8_2 < (l0.length : Int)
        ·rw [if_pos c19] at H
         have c19b0 : decide (x8_2 < (l0.length : Int)) = true := decide_eq_true c19
         clear c19
         by_cases c20 : x8_2 < 8
         ·rw [if_pos c20] at H
          have c20b0 : decide (x8_2 < 8) = true := decide_eq_true c20
          clear c20
          by_cases c21 : 0 ≤ x8_2
          ·rw [if_pos c21] at H
           have c21b0 : decide (0 ≤ x8_2) = true := decide_eq_true c21
           clear c21
           by_cases c22 : (y243.length : Int) = 0
           ·rw [if_pos c22] at H
            exact absurd H (by simp)
           ·rw [if_neg c22] at H
            have c22b0 : ((y243.length : Int) == 0) = false := beq_eq_false_iff_ne.mpr c22
            have c22b1 : ((y243.length : Int) != 0) = true := bne_iff_ne.mpr c22
            have c22b2 : ¬ (y243 = []) := fun h_ => c22 (by rw [h_]; rfl)
            obtain ⟨ji23, hji23⟩ : ∃ j_ : Int, (Int.tmod (wrap64 (rd l0 x8_2)) (y243.length : Int)) = j_ := ⟨_, rfl⟩
            replace H : (if 0 ≤ (ji23) then (if (ji23) < (y243.length : Int) then (if x7_2.size + (rdOf ByteArray.empty y243 (ji23)).size ≤ 9223372036854775807 then (if (x7_2 ++ (rdOf ByteArray.empty y243 (ji23))).size + 2 ≤ 9223372036854775807 then (wicketmanlaw09_Raw.l0 k2 l0 a1 y243 ((x7_2 ++ (rdOf ByteArray.empty y243 (ji23))) ++ (⟨#[13, 10]⟩ : ByteArray)) (wrap64 (x8_2 + 1))) else (none)) else (none)) else (none)) else (none)) = some r := by first | (rw [hji23] at H; exact H) | (simp only [hji23] at H ⊢; exact H)
            by_cases c24 : 0 ≤ (ji23)
            ·rw [if_pos c24] at H
             have c24b0 : decide (0 ≤ (ji23)) = true := decide_eq_true c24
             clear c24
             by_cases c25 : (ji23) < (y243.length : Int)
             ·rw [if_pos c25] at H
              have c25b0 : decide ((ji23) < (y243.length : Int)) = true := decide_eq_true c25
              clear c25
              by_cases c26 : x7_2.size + (rdOf ByteArray.empty y243 (ji23)).size ≤ 9223372036854775807
              ·rw [if_pos c26] at H
               have c26b0 := eq_true c26
               have c26b1 : decide (x7_2.size + (rdOf ByteArray.empty y243 (ji23)).size ≤ 9223372036854775807) = true := decide_eq_true c26
               try have c26b2 : (9223372036854775807 < x7_2.size + (rdOf ByteArray.empty y243 (ji23)).size) = False := eq_false (Nat.not_lt.2 c26)
               by_cases c27 : (x7_2 ++ (rdOf ByteArray.empty y243 (ji23))).size + 2 ≤ 9223372036854775807
               ·rw [if_pos c27] at H
                have c27b0 := eq_true c27
                have c27b1 : decide ((x7_2 ++ (rdOf ByteArray.empty y243 (ji23))).size + 2 ≤ 9223372036854775807) = true := decide_eq_true c27
                try have c27b2 : (9223372036854775807 < (x7_2 ++ (rdOf ByteArray.empty y243 (ji23))).size + 2) = False := eq_false (Nat.not_lt.2 c27)
                try (have c27b8 := c27b2; simp only [ByteArray.size_append] at c27b8)
                have H' := Aside0.mk H
                clear H
                have p248 : 0 ≤ (x8_2 : Int) := of_decide_eq_true (by first | (with_reducible assumption) | assumption)
                have q248 : x8_2 < (l0.length : Int) := of_decide_eq_true (by first | (with_reducible assumption) | assumption)
                obtain ⟨ad248, e248, hx248_0⟩ := Kd.at_int HR0.out x8_2 p248 q248
                cases e248
                replace hx248_0 := (HB.out.cell (World.block_lt_of_cell? w _ hx248_0)).trans hx248_0
                replace p248 := eq_true p248
                replace q248 := eq_true q248
                obtain ⟨Ao28, co28, eo28⟩ := Kd.R_slice HO_6.out
                subst eo28
                have p249 : 0 ≤ ((ji23) : Int) := of_decide_eq_true (by first | (with_reducible assumption) | assumption)
                have q249 : (ji23) < (y243.length : Int) := of_decide_eq_true (by first | (with_reducible assumption) | assumption)
                obtain ⟨ad249, e249, hx249_0⟩ := Kd.at_string (Kd.R_reads' HO_6.out).2.2 (ji23) p249 q249
                cases e249
                replace p249 := eq_true p249
                replace q249 := eq_true q249
                go_wp2
                go_roundg k2
                case measure => have := HJ6.out; have := HK2.out; omega
                case rel => exact ⟨((x7_2 ++ (rdOf ByteArray.empty y243 (ji23))) ++ (⟨#[13, 10]⟩ : ByteArray)), (wrap64 (x8_2 + 1)), (by first | rfl | (simp; done) | (simp only [← hji23] <;> (first | rfl | simp)) | (simp [*]; done)), (by first | rfl | (simp; done) | (simp [*]; done)), H', ⟨by have := HJ6.out; have := HK2.out; omega⟩, ⟨by (with_reducible repeat (first | apply Kd.R_alloc | apply Kd.R_drewN | apply Kd.R_drew)); exact HO_6.out⟩, ⟨by repeat (first | (with_reducible first | apply bA | apply bN | apply bD) | exact HB.out)⟩⟩
               ·rw [if_neg c27] at H
                exact absurd H (by simp)
              ·rw [if_neg c26] at H
               exact absurd H (by simp)
             ·rw [if_neg c25] at H
              exact absurd H (by simp)
            ·rw [if_neg c24] at H
             exact absurd H (by simp)
          ·rw [if_neg c21] at H
           exact absurd H (by simp)
         ·rw [if_neg c20] at H
          have c20b0 : decide (x8_2 < 8) = false := decide_eq_false c20
          clear c20
          by_cases c29 : x7_2.size + 2 ≤ 9223372036854775807
          ·rw [if_pos c29] at H
           have c29b0 := eq_true c29
           have c29b1 : decide (x7_2.size + 2 ≤ 9223372036854775807) = true := decide_eq_true c29
           try have c29b2 : (9223372036854775807 < x7_2.size + 2) = False := eq_false (Nat.not_lt.2 c29)
           by_cases c30 : (((Int.tdiv a1 8) % 256) % 4) > 0
           ·rw [if_pos c30] at H
            have c30b0 : decide (0 < (((Int.tdiv a1 8) % 256) % 4)) = true := decide_eq_true c30
            have c30b7 : decide (0 < ((Int.tdiv a1 8) % 4)) = true := by have q_ := c30b0; rw [show (((Int.tdiv a1 8) % 256) % 4) = ((Int.tdiv a1 8) % 4) by omega] at q_; exact q_
            clear c30
            obtain ⟨ji31, hji31⟩ : ∃ j_ : Int, (((Int.tdiv a1 8) % 256) % 4) = j_ := ⟨_, rfl⟩
            replace H : (if 0 ≤ (ji31) then (if (ji31) ≤ 3 then (if (x7_2 ++ (⟨#[13, 10]⟩ : ByteArray)).size + ((⟨#[97, 98, 99]⟩ : ByteArray).extract 0 ((ji31) : Int).toNat).size ≤ 9223372036854775807 then (if ((x7_2 ++ (⟨#[13, 10]⟩ : ByteArray)) ++ ((⟨#[97, 98, 99]⟩ : ByteArray).extract 0 ((ji31) : Int).toNat)).size ≤ 140737488351232 then (some (btsOf ((x7_2 ++ (⟨#[13, 10]⟩ : ByteArray)) ++ ((⟨#[97, 98, 99]⟩ : ByteArray).extract 0 ((ji31) : Int).toNat)))) else (none)) else (none)) else (none)) else (none)) = some r := by first | (rw [hji31] at H; exact H) | (simp only [hji31] at H ⊢; exact H)
            (try rw [hji31] at c30b0)
            by_cases c32 : 0 ≤ (ji31)
            ·rw [if_pos c32] at H
             have c32b0 := eq_true c32
             have c32b1 : decide (0 ≤ (ji31)) = true := decide_eq_true c32
             clear c32
             by_cases c33 : (ji31) ≤ 3
             ·rw [if_pos c33] at H
              have c33b0 := eq_true c33
              have c33b1 : decide ((ji31) ≤ 3) = true := decide_eq_true c33
              obtain ⟨vs0, hvs0⟩ : ∃ v_ : ByteArray, ((⟨#[97, 98, 99]⟩ : ByteArray).extract 0 ((ji31) : Int).toNat) = v_ := ⟨_, rfl⟩
              simp only [hvs0] at H
              clear c33
              by_cases c34 : (x7_2 ++ (⟨#[13, 10]⟩ : ByteArray)).size + vs0.size ≤ 9223372036854775807
              ·rw [if_pos c34] at H
               have c34b0 := eq_true c34
               have c34b1 : decide ((x7_2 ++ (⟨#[13, 10]⟩ : ByteArray)).size + vs0.size ≤ 9223372036854775807) = true := decide_eq_true c34
               try have c34b2 : (9223372036854775807 < (x7_2 ++ (⟨#[13, 10]⟩ : ByteArray)).size + vs0.size) = False := eq_false (Nat.not_lt.2 c34)
               by_cases c35 : ((x7_2 ++ (⟨#[13, 10]⟩ : ByteArray)) ++ vs0).size ≤ 140737488351232
               ·rw [if_pos c35] at H
                have c35b0 := eq_true c35
                have c35b1 : decide (((x7_2 ++ (⟨#[13, 10]⟩ : ByteArray)) ++ vs0).size ≤ 140737488351232) = true := decide_eq_true c35
                obtain ⟨y250, hy250⟩ : ∃ y_ : List Int, y_ = (btsOf ((x7_2 ++ (⟨#[13, 10]⟩ : ByteArray)) ++ vs0)) := ⟨_, rfl⟩
                replace H : (some y250) = some r := by first | (rw [hy250]; with_reducible exact H) | (have H2_ := (Option.bind_some _ _).symm.trans H; rw [hy250]; with_reducible exact H2_) | (have H2_ := (Option.bind_some _ _).symm.trans H; with_reducible exact H2_) | with_reducible exact H | (rw [hy250]; exact H) | exact H
                have Ny250 := Aside0.mk hy250
                clear hy250
                obtain rfl := Option.some.inj H
                go_wp2_with (first | ((with_reducible refine gate_dst (N := 63) rfl ?_); refine conv_own rfl (N := 63) rfl (ts := 9) (td := 23) ((x7_2 ++ (⟨#[13, 10]⟩ : ByteArray)) ++ vs0) rfl ?hx Tryz.underlying9 Tryz.underlying23 Tryz.underlying5 ?hs ?_; (case hx => first | rfl | (go_simp; done) | (go_simp; rfl)); (case hs => first | (with_reducible assumption) | exact of_decide_eq_true (by first | (with_reducible assumption) | assumption) | decide | (simp only [ByteArray.size_append] at *; omega)); intro v251 w36 ho37 hb; (first | rw [← Ny250.out] at ho37 | simp only [← Ny250.out] at ho37); have n0_ := Aside0.mk (Kd.R_below (by (with_reducible repeat (first | apply Kd.R_alloc | apply Kd.R_drewN | apply Kd.R_drew)); exact HO_6.out) hb); have n1_ := Aside0.mk (Kd.V_lower (Kd.V_mono (ok' := fun k_ => (w.heap.size ≤ k_) ∧ some k_ ≠ (v244 : Value).ownBlock) ho37 (fun k_ hk_ => ⟨(Nat.le_trans (below_size (by repeat (first | (with_reducible first | apply bA | apply bN | apply bD) | exact HB.out))) hk_), (Kd.fresh' (Kd.R_lt (by (with_reducible repeat (first | apply Kd.R_alloc | apply Kd.R_drewN | apply Kd.R_drew)); exact HO_6.out)) k_ hk_)⟩)) (below_size (by repeat (first | (with_reducible first | apply bA | apply bN | apply bD) | exact HB.out)))); have n2_ := Aside0.mk (below_step (by repeat (first | (with_reducible first | apply bA | apply bN | apply bD) | exact HB.out)) hb); clear HO_6; clear HB; have HO_6 := n0_; have HO252 := n1_; have HB := n2_; clear n0_ n1_ n2_; clear hb ho37))
                go_ret
                exact ⟨_, by first | rfl | (simp [errW_none, errW_some] <;> rfl) | (simp only [← hji3, ← hji31]; first | rfl | (simp [errW_none, errW_some] <;> rfl)) | (simp [*, errW_none, errW_some] <;> rfl), by (with_reducible repeat (first | apply Kd.V_alloc | apply Kd.V_drewN | apply Kd.V_drew)); exact Kd.V_mono HO252.out (fun _ hk => hk.1), by repeat (first | (with_reducible first | apply bA | apply bN | apply bD) | exact HB.out)⟩
               ·rw [if_neg c35] at H
                exact absurd H (by simp)
              ·rw [if_neg c34] at H
               exact absurd H (by simp)
             ·rw [if_neg c33] at H
              exact absurd H (by simp)
            ·rw [if_neg c32] at H
             exact absurd H (by simp)
           ·rw [if_neg c30] at H
            have c30b0 : decide (0 < (((Int.tdiv a1 8) % 256) % 4)) = false := decide_eq_false c30
            have c30b7 : decide (0 < ((Int.tdiv a1 8) % 4)) = false := by have q_ := c30b0; rw [show (((Int.tdiv a1 8) % 256) % 4) = ((Int.tdiv a1 8) % 4) by omega] at q_; exact q_
            clear c30
            by_cases c38 : (x7_2 ++ (⟨#[13, 10]⟩ : ByteArray)).size ≤ 140737488351232
            ·rw [if_pos c38] at H
             have c38b0 := eq_true c38
             have c38b1 : decide ((x7_2 ++ (⟨#[13, 10]⟩ : ByteArray)).size ≤ 140737488351232) = true := decide_eq_true c38
             obtain ⟨y253, hy253⟩ : ∃ y_ : List Int, y_ = (btsOf (x7_2 ++ (⟨#[13, 10]⟩ : ByteArray))) := ⟨_, rfl⟩
             replace H : (some y253) = some r := by first | (rw [hy253]; with_reducible exact H) | (have H2_ := (Option.bind_some _ _).symm.trans H; rw [hy253]; with_reducible exact H2_) | (have H2_ := (Option.bind_some _ _).symm.trans H; with_reducible exact H2_) | with_reducible exact H | (rw [hy253]; exact H) | exact H
             have Ny253 := Aside0.mk hy253
             clear hy253
             obtain rfl := Option.some.inj H
             go_wp2_with (first | ((with_reducible refine gate_dst (N := 63) rfl ?_); refine conv_own rfl (N := 63) rfl (ts := 9) (td := 23) (x7_2 ++ (⟨#[13, 10]⟩ : ByteArray)) rfl ?hx Tryz.underlying9 Tryz.underlying23 Tryz.underlying5 ?hs ?_; (case hx => first | rfl | (go_simp; done) | (go_simp; rfl)); (case hs => first | (with_reducible assumption) | exact of_decide_eq_true (by first | (with_reducible assumption) | assumption) | decide | (simp only [ByteArray.size_append] at *; omega)); intro v254 w39 ho40 hb; (first | rw [← Ny253.out] at ho40 | simp only [← Ny253.out] at ho40); have n0_ := Aside0.mk (Kd.R_below (by (with_reducible repeat (first | apply Kd.R_alloc | apply Kd.R_drewN | apply Kd.R_drew)); exact HO_6.out) hb); have n1_ := Aside0.mk (Kd.V_lower (Kd.V_mono (ok' := fun k_ => (w.heap.size ≤ k_) ∧ some k_ ≠ (v244 : Value).ownBlock) ho40 (fun k_ hk_ => ⟨(Nat.le_trans (below_size (by repeat (first | (with_reducible first | apply bA | apply bN | apply bD) | exact HB.out))) hk_), (Kd.fresh' (Kd.R_lt (by (with_reducible repeat (first | apply Kd.R_alloc | apply Kd.R_drewN | apply Kd.R_drew)); exact HO_6.out)) k_ hk_)⟩)) (below_size (by repeat (first | (with_reducible first | apply bA | apply bN | apply bD) | exact HB.out)))); have n2_ := Aside0.mk (below_step (by repeat (first | (with_reducible first | apply bA | apply bN | apply bD) | exact HB.out)) hb); clear HO_6; clear HB; have HO_6 := n0_; have HO255 := n1_; have HB := n2_; clear n0_ n1_ n2_; clear hb ho40))
             go_ret
             exact ⟨_, by first | rfl | (simp [errW_none, errW_some] <;> rfl) | (simp only [← hji3]; first | rfl | (simp [errW_none, errW_some] <;> rfl)) | (simp [*, errW_none, errW_some] <;> rfl), by (with_reducible repeat (first | apply Kd.V_alloc | apply Kd.V_drewN | apply Kd.V_drew)); exact Kd.V_mono HO255.out (fun _ hk => hk.1), by repeat (first | (with_reducible first | apply bA | apply bN | apply bD) | exact HB.out)⟩
            ·rw [if_neg c38] at H
             exact absurd H (by simp)
          ·rw [if_neg c29] at H
           exact absurd H (by simp)
        ·rw [if_neg c19] at H
         have c19b0 : decide (x8_2 < (l0.length : Int)) = false := decide_eq_false c19
         clear c19
         by_cases c41 : x7_2.size + 2 ≤ 9223372036854775807
         ·rw [if_pos c41] at H
          have c41b0 := eq_true c41
          have c41b1 : decide (x7_2.size + 2 ≤ 9223372036854775807) = true := decide_eq_true c41
          try have c41b2 : (9223372036854775807 < x7_2.size + 2) = False := eq_false (Nat.not_lt.2 c41)
          by_cases c42 : (((Int.tdiv a1 8) % 256) % 4) > 0
          ·rw [if_pos c42] at H
           have c42b0 : decide (0 < (((Int.tdiv a1 8) % 256) % 4)) = true := decide_eq_true c42
           have c42b7 : decide (0 < ((Int.tdiv a1 8) % 4)) = true := by have q_ := c42b0; rw [show (((Int.tdiv a1 8) % 256) % 4) = ((Int.tdiv a1 8) % 4) by omega] at q_; exact q_
           clear c42
           obtain ⟨ji43, hji43⟩ : ∃ j_ : Int, (((Int.tdiv a1 8) % 256) % 4) = j_ := ⟨_, rfl⟩
           replace H : (if 0 ≤ (ji43) then (if (ji43) ≤ 3 then (if (x7_2 ++ (⟨#[13, 10]⟩ : ByteArray)).size + ((⟨#[97, 98, 99]⟩ : ByteArray).extract 0 ((ji43) : Int).toNat).size ≤ 9223372036854775807 then (if ((x7_2 ++ (⟨#[13, 10]⟩ : ByteArray)) ++ ((⟨#[97, 98, 99]⟩ : ByteArray).extract 0 ((ji43) : Int).toNat)).size ≤ 140737488351232 then (some (btsOf ((x7_2 ++ (⟨#[13, 10]⟩ : ByteArray)) ++ ((⟨#[97, 98, 99]⟩ : ByteArray).extract 0 ((ji43) : Int).toNat)))) else (none)) else (none)) else (none)) else (none)) = some r := by first | (rw [hji43] at H; exact H) | (simp only [hji43] at H ⊢; exact H)
           (try rw [hji43] at c42b0)
           by_cases c44 : 0 ≤ (ji43)
           ·rw [if_pos c44] at H
            have c44b0 := eq_true c44
            have c44b1 : decide (0 ≤ (ji43)) = true := decide_eq_true c44
            clear c44
            by_cases c45 : (ji43) ≤ 3
            ·rw [if_pos c45] at H
             have c45b0 := eq_true c45
             have c45b1 : decide ((ji43) ≤ 3) = true := decide_eq_true c45
             obtain ⟨vs1, hvs1⟩ : ∃ v_ : ByteArray, ((⟨#[97, 98, 99]⟩ : ByteArray).extract 0 ((ji43) : Int).toNat) = v_ := ⟨_, rfl⟩
             simp only [hvs1] at H
             clear c45
             by_cases c46 : (x7_2 ++ (⟨#[13, 10]⟩ : ByteArray)).size + vs1.size ≤ 9223372036854775807
             ·rw [if_pos c46] at H
              have c46b0 := eq_true c46
              have c46b1 : decide ((x7_2 ++ (⟨#[13, 10]⟩ : ByteArray)).size + vs1.size ≤ 9223372036854775807) = true := decide_eq_true c46
              try have c46b2 : (9223372036854775807 < (x7_2 ++ (⟨#[13, 10]⟩ : ByteArray)).size + vs1.size) = False := eq_false (Nat.not_lt.2 c46)
              by_cases c47 : ((x7_2 ++ (⟨#[13, 10]⟩ : ByteArray)) ++ vs1).size ≤ 140737488351232
              ·rw [if_pos c47] at H
               have c47b0 := eq_true c47
               have c47b1 : decide (((x7_2 ++ (⟨#[13, 10]⟩ : ByteArray)) ++ vs1).size ≤ 140737488351232) = true := decide_eq_true c47
               obtain ⟨y256, hy256⟩ : ∃ y_ : List Int, y_ = (btsOf ((x7_2 ++ (⟨#[13, 10]⟩ : ByteArray)) ++ vs1)) := ⟨_, rfl⟩
               replace H : (some y256) = some r := by first | (rw [hy256]; with_reducible exact H) | (have H2_ := (Option.bind_some _ _).symm.trans H; rw [hy256]; with_reducible exact H2_) | (have H2_ := (Option.bind_some _ _).symm.trans H; with_reducible exact H2_) | with_reducible exact H | (rw [hy256]; exact H) | exact H
               have Ny256 := Aside0.mk hy256
               clear hy256
               obtain rfl := Option.some.inj H
               go_wp2_with (first | ((with_reducible refine gate_dst (N := 63) rfl ?_); refine conv_own rfl (N := 63) rfl (ts := 9) (td := 23) ((x7_2 ++ (⟨#[13, 10]⟩ : ByteArray)) ++ vs1) rfl ?hx Tryz.underlying9 Tryz.underlying23 Tryz.underlying5 ?hs ?_; (case hx => first | rfl | (go_simp; done) | (go_simp; rfl)); (case hs => first | (with_reducible assumption) | exact of_decide_eq_true (by first | (with_reducible assumption) | assumption) | decide | (simp only [ByteArray.size_append] at *; omega)); intro v257 w48 ho49 hb; (first | rw [← Ny256.out] at ho49 | simp only [← Ny256.out] at ho49); have n0_ := Aside0.mk (Kd.R_below (by (with_reducible repeat (first | apply Kd.R_alloc | apply Kd.R_drewN | apply Kd.R_drew)); exact HO_6.out) hb); have n1_ := Aside0.mk (Kd.V_lower (Kd.V_mono (ok' := fun k_ => (w.heap.size ≤ k_) ∧ some k_ ≠ (v244 : Value).ownBlock) ho49 (fun k_ hk_ => ⟨(Nat.le_trans (below_size (by repeat (first | (with_reducible first | apply bA | apply bN | apply bD) | exact HB.out))) hk_), (Kd.fresh' (Kd.R_lt (by (with_reducible repeat (first | apply Kd.R_alloc | apply Kd.R_drewN | apply Kd.R_drew)); exact HO_6.out)) k_ hk_)⟩)) (below_size (by repeat (first | (with_reducible first | apply bA | apply bN | apply bD) | exact HB.out)))); have n2_ := Aside0.mk (below_step (by repeat (first | (with_reducible first | apply bA | apply bN | apply bD) | exact HB.out)) hb); clear HO_6; clear HB; have HO_6 := n0_; have HO258 := n1_; have HB := n2_; clear n0_ n1_ n2_; clear hb ho49))
               go_ret
               exact ⟨_, by first | rfl | (simp [errW_none, errW_some] <;> rfl) | (simp only [← hji3, ← hji43]; first | rfl | (simp [errW_none, errW_some] <;> rfl)) | (simp [*, errW_none, errW_some] <;> rfl), by (with_reducible repeat (first | apply Kd.V_alloc | apply Kd.V_drewN | apply Kd.V_drew)); exact Kd.V_mono HO258.out (fun _ hk => hk.1), by repeat (first | (with_reducible first | apply bA | apply bN | apply bD) | exact HB.out)⟩
              ·rw [if_neg c47] at H
               exact absurd H (by simp)
             ·rw [if_neg c46] at H
              exact absurd H (by simp)
            ·rw [if_neg c45] at H
             exact absurd H (by simp)
           ·rw [if_neg c44] at H
            exact absurd H (by simp)
          ·rw [if_neg c42] at H
           have c42b0 : decide (0 < (((Int.tdiv a1 8) % 256) % 4)) = false := decide_eq_false c42
           have c42b7 : decide (0 < ((Int.tdiv a1 8) % 4)) = false := by have q_ := c42b0; rw [show (((Int.tdiv a1 8) % 256) % 4) = ((Int.tdiv a1 8) % 4) by omega] at q_; exact q_
           clear c42
           by_cases c50 : (x7_2 ++ (⟨#[13, 10]⟩ : ByteArray)).size ≤ 140737488351232
           ·rw [if_pos c50] at H
            have c50b0 := eq_true c50
            have c50b1 : decide ((x7_2 ++ (⟨#[13, 10]⟩ : ByteArray)).size ≤ 140737488351232) = true := decide_eq_true c50
            obtain ⟨y259, hy259⟩ : ∃ y_ : List Int, y_ = (btsOf (x7_2 ++ (⟨#[13, 10]⟩ : ByteArray))) := ⟨_, rfl⟩
            replace H : (some y259) = some r := by first | (rw [hy259]; with_reducible exact H) | (have H2_ := (Option.bind_some _ _).symm.trans H; rw [hy259]; with_reducible exact H2_) | (have H2_ := (Option.bind_some _ _).symm.trans H; with_reducible exact H2_) | with_reducible exact H | (rw [hy259]; exact H) | exact H
            have Ny259 := Aside0.mk hy259
            clear hy259
            obtain rfl := Option.some.inj H
            go_wp2_with (first | ((with_reducible refine gate_dst (N := 63) rfl ?_); refine conv_own rfl (N := 63) rfl (ts := 9) (td := 23) (x7_2 ++ (⟨#[13, 10]⟩ : ByteArray)) rfl ?hx Tryz.underlying9 Tryz.underlying23 Tryz.underlying5 ?hs ?_; (case hx => first | rfl | (go_simp; done) | (go_simp; rfl)); (case hs => first | (with_reducible assumption) | exact of_decide_eq_true (by first | (with_reducible assumption) | assumption) | decide | (simp only [ByteArray.size_append] at *; omega)); intro v260 w51 ho52 hb; (first | rw [← Ny259.out] at ho52 | simp only [← Ny259.out] at ho52); have n0_ := Aside0.mk (Kd.R_below (by (with_reducible repeat (first | apply Kd.R_alloc | apply Kd.R_drewN | apply Kd.R_drew)); exact HO_6.out) hb); have n1_ := Aside0.mk (Kd.V_lower (Kd.V_mono (ok' := fun k_ => (w.heap.size ≤ k_) ∧ some k_ ≠ (v244 : Value).ownBlock) ho52 (fun k_ hk_ => ⟨(Nat.le_trans (below_size (by repeat (first | (with_reducible first | apply bA | apply bN | apply bD) | exact HB.out))) hk_), (Kd.fresh' (Kd.R_lt (by (with_reducible repeat (first | apply Kd.R_alloc | apply Kd.R_drewN | apply Kd.R_drew)); exact HO_6.out)) k_ hk_)⟩)) (below_size (by repeat (first | (with_reducible first | apply bA | apply bN | apply bD) | exact HB.out)))); have n2_ := Aside0.mk (below_step (by repeat (first | (with_reducible first | apply bA | apply bN | apply bD) | exact HB.out)) hb); clear HO_6; clear HB; have HO_6 := n0_; have HO261 := n1_; have HB := n2_; clear n0_ n1_ n2_; clear hb ho52))
            go_ret
            exact ⟨_, by first | rfl | (simp [errW_none, errW_some] <;> rfl) | (simp only [← hji3]; first | rfl | (simp [errW_none, errW_some] <;> rfl)) | (simp [*, errW_none, errW_some] <;> rfl), by (with_reducible repeat (first | apply Kd.V_alloc | apply Kd.V_drewN | apply Kd.V_drew)); exact Kd.V_mono HO261.out (fun _ hk => hk.1), by repeat (first | (with_reducible first | apply bA | apply bN | apply bD) | exact HB.out)⟩
           ·rw [if_neg c50] at H
            exact absurd H (by simp)
         ·rw [if_neg c41] at H
          exact absurd H (by simp)
   ·rw [if_neg c6] at H
    exact absurd H (by simp)
  ·rw [if_neg c5] at H
   exact absurd H (by simp)
 ·rw [if_neg c4] at H
  exact absurd H (by simp)
def api_Pair.l0 : Nat → List (S34) → List (S34) → Int → Int → Option (Bool)
 | 0, _, _, _, _ => none
 | k + 1, x0, x1, x12, x13 => if x13 < x12 then (if 0 ≤ x13 then (if x13 < (x0.length : Int) then (if x13 < (x1.length : Int) then (if (!((((rd_T34 x0 x13).f0).toList) == (((rd_T34 x1 x13).f0).toList)) || (!((((rd_T34 x0 x13).f1).toList) == (((rd_T34 x1 x13).f1).toList)))) = true then (some false) else (api_Pair.l0 k x0 x1 x12 (wrap64 (x13 + 1)))) else (none)) else (none)) else (none)) else (some true)
def api_Pair.f (k : Nat) (l0 : List (S34)) (l1 : List (S34)) : Option (Bool) := if (l0.length : Int) = (l1.length : Int) then (api_Pair.l0 k l0 l1 (l0.length : Int) 0) else (some false)
theorem api_Pair.mono_l : ∀ k, (∀ y0 y1 y2 y3, LeO (api_Pair.l0 k y0 y1 y2 y3) (api_Pair.l0 (k + 1) y0 y1 y2 y3))
 | 0 => fun _ _ _ _ r h => by simp [api_Pair.l0] at h
 | k + 1 => by
  have ih0 := api_Pair.mono_l k
  ·intro y0 y1 y2 y3
   unfold api_Pair.l0
   repeat' first
   | (with_reducible exact ih0 _ _ _ _)
   | (with_reducible exact LeO.refl _)
   | (with_reducible exact LeO.none _)
   | (with_reducible refine LeO.ite ?_ ?_)
   | (with_reducible refine LeO.bind ?_ (fun _ => ?_))
   | exact ih0 _ _ _ _
   | exact LeO.none _
   | refine LeO.ite ?_ ?_
   | refine LeO.bind ?_ (fun _ => ?_)
theorem api_Pair.mono : ∀ a0 a1 k, LeO (api_Pair.f k a0 a1) (api_Pair.f (k + 1) a0 a1) := by
 intro a0 a1 k
 have ih0 := api_Pair.mono_l k
 unfold api_Pair.f
 repeat' first
   | (with_reducible exact ih0 _ _ _ _)
   | (with_reducible exact LeO.refl _)
   | (with_reducible exact LeO.none _)
   | (with_reducible refine LeO.ite ?_ ?_)
   | (with_reducible refine LeO.bind ?_ (fun _ => ?_))
   | exact ih0 _ _ _ _
   | exact LeO.none _
   | refine LeO.ite ?_ ?_
   | refine LeO.bind ?_ (fun _ => ?_)
set_option maxHeartbeats 8000000 in
set_option maxRecDepth 100000 in
theorem api_Pair.calls (k : Nat) (A0 : Option Addr) (c0 : Nat) (l0 : List (S34)) (A1 : Option Addr) (c1 : Nat) (l1 : List (S34)) (r : Bool) (w : World) (hr0 : Kd.C k34 w A0 l0.length l0) (hc0 : l0.length ≤ c0) (hr1 : Kd.C k34 w A1 l1.length l1) (hc1 : l1.length ≤ c1) (h : api_Pair.f k l0 l1 = some r) :
  Calls Tryz.prog 19 #[.slice A0 l0.length c0, .slice A1 l1.length c1] w fun e w' => e = .returned (.bool r) ∧ Drawn0 w w' := by
 have hu34 := Tryz.underlying34
 have HR0 := Aside0.mk hr0
 have HC0 := Aside0.mk hc0
 clear hr0 hc0
 have HR1 := Aside0.mk hr1
 have HC1 := Aside0.mk hc1
 clear hr1 hc1
 have H : (if (l0.length : Int) = (l1.length : Int) then (api_Pair.l0 k l0 l1 (l0.length : Int) 0) else (some false)) = some r := h
 clear h
 by_cases c3 : (l0.length : Int) = (l1.length : Int)
 ·rw [if_pos c3] at H
  have c3b0 : ((l0.length : Int) == (l1.length : Int)) = true := beq_iff_eq.mpr c3
  have c3b1 : ((l0.length : Int) != (l1.length : Int)) = false := bne_eq_false_iff_eq.mpr c3
  have c3b2 : (l0.length == l1.length) = true := by first | simpa using c3 | (simp at c3 ⊢; omega)
  clear c3
  have H' := Aside0.mk H
  clear H
  go_enter Tryz.func19, Tryz.ntmps19
  go_wp2
  repeat (go_quiet (fail); try go_wp2)
  go_loopg [13] k (fun kq v13 w' => ∃ (x13_1 : Int), v13 = .int .i64 x13_1 ∧ Aside0 (api_Pair.l0 kq l0 l1 (l0.length : Int) x13_1 = some r) ∧ Aside0 (kq ≤ k) ∧ Drawn0 w w')
  case atStart => exact ⟨(0), (by first | rfl | (simp; done) | (simp [*]; done)), H', ⟨Nat.le_refl _⟩, by repeat (first | exact Drawn0.refl _ | apply Drawn0.step)⟩
  case round =>
   clear H'
   try clear c1
   try clear p2
   try clear c3
   try clear c3b0
   try clear c3b1
   try clear c3b2
   obtain ⟨x13_1, rfl, HA, HK1, ⟨m1, rfl⟩⟩ := hrel
   cases gk with
   | zero => exact absurd HA.out (by simp [api_Pair.l0])
   | succ k1 =>
    have H := HA.out
    clear HA
    simp only [api_Pair.l0] at H
    by_cases c4 : x13_1 < (l0.length : Int)
    ·rw [if_pos c4] at H
     have c4b0 : decide (x13_1 < (l0.length : Int)) = true := decide_eq_true c4
     clear c4
     by_cases c5 : 0 ≤ x13_1
     ·rw [if_pos c5] at H
      have c5b0 : decide (0 ≤ x13_1) = true := decide_eq_true c5
      clear c5
      by_cases c6 : x13_1 < (l0.length : Int)
      ·rw [if_pos c6] at H
       have c6b0 : decide (x13_1 < (l0.length : Int)) = true := decide_eq_true c6
       clear c6
       by_cases c7 : x13_1 < (l1.length : Int)
       ·rw [if_pos c7] at H
        have c7b0 : decide (x13_1 < (l1.length : Int)) = true := decide_eq_true c7
        clear c7
        by_cases c8 : (!((((rd_T34 l0 x13_1).f0).toList) == (((rd_T34 l1 x13_1).f0).toList)) || (!((((rd_T34 l0 x13_1).f1).toList) == (((rd_T34 l1 x13_1).f1).toList)))) = true
        ·rw [if_pos c8] at H
         have c8b0 : (!((((rd_T34 l0 x13_1).f0).toList) == (((rd_T34 l1 x13_1).f0).toList)) || (!((((rd_T34 l0 x13_1).f1).toList) == (((rd_T34 l1 x13_1).f1).toList)))) = true := c8
         clear c8
         obtain rfl := Option.some.inj H
         have p262 : 0 ≤ (x13_1 : Int) := of_decide_eq_true (by first | (with_reducible assumption) | assumption)
         have q262 : x13_1 < (l0.length : Int) := of_decide_eq_true (by first | (with_reducible assumption) | assumption)
         obtain ⟨ad262, e262, hx262_0, hx262_1⟩ := at_T34 HR0.out x13_1 p262 q262
         cases e262
         replace p262 := eq_true p262
         replace q262 := eq_true q262
         have p263 : 0 ≤ (x13_1 : Int) := of_decide_eq_true (by first | (with_reducible assumption) | assumption)
         have q263 : x13_1 < (l1.length : Int) := of_decide_eq_true (by first | (with_reducible assumption) | assumption)
         obtain ⟨ad263, e263, hx263_0, hx263_1⟩ := at_T34 HR1.out x13_1 p263 q263
         cases e263
         replace p263 := eq_true p263
         replace q263 := eq_true q263
         go_wp2
         repeat (go_quiet (fail); try go_wp2)
         go_ret
         exact ⟨by first | rfl | (simp; done) | (simp [*]; done), by repeat (first | exact Drawn0.refl _ | apply Drawn0.step)⟩
        ·rw [if_neg c8] at H
         have c8b0 : (!((((rd_T34 l0 x13_1).f0).toList) == (((rd_T34 l1 x13_1).f0).toList)) || (!((((rd_T34 l0 x13_1).f1).toList) == (((rd_T34 l1 x13_1).f1).toList)))) = false := by simpa using c8
         clear c8
         have H' := Aside0.mk H
         clear H
         have p262 : 0 ≤ (x13_1 : Int) := of_decide_eq_true (by first | (with_reducible assumption) | assumption)
         have q262 : x13_1 < (l0.length : Int) := of_decide_eq_true (by first | (with_reducible assumption) | assumption)
         obtain ⟨ad262, e262, hx262_0, hx262_1⟩ := at_T34 HR0.out x13_1 p262 q262
         cases e262
         replace p262 := eq_true p262
         replace q262 := eq_true q262
         have p263 : 0 ≤ (x13_1 : Int) := of_decide_eq_true (by first | (with_reducible assumption) | assumption)
         have q263 : x13_1 < (l1.length : Int) := of_decide_eq_true (by first | (with_reducible assumption) | assumption)
         obtain ⟨ad263, e263, hx263_0, hx263_1⟩ := at_T34 HR1.out x13_1 p263 q263
         cases e263
         replace p263 := eq_true p263
         replace q263 := eq_true q263
         go_wp2
         repeat (go_quiet (fail); try go_wp2)
         go_roundg k1
         case measure => have := HK1.out; omega
         case rel => exact ⟨(wrap64 (x13_1 + 1)), (by first | rfl | (simp; done) | (simp [*]; done)), H', ⟨by have := HK1.out; omega⟩, by repeat (first | exact Drawn0.refl _ | apply Drawn0.step)⟩
       ·rw [if_neg c7] at H
        exact absurd H (by simp)
      ·rw [if_neg c6] at H
       exact absurd H (by simp)
     ·rw [if_neg c5] at H
      exact absurd H (by simp)
    ·rw [if_neg c4] at H
     have c4b0 : decide (x13_1 < (l0.length : Int)) = false := decide_eq_false c4
     clear c4
     obtain rfl := Option.some.inj H
     go_wp2
     repeat (go_quiet (fail); try go_wp2)
     go_ret
     exact ⟨by first | rfl | (simp; done) | (simp [*]; done), by repeat (first | exact Drawn0.refl _ | apply Drawn0.step)⟩
 ·rw [if_neg c3] at H
  have c3b0 : ((l0.length : Int) == (l1.length : Int)) = false := beq_eq_false_iff_ne.mpr c3
  have c3b1 : ((l0.length : Int) != (l1.length : Int)) = true := bne_iff_ne.mpr c3
  have c3b2 : (l0.length == l1.length) = false := by first | simpa using c3 | (simp at c3 ⊢; omega)
  obtain rfl := Option.some.inj H
  go_enter Tryz.func19, Tryz.ntmps19
  go_wp2
  repeat (go_quiet (fail); try go_wp2)
  go_ret
  exact ⟨by first | rfl | (simp; done) | (simp [*]; done), by repeat (first | exact Drawn0.refl _ | apply Drawn0.step)⟩
def bytes_Equal.f (l0 : List Int) (l1 : List Int) : Option (Bool) := some ((strOfNums l0).toList == (strOfNums l1).toList)
set_option maxHeartbeats 8000000 in
set_option maxRecDepth 100000 in
theorem bytes_Equal.calls (A0 : Option Addr) (c0 : Nat) (l0 : List Int) (A1 : Option Addr) (c1 : Nat) (l1 : List Int) (r : Bool) (w : World) (hr0 : Kd.C (Kd.int .u8) w A0 l0.length l0) (hc0 : l0.length ≤ c0) (hr1 : Kd.C (Kd.int .u8) w A1 l1.length l1) (hc1 : l1.length ≤ c1) (h : bytes_Equal.f l0 l1 = some r) :
  Calls Tryz.prog 20 #[.slice A0 l0.length c0, .slice A1 l1.length c1] w fun e w' => e = .returned (.bool r) ∧ Drawn0 w w' := by
 have HR0 := Aside0.mk hr0
 have HC0 := Aside0.mk hc0
 clear hr0 hc0
 have HR1 := Aside0.mk hr1
 have HC1 := Aside0.mk hc1
 clear hr1 hc1
 have H : (some ((strOfNums l0).toList == (strOfNums l1).toList)) = some r := h
 clear h
 obtain rfl := Option.some.inj H
 have hcv3 := Kd.C_string (P := Tryz.prog) (A := A0) (c := c0) Tryz.underlying23 Tryz.underlying5 Tryz.underlying9 HR0.out
 have hcv4 := Kd.C_string (P := Tryz.prog) (A := A1) (c := c1) Tryz.underlying23 Tryz.underlying5 Tryz.underlying9 HR1.out
 go_enter Tryz.func20, Tryz.ntmps20
 go_wp2
 go_ret
 exact ⟨by first | rfl | (simp; done) | (simp [*]; done), by repeat (first | exact Drawn0.refl _ | apply Drawn0.step)⟩
end Go.Proofs.YtpfbemcoblganaaGreatDoor.Pall

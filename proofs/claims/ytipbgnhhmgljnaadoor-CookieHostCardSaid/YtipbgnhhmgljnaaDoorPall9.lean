-- Written by a program of this session: the kit's print with given contracts. Not trusted: Lean checks it.
import Derived.Test.YtipbgnhhmgljnaaDoorPall0
import Derived.Test.YtipbgnhhmgljnaaDoorPall8
namespace Go.Proofs.YtipbgnhhmgljnaaDoor.Pall
open Go.RowKit Go.Proofs.YtipbgnhhmgljnaaDoorW.PrintWords Go.Proofs.YtipbgnhhmgljnaaDoorW.PrintLast Go.Proofs.YtipbgnhhmgljnaaDoorW.PrintMore
attribute [local go_sem] max2_int min2_int max_two min_two max_three min_three max_four min_four   -- for this text's walks alone
set_option linter.unusedVariables false
set_option linter.unusedSimpArgs false

/-! ### wicketmanref11_Session: function 29 -/
mutual
def wicketmanref11_Session.l0 : Nat → List ByteArray → Int → ByteArray → Int → Option (ByteArray × Bool)
  | 0, _, _, _, _ => none
  | k + 1, x0, x4, x5, x6 => if x6 < (x0.length : Int) then (if 0 ≤ x6 then ((wicketmanref11_Parse.f k (rdOf ByteArray.empty x0 x6)).bind fun bt151 => (if bt151.2 = true then (wicketmanref11_Session.l1 k x0 x4 x5 x6 bt151.1 0) else (some ((⟨#[]⟩ : ByteArray), false)))) else (none)) else (if x4 > 1 then (some ((⟨#[]⟩ : ByteArray), false)) else (some (x5, true)))
def wicketmanref11_Session.l1 : Nat → List ByteArray → Int → ByteArray → Int → List (S38) → Int → Option (ByteArray × Bool)
  | 0, _, _, _, _, _, _ => none
  | k + 1, x0, x4, x5, x6, x7, x9 => if x9 < (x7.length : Int) then (if 0 ≤ x9 then (if ((rd_T38 x7 x9).f0).toList = ([95, 95, 72, 111, 115, 116, 45, 105, 100] : List UInt8) then (wicketmanref11_Session.l1 k x0 (wrap64 (x4 + 1)) ((rd_T38 x7 x9).f1) x6 x7 (wrap64 (x9 + 1))) else (wicketmanref11_Session.l1 k x0 x4 x5 x6 x7 (wrap64 (x9 + 1)))) else (none)) else (wicketmanref11_Session.l0 k x0 x4 x5 (wrap64 (x6 + 1)))
end
def wicketmanref11_Session.f (k : Nat) (l0 : List ByteArray) : Option (ByteArray × Bool) := wicketmanref11_Session.l0 k l0 0 (⟨#[]⟩ : ByteArray) 0
theorem wicketmanref11_Session.mono_l : ∀ k, (∀ y0 y1 y2 y3, LeO (wicketmanref11_Session.l0 k y0 y1 y2 y3) (wicketmanref11_Session.l0 (k + 1) y0 y1 y2 y3)) ∧ (∀ y0 y1 y2 y3 y4 y5, LeO (wicketmanref11_Session.l1 k y0 y1 y2 y3 y4 y5) (wicketmanref11_Session.l1 (k + 1) y0 y1 y2 y3 y4 y5))
  | 0 => ⟨fun _ _ _ _ r h => by simp [wicketmanref11_Session.l0] at h, fun _ _ _ _ _ _ r h => by simp [wicketmanref11_Session.l1] at h⟩
  | k + 1 => by
    obtain ⟨ih0, ih1⟩ := wicketmanref11_Session.mono_l k
    refine ⟨?_, ?_⟩
    · intro y0 y1 y2 y3
      unfold wicketmanref11_Session.l0
      repeat' first
      | (with_reducible exact ih0 _ _ _ _)
      | (with_reducible exact ih1 _ _ _ _ _ _)
      | (with_reducible exact wicketmanref11_Parse.mono _ _)
      | (with_reducible exact LeO.refl _)
      | (with_reducible exact LeO.none _)
      | (with_reducible refine LeO.ite ?_ ?_)
      | (with_reducible refine LeO.bind ?_ (fun _ => ?_))
      | exact ih0 _ _ _ _
      | exact ih1 _ _ _ _ _ _
      | exact wicketmanref11_Parse.mono _ _
      | exact LeO.none _
      | refine LeO.ite ?_ ?_
      | refine LeO.bind ?_ (fun _ => ?_)
    · intro y0 y1 y2 y3 y4 y5
      unfold wicketmanref11_Session.l1
      repeat' first
      | (with_reducible exact ih0 _ _ _ _)
      | (with_reducible exact ih1 _ _ _ _ _ _)
      | (with_reducible exact wicketmanref11_Parse.mono _ _)
      | (with_reducible exact LeO.refl _)
      | (with_reducible exact LeO.none _)
      | (with_reducible refine LeO.ite ?_ ?_)
      | (with_reducible refine LeO.bind ?_ (fun _ => ?_))
      | exact ih0 _ _ _ _
      | exact ih1 _ _ _ _ _ _
      | exact wicketmanref11_Parse.mono _ _
      | exact LeO.none _
      | refine LeO.ite ?_ ?_
      | refine LeO.bind ?_ (fun _ => ?_)
theorem wicketmanref11_Session.mono : ∀ a0 k, LeO (wicketmanref11_Session.f k a0) (wicketmanref11_Session.f (k + 1) a0) := by
  intro a0 k
  obtain ⟨ih0, ih1⟩ := wicketmanref11_Session.mono_l k
  unfold wicketmanref11_Session.f
  repeat' first
      | (with_reducible exact ih0 _ _ _ _)
      | (with_reducible exact ih1 _ _ _ _ _ _)
      | (with_reducible exact wicketmanref11_Parse.mono _ _)
      | (with_reducible exact LeO.refl _)
      | (with_reducible exact LeO.none _)
      | (with_reducible refine LeO.ite ?_ ?_)
      | (with_reducible refine LeO.bind ?_ (fun _ => ?_))
      | exact ih0 _ _ _ _
      | exact ih1 _ _ _ _ _ _
      | exact wicketmanref11_Parse.mono _ _
      | exact LeO.none _
      | refine LeO.ite ?_ ?_
      | refine LeO.bind ?_ (fun _ => ?_)
set_option maxHeartbeats 8000000 in
set_option maxRecDepth 100000 in
theorem wicketmanref11_Session.calls (k : Nat) (A0 : Option Addr) (c0 : Nat) (l0 : List ByteArray) (r1 : ByteArray) (r2 : Bool) (w : World) (hr0 : Kd.C Kd.string w A0 l0.length l0) (hc0 : l0.length ≤ c0) (h : wicketmanref11_Session.f k l0 = some (r1, r2)) :
    Calls Tryd.prog 29 #[.slice A0 l0.length c0] w fun e w' => e = .returned (.tuple #[.string r1, .bool r2]) ∧ Below w.heap.size w w' := by
  have HR0 := Aside0.mk hr0
  have HC0 := Aside0.mk hc0
  clear hr0 hc0
  have HB := Aside0.mk (Below.refl w.heap.size w)
  have H : (wicketmanref11_Session.l0 k l0 0 (⟨#[]⟩ : ByteArray) 0) = some (r1, r2) := h
  clear h
  have H' := Aside0.mk H
  clear H
  go_enter Tryd.func29, Tryd.ntmps29
  go_wp2
  go_loopg [4, 5, 6] k (fun kq v4 v5 v6 w' => ∃ (x4_1 : Int) (x5_1 : ByteArray) (x6_1 : Int), v4 = .int .i64 x4_1 ∧ v5 = .string x5_1 ∧ v6 = .int .i64 x6_1 ∧ Aside0 (wicketmanref11_Session.l0 kq l0 x4_1 x5_1 x6_1 = some (r1, r2)) ∧ Aside0 (kq ≤ k) ∧ Aside0 (Below w.heap.size w w'))
  case atStart => exact ⟨(0), ((⟨#[]⟩ : ByteArray)), (0), (by first | rfl | (simp; done) | (simp [*]; done)), (by first | rfl | (simp; done) | (simp [*]; done)), (by first | rfl | (simp; done) | (simp [*]; done)), H', ⟨Nat.le_refl _⟩, ⟨by repeat (first | (with_reducible first | exact HB.out | apply below_alloc | apply pw_below_drewN | apply below_drew1) | exact HB.out)⟩⟩
  case round =>
    clear H'
    obtain ⟨x4_1, x5_1, x6_1, rfl, rfl, rfl, HA, HK1, HB⟩ := hrel
    cases gk with
    | zero => exact absurd HA.out (by simp [wicketmanref11_Session.l0])
    | succ k1 =>
      have H := HA.out
      clear HA
      simp only [wicketmanref11_Session.l0] at H
      by_cases c2 : x6_1 < (l0.length : Int)
      · rw [if_pos c2] at H
        have c2b0 : decide (x6_1 < (l0.length : Int)) = true := decide_eq_true c2
        clear c2
        by_cases c3 : 0 ≤ x6_1
        · rw [if_pos c3] at H
          have c3b0 : decide (0 ≤ x6_1) = true := decide_eq_true c3
          clear c3
          replace H := Option.bind_eq_some_iff.mp H
          obtain ⟨⟨t151, t152⟩, A40, H⟩ := H
          replace H : (if t152 = true then (wicketmanref11_Session.l1 k1 l0 x4_1 x5_1 x6_1 t151 0) else (some ((⟨#[]⟩ : ByteArray), false))) = some (r1, r2) := H
          have A4 := Aside0.mk A40
          clear A40
          by_cases c5 : t152 = true
          · subst c5
            have H1 : (wicketmanref11_Session.l1 k1 l0 x4_1 x5_1 x6_1 t151 0) = some (r1, r2) := by rw [if_pos rfl] at H; exact H
            clear H
            have H := H1
            clear H1
            have H' := Aside0.mk H
            clear H
            have p150 : 0 ≤ (x6_1 : Int) := of_decide_eq_true (by first | (with_reducible assumption) | assumption)
            have q150 : x6_1 < (l0.length : Int) := of_decide_eq_true (by first | (with_reducible assumption) | assumption)
            obtain ⟨ad150, e150, hx150_0⟩ := Kd.at_string HR0.out x6_1 p150 q150
            cases e150
            replace hx150_0 := (HB.out.cell (World.block_lt_of_cell? w _ hx150_0)).trans hx150_0
            replace p150 := eq_true p150
            replace q150 := eq_true q150
            go_wp2_with (first | ((with_reducible refine gate_callee (f := 27) rfl ?_); refine goesL_ (some 21) rfl rfl Tryd.func27 (by kernel_rfl) rfl #[.string (rdOf ByteArray.empty l0 x6_1)] rfl (by (try simp only [List.map_toArray, List.map_cons, List.map_nil]); first | done | rfl | (simp only [List.length_drop, List.length_take]; rfl)) ?_; (with_reducible refine (wicketmanref11_Parse.calls k1 (rdOf ByteArray.empty l0 x6_1) t151 true _ A4.out).mono ?_); rintro e w6 ⟨v153, rfl, ho0, hb⟩; refine ⟨_, rfl, ?_⟩; have n0_ := Aside0.mk (Kd.R_lower ho0 (below_size (by repeat (first | (with_reducible first | exact HB.out | apply below_alloc | apply pw_below_drewN | apply below_drew1) | exact HB.out)))); have n1_ := Aside0.mk (below_step (by repeat (first | (with_reducible first | exact HB.out | apply below_alloc | apply pw_below_drewN | apply below_drew1) | exact HB.out)) hb); clear HB; have HO154 := n0_; have HB := n1_; clear n0_ n1_; (try clear hb); (try clear hb2); (try clear hk); (try clear hi); (try clear ho0)))
            go_loopg [4, 5, 9] k1 (fun kq v4 v5 v9 w' => ∃ (x4_2 : Int) (x5_2 : ByteArray) (x9_2 : Int), v4 = .int .i64 x4_2 ∧ v5 = .string x5_2 ∧ v9 = .int .i64 x9_2 ∧ Aside0 (wicketmanref11_Session.l1 kq l0 x4_2 x5_2 x6_1 t151 x9_2 = some (r1, r2)) ∧ Aside0 (kq ≤ k1) ∧ Aside0 (Kd.R k38 38 w' w.heap.size (fun _ => True) v153 t151) ∧ Aside0 (Below w.heap.size w w'))
            case atStart => exact ⟨(x4_1), (x5_1), (0), (by first | rfl | (simp; done) | (simp [*]; done)), (by first | rfl | (simp; done) | (simp [*]; done)), (by first | rfl | (simp; done) | (simp [*]; done)), H', ⟨Nat.le_refl _⟩, ⟨by (with_reducible repeat (first | apply Kd.R_alloc | apply Kd.R_drewN | apply Kd.R_drew)); exact HO154.out⟩, ⟨by repeat (first | (with_reducible first | exact HB.out | apply below_alloc | apply pw_below_drewN | apply below_drew1) | exact HB.out)⟩⟩
            case round =>
              clear H'
              try clear p1
              try clear q1
              try clear hx1
              try clear c2
              try clear c2b0
              try clear p2
              try clear c3
              try clear c3b0
              try clear c5
              try clear hx150_0
              try clear p150
              try clear q150
              obtain ⟨x4_2, x5_2, x9_2, rfl, rfl, rfl, HA, HK2, HO_7, HB⟩ := hrel
              cases gk with
              | zero => exact absurd HA.out (by simp [wicketmanref11_Session.l1])
              | succ k2 =>
                have H := HA.out
                clear HA
                simp only [wicketmanref11_Session.l1] at H
                by_cases c7 : x9_2 < (t151.length : Int)
                · rw [if_pos c7] at H
                  have c7b0 : decide (x9_2 < (t151.length : Int)) = true := decide_eq_true c7
                  clear c7
                  by_cases c8 : 0 ≤ x9_2
                  · rw [if_pos c8] at H
                    have c8b0 : decide (0 ≤ x9_2) = true := decide_eq_true c8
                    clear c8
                    by_cases c9 : ((rd_T38 t151 x9_2).f0).toList = ([95, 95, 72, 111, 115, 116, 45, 105, 100] : List UInt8)
                    · rw [if_pos c9] at H
                      have c9b0 : (((rd_T38 t151 x9_2).f0).toList == ([95, 95, 72, 111, 115, 116, 45, 105, 100] : List UInt8)) = true := beq_iff_eq.mpr c9
                      have c9b1 : (((rd_T38 t151 x9_2).f0).toList != ([95, 95, 72, 111, 115, 116, 45, 105, 100] : List UInt8)) = false := bne_eq_false_iff_eq.mpr c9
                      clear c9
                      have H' := Aside0.mk H
                      clear H
                      obtain ⟨Ao10, co10, eo10⟩ := Kd.R_slice HO_7.out
                      subst eo10
                      have p155 : 0 ≤ (x9_2 : Int) := of_decide_eq_true (by first | (with_reducible assumption) | assumption)
                      have q155 : x9_2 < (t151.length : Int) := of_decide_eq_true (by first | (with_reducible assumption) | assumption)
                      obtain ⟨ad155, e155, hx155_0, hx155_1⟩ := at_T38 (Kd.R_reads' HO_7.out).2.2 x9_2 p155 q155
                      cases e155
                      replace p155 := eq_true p155
                      replace q155 := eq_true q155
                      have p156 : 0 ≤ (x9_2 : Int) := of_decide_eq_true (by first | (with_reducible assumption) | assumption)
                      have q156 : x9_2 < (t151.length : Int) := of_decide_eq_true (by first | (with_reducible assumption) | assumption)
                      obtain ⟨ad156, e156, hx156_0, hx156_1⟩ := at_T38 (Kd.R_reads' HO_7.out).2.2 x9_2 p156 q156
                      obtain rfl : ad155 = ad156 := (by injection e156)
                      replace p156 := eq_true p156
                      replace q156 := eq_true q156
                      go_wp2
                      go_roundg k2
                      case measure => have := HK1.out; have := HK2.out; omega
                      case rel => exact ⟨(wrap64 (x4_2 + 1)), ((rd_T38 t151 x9_2).f1), (wrap64 (x9_2 + 1)), (by first | rfl | (simp; done) | (simp [*]; done)), (by first | rfl | (simp; done) | (simp [*]; done)), (by first | rfl | (simp; done) | (simp [*]; done)), H', ⟨by have := HK1.out; have := HK2.out; omega⟩, ⟨by (with_reducible repeat (first | apply Kd.R_alloc | apply Kd.R_drewN | apply Kd.R_drew)); exact HO_7.out⟩, ⟨by repeat (first | (with_reducible first | exact HB.out | apply below_alloc | apply pw_below_drewN | apply below_drew1) | exact HB.out)⟩⟩
                    · rw [if_neg c9] at H
                      have c9b0 : (((rd_T38 t151 x9_2).f0).toList == ([95, 95, 72, 111, 115, 116, 45, 105, 100] : List UInt8)) = false := beq_eq_false_iff_ne.mpr c9
                      have c9b1 : (((rd_T38 t151 x9_2).f0).toList != ([95, 95, 72, 111, 115, 116, 45, 105, 100] : List UInt8)) = true := bne_iff_ne.mpr c9
                      have H' := Aside0.mk H
                      clear H
                      obtain ⟨Ao11, co11, eo11⟩ := Kd.R_slice HO_7.out
                      subst eo11
                      have p155 : 0 ≤ (x9_2 : Int) := of_decide_eq_true (by first | (with_reducible assumption) | assumption)
                      have q155 : x9_2 < (t151.length : Int) := of_decide_eq_true (by first | (with_reducible assumption) | assumption)
                      obtain ⟨ad155, e155, hx155_0, hx155_1⟩ := at_T38 (Kd.R_reads' HO_7.out).2.2 x9_2 p155 q155
                      cases e155
                      replace p155 := eq_true p155
                      replace q155 := eq_true q155
                      go_wp2
                      go_roundg k2
                      case measure => have := HK1.out; have := HK2.out; omega
                      case rel => exact ⟨(x4_2), (x5_2), (wrap64 (x9_2 + 1)), (by first | rfl | (simp; done) | (simp [*]; done)), (by first | rfl | (simp; done) | (simp [*]; done)), (by first | rfl | (simp; done) | (simp [*]; done)), H', ⟨by have := HK1.out; have := HK2.out; omega⟩, ⟨by (with_reducible repeat (first | apply Kd.R_alloc | apply Kd.R_drewN | apply Kd.R_drew)); exact HO_7.out⟩, ⟨by repeat (first | (with_reducible first | exact HB.out | apply below_alloc | apply pw_below_drewN | apply below_drew1) | exact HB.out)⟩⟩
                  · rw [if_neg c8] at H
                    exact absurd H (by simp)
                · rw [if_neg c7] at H
                  have c7b0 : decide (x9_2 < (t151.length : Int)) = false := decide_eq_false c7
                  clear c7
                  have H' := Aside0.mk H
                  clear H
                  obtain ⟨Ao12, co12, eo12⟩ := Kd.R_slice HO_7.out
                  subst eo12
                  go_wp2
                  go_roundg k2
                  case measure => have := HK1.out; have := HK2.out; omega
                  case rel => exact ⟨(x4_2), (x5_2), (wrap64 (x6_1 + 1)), (by first | rfl | (simp; done) | (simp [*]; done)), (by first | rfl | (simp; done) | (simp [*]; done)), (by first | rfl | (simp; done) | (simp [*]; done)), H', ⟨by have := HK1.out; have := HK2.out; omega⟩, ⟨by repeat (first | (with_reducible first | exact HB.out | apply below_alloc | apply pw_below_drewN | apply below_drew1) | exact HB.out)⟩⟩
          · replace c5 := Bool.eq_false_iff.mpr c5
            subst c5
            have H1 : (some ((⟨#[]⟩ : ByteArray), false)) = some (r1, r2) := by rw [if_neg (show ¬ (false = true) by decide)] at H; exact H
            clear H
            have H := H1
            clear H1
            simp only [Option.some.injEq, Prod.mk.injEq] at H
            obtain ⟨rfl, rfl⟩ := H
            have p150 : 0 ≤ (x6_1 : Int) := of_decide_eq_true (by first | (with_reducible assumption) | assumption)
            have q150 : x6_1 < (l0.length : Int) := of_decide_eq_true (by first | (with_reducible assumption) | assumption)
            obtain ⟨ad150, e150, hx150_0⟩ := Kd.at_string HR0.out x6_1 p150 q150
            cases e150
            replace hx150_0 := (HB.out.cell (World.block_lt_of_cell? w _ hx150_0)).trans hx150_0
            replace p150 := eq_true p150
            replace q150 := eq_true q150
            go_wp2_with (first | ((with_reducible refine gate_callee (f := 27) rfl ?_); refine goesL_ (some 21) rfl rfl Tryd.func27 (by kernel_rfl) rfl #[.string (rdOf ByteArray.empty l0 x6_1)] rfl (by (try simp only [List.map_toArray, List.map_cons, List.map_nil]); first | done | rfl | (simp only [List.length_drop, List.length_take]; rfl)) ?_; (with_reducible refine (wicketmanref11_Parse.calls k1 (rdOf ByteArray.empty l0 x6_1) t151 false _ A4.out).mono ?_); rintro e w13 ⟨v153, rfl, ho0, hb⟩; refine ⟨_, rfl, ?_⟩; have n0_ := Aside0.mk (Kd.R_lower ho0 (below_size (by repeat (first | (with_reducible first | exact HB.out | apply below_alloc | apply pw_below_drewN | apply below_drew1) | exact HB.out)))); have n1_ := Aside0.mk (below_step (by repeat (first | (with_reducible first | exact HB.out | apply below_alloc | apply pw_below_drewN | apply below_drew1) | exact HB.out)) hb); clear HB; have HO154 := n0_; have HB := n1_; clear n0_ n1_; (try clear hb); (try clear hb2); (try clear hk); (try clear hi); (try clear ho0)))
            go_ret2
            exact ⟨by first | rfl | (simp [errW_none, errW_some] <;> rfl) | (simp [*, errW_none, errW_some] <;> rfl), by repeat (first | (with_reducible first | exact HB.out | apply below_alloc | apply pw_below_drewN | apply below_drew1) | exact HB.out)⟩
        · rw [if_neg c3] at H
          exact absurd H (by simp)
      · rw [if_neg c2] at H
        have c2b0 : decide (x6_1 < (l0.length : Int)) = false := decide_eq_false c2
        clear c2
        by_cases c14 : x4_1 > 1
        · rw [if_pos c14] at H
          have c14b0 : decide (1 < x4_1) = true := decide_eq_true c14
          clear c14
          simp only [Option.some.injEq, Prod.mk.injEq] at H
          obtain ⟨rfl, rfl⟩ := H
          go_wp2
          go_ret2
          exact ⟨by first | rfl | (simp [errW_none, errW_some] <;> rfl) | (simp [*, errW_none, errW_some] <;> rfl), by repeat (first | (with_reducible first | exact HB.out | apply below_alloc | apply pw_below_drewN | apply below_drew1) | exact HB.out)⟩
        · rw [if_neg c14] at H
          have c14b0 : decide (1 < x4_1) = false := decide_eq_false c14
          clear c14
          simp only [Option.some.injEq, Prod.mk.injEq] at H
          obtain ⟨rfl, rfl⟩ := H
          go_wp2
          go_ret2
          exact ⟨by first | rfl | (simp [errW_none, errW_some] <;> rfl) | (simp [*, errW_none, errW_some] <;> rfl), by repeat (first | (with_reducible first | exact HB.out | apply below_alloc | apply pw_below_drewN | apply below_drew1) | exact HB.out)⟩

-- NOT PRINTED: function 14 (wicketmanlaw11_session)

-- NOT PRINTED: function 3 (wicketmanlaw11_CookieParses)

/-! ### wicketmanlaw11_hex: function 15 -/
def wicketmanlaw11_hex.f (a0 : Int) : Option (ByteArray) := if 0 ≤ (a0 / 4096) then (if (a0 / 4096) ≤ (IntKind.u16.wrap ((a0 / 4096) + 1)) then (if (IntKind.u16.wrap ((a0 / 4096) + 1)) ≤ 16 then (if 0 ≤ (Go.bits .and .u16 (a0 / 256) 15) then (if (Go.bits .and .u16 (a0 / 256) 15) ≤ (IntKind.u16.wrap ((Go.bits .and .u16 (a0 / 256) 15) + 1)) then (if (IntKind.u16.wrap ((Go.bits .and .u16 (a0 / 256) 15) + 1)) ≤ 16 then (if ((⟨#[48, 49, 50, 51, 52, 53, 54, 55, 56, 57, 97, 98, 99, 100, 101, 102]⟩ : ByteArray).extract ((a0 / 4096) : Int).toNat ((IntKind.u16.wrap ((a0 / 4096) + 1)) : Int).toNat).size + ((⟨#[48, 49, 50, 51, 52, 53, 54, 55, 56, 57, 97, 98, 99, 100, 101, 102]⟩ : ByteArray).extract ((Go.bits .and .u16 (a0 / 256) 15) : Int).toNat ((IntKind.u16.wrap ((Go.bits .and .u16 (a0 / 256) 15) + 1)) : Int).toNat).size ≤ 9223372036854775807 then (if 0 ≤ (Go.bits .and .u16 (a0 / 16) 15) then (if (Go.bits .and .u16 (a0 / 16) 15) ≤ (IntKind.u16.wrap ((Go.bits .and .u16 (a0 / 16) 15) + 1)) then (if (IntKind.u16.wrap ((Go.bits .and .u16 (a0 / 16) 15) + 1)) ≤ 16 then (if (((⟨#[48, 49, 50, 51, 52, 53, 54, 55, 56, 57, 97, 98, 99, 100, 101, 102]⟩ : ByteArray).extract ((a0 / 4096) : Int).toNat ((IntKind.u16.wrap ((a0 / 4096) + 1)) : Int).toNat) ++ ((⟨#[48, 49, 50, 51, 52, 53, 54, 55, 56, 57, 97, 98, 99, 100, 101, 102]⟩ : ByteArray).extract ((Go.bits .and .u16 (a0 / 256) 15) : Int).toNat ((IntKind.u16.wrap ((Go.bits .and .u16 (a0 / 256) 15) + 1)) : Int).toNat)).size + ((⟨#[48, 49, 50, 51, 52, 53, 54, 55, 56, 57, 97, 98, 99, 100, 101, 102]⟩ : ByteArray).extract ((Go.bits .and .u16 (a0 / 16) 15) : Int).toNat ((IntKind.u16.wrap ((Go.bits .and .u16 (a0 / 16) 15) + 1)) : Int).toNat).size ≤ 9223372036854775807 then (if 0 ≤ (Go.bits .and .u16 a0 15) then (if (Go.bits .and .u16 a0 15) ≤ (IntKind.u16.wrap ((Go.bits .and .u16 a0 15) + 1)) then (if (IntKind.u16.wrap ((Go.bits .and .u16 a0 15) + 1)) ≤ 16 then (if ((((⟨#[48, 49, 50, 51, 52, 53, 54, 55, 56, 57, 97, 98, 99, 100, 101, 102]⟩ : ByteArray).extract ((a0 / 4096) : Int).toNat ((IntKind.u16.wrap ((a0 / 4096) + 1)) : Int).toNat) ++ ((⟨#[48, 49, 50, 51, 52, 53, 54, 55, 56, 57, 97, 98, 99, 100, 101, 102]⟩ : ByteArray).extract ((Go.bits .and .u16 (a0 / 256) 15) : Int).toNat ((IntKind.u16.wrap ((Go.bits .and .u16 (a0 / 256) 15) + 1)) : Int).toNat)) ++ ((⟨#[48, 49, 50, 51, 52, 53, 54, 55, 56, 57, 97, 98, 99, 100, 101, 102]⟩ : ByteArray).extract ((Go.bits .and .u16 (a0 / 16) 15) : Int).toNat ((IntKind.u16.wrap ((Go.bits .and .u16 (a0 / 16) 15) + 1)) : Int).toNat)).size + ((⟨#[48, 49, 50, 51, 52, 53, 54, 55, 56, 57, 97, 98, 99, 100, 101, 102]⟩ : ByteArray).extract ((Go.bits .and .u16 a0 15) : Int).toNat ((IntKind.u16.wrap ((Go.bits .and .u16 a0 15) + 1)) : Int).toNat).size ≤ 9223372036854775807 then (some (((((⟨#[48, 49, 50, 51, 52, 53, 54, 55, 56, 57, 97, 98, 99, 100, 101, 102]⟩ : ByteArray).extract ((a0 / 4096) : Int).toNat ((IntKind.u16.wrap ((a0 / 4096) + 1)) : Int).toNat) ++ ((⟨#[48, 49, 50, 51, 52, 53, 54, 55, 56, 57, 97, 98, 99, 100, 101, 102]⟩ : ByteArray).extract ((Go.bits .and .u16 (a0 / 256) 15) : Int).toNat ((IntKind.u16.wrap ((Go.bits .and .u16 (a0 / 256) 15) + 1)) : Int).toNat)) ++ ((⟨#[48, 49, 50, 51, 52, 53, 54, 55, 56, 57, 97, 98, 99, 100, 101, 102]⟩ : ByteArray).extract ((Go.bits .and .u16 (a0 / 16) 15) : Int).toNat ((IntKind.u16.wrap ((Go.bits .and .u16 (a0 / 16) 15) + 1)) : Int).toNat)) ++ ((⟨#[48, 49, 50, 51, 52, 53, 54, 55, 56, 57, 97, 98, 99, 100, 101, 102]⟩ : ByteArray).extract ((Go.bits .and .u16 a0 15) : Int).toNat ((IntKind.u16.wrap ((Go.bits .and .u16 a0 15) + 1)) : Int).toNat))) else (none)) else (none)) else (none)) else (none)) else (none)) else (none)) else (none)) else (none)) else (none)) else (none)) else (none)) else (none)) else (none)) else (none)) else (none)
set_option maxHeartbeats 8000000 in
set_option maxRecDepth 100000 in
theorem wicketmanlaw11_hex.calls (a0 : Int) (r : ByteArray) (w : World) (h : wicketmanlaw11_hex.f a0 = some r) :
    Calls Tryd.prog 15 #[.int .u16 a0] w fun e w' => e = .returned (.string r) ∧ Drawn0 w w' := by
  have H : (if 0 ≤ (a0 / 4096) then (if (a0 / 4096) ≤ (IntKind.u16.wrap ((a0 / 4096) + 1)) then (if (IntKind.u16.wrap ((a0 / 4096) + 1)) ≤ 16 then (if 0 ≤ (Go.bits .and .u16 (a0 / 256) 15) then (if (Go.bits .and .u16 (a0 / 256) 15) ≤ (IntKind.u16.wrap ((Go.bits .and .u16 (a0 / 256) 15) + 1)) then (if (IntKind.u16.wrap ((Go.bits .and .u16 (a0 / 256) 15) + 1)) ≤ 16 then (if ((⟨#[48, 49, 50, 51, 52, 53, 54, 55, 56, 57, 97, 98, 99, 100, 101, 102]⟩ : ByteArray).extract ((a0 / 4096) : Int).toNat ((IntKind.u16.wrap ((a0 / 4096) + 1)) : Int).toNat).size + ((⟨#[48, 49, 50, 51, 52, 53, 54, 55, 56, 57, 97, 98, 99, 100, 101, 102]⟩ : ByteArray).extract ((Go.bits .and .u16 (a0 / 256) 15) : Int).toNat ((IntKind.u16.wrap ((Go.bits .and .u16 (a0 / 256) 15) + 1)) : Int).toNat).size ≤ 9223372036854775807 then (if 0 ≤ (Go.bits .and .u16 (a0 / 16) 15) then (if (Go.bits .and .u16 (a0 / 16) 15) ≤ (IntKind.u16.wrap ((Go.bits .and .u16 (a0 / 16) 15) + 1)) then (if (IntKind.u16.wrap ((Go.bits .and .u16 (a0 / 16) 15) + 1)) ≤ 16 then (if (((⟨#[48, 49, 50, 51, 52, 53, 54, 55, 56, 57, 97, 98, 99, 100, 101, 102]⟩ : ByteArray).extract ((a0 / 4096) : Int).toNat ((IntKind.u16.wrap ((a0 / 4096) + 1)) : Int).toNat) ++ ((⟨#[48, 49, 50, 51, 52, 53, 54, 55, 56, 57, 97, 98, 99, 100, 101, 102]⟩ : ByteArray).extract ((Go.bits .and .u16 (a0 / 256) 15) : Int).toNat ((IntKind.u16.wrap ((Go.bits .and .u16 (a0 / 256) 15) + 1)) : Int).toNat)).size + ((⟨#[48, 49, 50, 51, 52, 53, 54, 55, 56, 57, 97, 98, 99, 100, 101, 102]⟩ : ByteArray).extract ((Go.bits .and .u16 (a0 / 16) 15) : Int).toNat ((IntKind.u16.wrap ((Go.bits .and .u16 (a0 / 16) 15) + 1)) : Int).toNat).size ≤ 9223372036854775807 then (if 0 ≤ (Go.bits .and .u16 a0 15) then (if (Go.bits .and .u16 a0 15) ≤ (IntKind.u16.wrap ((Go.bits .and .u16 a0 15) + 1)) then (if (IntKind.u16.wrap ((Go.bits .and .u16 a0 15) + 1)) ≤ 16 then (if ((((⟨#[48, 49, 50, 51, 52, 53, 54, 55, 56, 57, 97, 98, 99, 100, 101, 102]⟩ : ByteArray).extract ((a0 / 4096) : Int).toNat ((IntKind.u16.wrap ((a0 / 4096) + 1)) : Int).toNat) ++ ((⟨#[48, 49, 50, 51, 52, 53, 54, 55, 56, 57, 97, 98, 99, 100, 101, 102]⟩ : ByteArray).extract ((Go.bits .and .u16 (a0 / 256) 15) : Int).toNat ((IntKind.u16.wrap ((Go.bits .and .u16 (a0 / 256) 15) + 1)) : Int).toNat)) ++ ((⟨#[48, 49, 50, 51, 52, 53, 54, 55, 56, 57, 97, 98, 99, 100, 101, 102]⟩ : ByteArray).extract ((Go.bits .and .u16 (a0 / 16) 15) : Int).toNat ((IntKind.u16.wrap ((Go.bits .and .u16 (a0 / 16) 15) + 1)) : Int).toNat)).size + ((⟨#[48, 49, 50, 51, 52, 53, 54, 55, 56, 57, 97, 98, 99, 100, 101, 102]⟩ : ByteArray).extract ((Go.bits .and .u16 a0 15) : Int).toNat ((IntKind.u16.wrap ((Go.bits .and .u16 a0 15) + 1)) : Int).toNat).size ≤ 9223372036854775807 then (some (((((⟨#[48, 49, 50, 51, 52, 53, 54, 55, 56, 57, 97, 98, 99, 100, 101, 102]⟩ : ByteArray).extract ((a0 / 4096) : Int).toNat ((IntKind.u16.wrap ((a0 / 4096) + 1)) : Int).toNat) ++ ((⟨#[48, 49, 50, 51, 52, 53, 54, 55, 56, 57, 97, 98, 99, 100, 101, 102]⟩ : ByteArray).extract ((Go.bits .and .u16 (a0 / 256) 15) : Int).toNat ((IntKind.u16.wrap ((Go.bits .and .u16 (a0 / 256) 15) + 1)) : Int).toNat)) ++ ((⟨#[48, 49, 50, 51, 52, 53, 54, 55, 56, 57, 97, 98, 99, 100, 101, 102]⟩ : ByteArray).extract ((Go.bits .and .u16 (a0 / 16) 15) : Int).toNat ((IntKind.u16.wrap ((Go.bits .and .u16 (a0 / 16) 15) + 1)) : Int).toNat)) ++ ((⟨#[48, 49, 50, 51, 52, 53, 54, 55, 56, 57, 97, 98, 99, 100, 101, 102]⟩ : ByteArray).extract ((Go.bits .and .u16 a0 15) : Int).toNat ((IntKind.u16.wrap ((Go.bits .and .u16 a0 15) + 1)) : Int).toNat))) else (none)) else (none)) else (none)) else (none)) else (none)) else (none)) else (none)) else (none)) else (none)) else (none)) else (none)) else (none)) else (none)) else (none)) else (none)) = some r := h
  clear h
  obtain ⟨ji2, hji2⟩ : ∃ j_ : Int, (a0 / 4096) = j_ := ⟨_, rfl⟩
  replace H : (if 0 ≤ (ji2) then (if (ji2) ≤ (IntKind.u16.wrap ((ji2) + 1)) then (if (IntKind.u16.wrap ((ji2) + 1)) ≤ 16 then (if 0 ≤ (Go.bits .and .u16 (a0 / 256) 15) then (if (Go.bits .and .u16 (a0 / 256) 15) ≤ (IntKind.u16.wrap ((Go.bits .and .u16 (a0 / 256) 15) + 1)) then (if (IntKind.u16.wrap ((Go.bits .and .u16 (a0 / 256) 15) + 1)) ≤ 16 then (if ((⟨#[48, 49, 50, 51, 52, 53, 54, 55, 56, 57, 97, 98, 99, 100, 101, 102]⟩ : ByteArray).extract ((ji2) : Int).toNat ((IntKind.u16.wrap ((ji2) + 1)) : Int).toNat).size + ((⟨#[48, 49, 50, 51, 52, 53, 54, 55, 56, 57, 97, 98, 99, 100, 101, 102]⟩ : ByteArray).extract ((Go.bits .and .u16 (a0 / 256) 15) : Int).toNat ((IntKind.u16.wrap ((Go.bits .and .u16 (a0 / 256) 15) + 1)) : Int).toNat).size ≤ 9223372036854775807 then (if 0 ≤ (Go.bits .and .u16 (a0 / 16) 15) then (if (Go.bits .and .u16 (a0 / 16) 15) ≤ (IntKind.u16.wrap ((Go.bits .and .u16 (a0 / 16) 15) + 1)) then (if (IntKind.u16.wrap ((Go.bits .and .u16 (a0 / 16) 15) + 1)) ≤ 16 then (if (((⟨#[48, 49, 50, 51, 52, 53, 54, 55, 56, 57, 97, 98, 99, 100, 101, 102]⟩ : ByteArray).extract ((ji2) : Int).toNat ((IntKind.u16.wrap ((ji2) + 1)) : Int).toNat) ++ ((⟨#[48, 49, 50, 51, 52, 53, 54, 55, 56, 57, 97, 98, 99, 100, 101, 102]⟩ : ByteArray).extract ((Go.bits .and .u16 (a0 / 256) 15) : Int).toNat ((IntKind.u16.wrap ((Go.bits .and .u16 (a0 / 256) 15) + 1)) : Int).toNat)).size + ((⟨#[48, 49, 50, 51, 52, 53, 54, 55, 56, 57, 97, 98, 99, 100, 101, 102]⟩ : ByteArray).extract ((Go.bits .and .u16 (a0 / 16) 15) : Int).toNat ((IntKind.u16.wrap ((Go.bits .and .u16 (a0 / 16) 15) + 1)) : Int).toNat).size ≤ 9223372036854775807 then (if 0 ≤ (Go.bits .and .u16 a0 15) then (if (Go.bits .and .u16 a0 15) ≤ (IntKind.u16.wrap ((Go.bits .and .u16 a0 15) + 1)) then (if (IntKind.u16.wrap ((Go.bits .and .u16 a0 15) + 1)) ≤ 16 then (if ((((⟨#[48, 49, 50, 51, 52, 53, 54, 55, 56, 57, 97, 98, 99, 100, 101, 102]⟩ : ByteArray).extract ((ji2) : Int).toNat ((IntKind.u16.wrap ((ji2) + 1)) : Int).toNat) ++ ((⟨#[48, 49, 50, 51, 52, 53, 54, 55, 56, 57, 97, 98, 99, 100, 101, 102]⟩ : ByteArray).extract ((Go.bits .and .u16 (a0 / 256) 15) : Int).toNat ((IntKind.u16.wrap ((Go.bits .and .u16 (a0 / 256) 15) + 1)) : Int).toNat)) ++ ((⟨#[48, 49, 50, 51, 52, 53, 54, 55, 56, 57, 97, 98, 99, 100, 101, 102]⟩ : ByteArray).extract ((Go.bits .and .u16 (a0 / 16) 15) : Int).toNat ((IntKind.u16.wrap ((Go.bits .and .u16 (a0 / 16) 15) + 1)) : Int).toNat)).size + ((⟨#[48, 49, 50, 51, 52, 53, 54, 55, 56, 57, 97, 98, 99, 100, 101, 102]⟩ : ByteArray).extract ((Go.bits .and .u16 a0 15) : Int).toNat ((IntKind.u16.wrap ((Go.bits .and .u16 a0 15) + 1)) : Int).toNat).size ≤ 9223372036854775807 then (some (((((⟨#[48, 49, 50, 51, 52, 53, 54, 55, 56, 57, 97, 98, 99, 100, 101, 102]⟩ : ByteArray).extract ((ji2) : Int).toNat ((IntKind.u16.wrap ((ji2) + 1)) : Int).toNat) ++ ((⟨#[48, 49, 50, 51, 52, 53, 54, 55, 56, 57, 97, 98, 99, 100, 101, 102]⟩ : ByteArray).extract ((Go.bits .and .u16 (a0 / 256) 15) : Int).toNat ((IntKind.u16.wrap ((Go.bits .and .u16 (a0 / 256) 15) + 1)) : Int).toNat)) ++ ((⟨#[48, 49, 50, 51, 52, 53, 54, 55, 56, 57, 97, 98, 99, 100, 101, 102]⟩ : ByteArray).extract ((Go.bits .and .u16 (a0 / 16) 15) : Int).toNat ((IntKind.u16.wrap ((Go.bits .and .u16 (a0 / 16) 15) + 1)) : Int).toNat)) ++ ((⟨#[48, 49, 50, 51, 52, 53, 54, 55, 56, 57, 97, 98, 99, 100, 101, 102]⟩ : ByteArray).extract ((Go.bits .and .u16 a0 15) : Int).toNat ((IntKind.u16.wrap ((Go.bits .and .u16 a0 15) + 1)) : Int).toNat))) else (none)) else (none)) else (none)) else (none)) else (none)) else (none)) else (none)) else (none)) else (none)) else (none)) else (none)) else (none)) else (none)) else (none)) else (none)) = some r := by first | (rw [hji2] at H; exact H) | (simp only [hji2] at H ⊢; exact H)
  by_cases c3 : 0 ≤ (ji2)
  · rw [if_pos c3] at H
    have c3b0 := eq_true c3
    have c3b1 : decide (0 ≤ (ji2)) = true := decide_eq_true c3
    clear c3
    by_cases c4 : (ji2) ≤ (IntKind.u16.wrap ((ji2) + 1))
    · rw [if_pos c4] at H
      have c4b0 := eq_true c4
      have c4b1 : decide ((ji2) ≤ (IntKind.u16.wrap ((ji2) + 1))) = true := decide_eq_true c4
      by_cases c5 : (IntKind.u16.wrap ((ji2) + 1)) ≤ 16
      · rw [if_pos c5] at H
        have c5b0 := eq_true c5
        have c5b1 : decide ((IntKind.u16.wrap ((ji2) + 1)) ≤ 16) = true := decide_eq_true c5
        obtain ⟨ji6, hji6⟩ : ∃ j_ : Int, (Go.bits .and .u16 (a0 / 256) 15) = j_ := ⟨_, rfl⟩
        replace H : (if 0 ≤ (ji6) then (if (ji6) ≤ (IntKind.u16.wrap ((ji6) + 1)) then (if (IntKind.u16.wrap ((ji6) + 1)) ≤ 16 then (if ((⟨#[48, 49, 50, 51, 52, 53, 54, 55, 56, 57, 97, 98, 99, 100, 101, 102]⟩ : ByteArray).extract ((ji2) : Int).toNat ((IntKind.u16.wrap ((ji2) + 1)) : Int).toNat).size + ((⟨#[48, 49, 50, 51, 52, 53, 54, 55, 56, 57, 97, 98, 99, 100, 101, 102]⟩ : ByteArray).extract ((ji6) : Int).toNat ((IntKind.u16.wrap ((ji6) + 1)) : Int).toNat).size ≤ 9223372036854775807 then (if 0 ≤ (Go.bits .and .u16 (a0 / 16) 15) then (if (Go.bits .and .u16 (a0 / 16) 15) ≤ (IntKind.u16.wrap ((Go.bits .and .u16 (a0 / 16) 15) + 1)) then (if (IntKind.u16.wrap ((Go.bits .and .u16 (a0 / 16) 15) + 1)) ≤ 16 then (if (((⟨#[48, 49, 50, 51, 52, 53, 54, 55, 56, 57, 97, 98, 99, 100, 101, 102]⟩ : ByteArray).extract ((ji2) : Int).toNat ((IntKind.u16.wrap ((ji2) + 1)) : Int).toNat) ++ ((⟨#[48, 49, 50, 51, 52, 53, 54, 55, 56, 57, 97, 98, 99, 100, 101, 102]⟩ : ByteArray).extract ((ji6) : Int).toNat ((IntKind.u16.wrap ((ji6) + 1)) : Int).toNat)).size + ((⟨#[48, 49, 50, 51, 52, 53, 54, 55, 56, 57, 97, 98, 99, 100, 101, 102]⟩ : ByteArray).extract ((Go.bits .and .u16 (a0 / 16) 15) : Int).toNat ((IntKind.u16.wrap ((Go.bits .and .u16 (a0 / 16) 15) + 1)) : Int).toNat).size ≤ 9223372036854775807 then (if 0 ≤ (Go.bits .and .u16 a0 15) then (if (Go.bits .and .u16 a0 15) ≤ (IntKind.u16.wrap ((Go.bits .and .u16 a0 15) + 1)) then (if (IntKind.u16.wrap ((Go.bits .and .u16 a0 15) + 1)) ≤ 16 then (if ((((⟨#[48, 49, 50, 51, 52, 53, 54, 55, 56, 57, 97, 98, 99, 100, 101, 102]⟩ : ByteArray).extract ((ji2) : Int).toNat ((IntKind.u16.wrap ((ji2) + 1)) : Int).toNat) ++ ((⟨#[48, 49, 50, 51, 52, 53, 54, 55, 56, 57, 97, 98, 99, 100, 101, 102]⟩ : ByteArray).extract ((ji6) : Int).toNat ((IntKind.u16.wrap ((ji6) + 1)) : Int).toNat)) ++ ((⟨#[48, 49, 50, 51, 52, 53, 54, 55, 56, 57, 97, 98, 99, 100, 101, 102]⟩ : ByteArray).extract ((Go.bits .and .u16 (a0 / 16) 15) : Int).toNat ((IntKind.u16.wrap ((Go.bits .and .u16 (a0 / 16) 15) + 1)) : Int).toNat)).size + ((⟨#[48, 49, 50, 51, 52, 53, 54, 55, 56, 57, 97, 98, 99, 100, 101, 102]⟩ : ByteArray).extract ((Go.bits .and .u16 a0 15) : Int).toNat ((IntKind.u16.wrap ((Go.bits .and .u16 a0 15) + 1)) : Int).toNat).size ≤ 9223372036854775807 then (some (((((⟨#[48, 49, 50, 51, 52, 53, 54, 55, 56, 57, 97, 98, 99, 100, 101, 102]⟩ : ByteArray).extract ((ji2) : Int).toNat ((IntKind.u16.wrap ((ji2) + 1)) : Int).toNat) ++ ((⟨#[48, 49, 50, 51, 52, 53, 54, 55, 56, 57, 97, 98, 99, 100, 101, 102]⟩ : ByteArray).extract ((ji6) : Int).toNat ((IntKind.u16.wrap ((ji6) + 1)) : Int).toNat)) ++ ((⟨#[48, 49, 50, 51, 52, 53, 54, 55, 56, 57, 97, 98, 99, 100, 101, 102]⟩ : ByteArray).extract ((Go.bits .and .u16 (a0 / 16) 15) : Int).toNat ((IntKind.u16.wrap ((Go.bits .and .u16 (a0 / 16) 15) + 1)) : Int).toNat)) ++ ((⟨#[48, 49, 50, 51, 52, 53, 54, 55, 56, 57, 97, 98, 99, 100, 101, 102]⟩ : ByteArray).extract ((Go.bits .and .u16 a0 15) : Int).toNat ((IntKind.u16.wrap ((Go.bits .and .u16 a0 15) + 1)) : Int).toNat))) else (none)) else (none)) else (none)) else (none)) else (none)) else (none)) else (none)) else (none)) else (none)) else (none)) else (none)) else (none)) = some r := by first | (rw [hji6] at H; exact H) | (simp only [hji6] at H ⊢; exact H)
        by_cases c7 : 0 ≤ (ji6)
        · rw [if_pos c7] at H
          have c7b0 := eq_true c7
          have c7b1 : decide (0 ≤ (ji6)) = true := decide_eq_true c7
          clear c7
          by_cases c8 : (ji6) ≤ (IntKind.u16.wrap ((ji6) + 1))
          · rw [if_pos c8] at H
            have c8b0 := eq_true c8
            have c8b1 : decide ((ji6) ≤ (IntKind.u16.wrap ((ji6) + 1))) = true := decide_eq_true c8
            by_cases c9 : (IntKind.u16.wrap ((ji6) + 1)) ≤ 16
            · rw [if_pos c9] at H
              have c9b0 := eq_true c9
              have c9b1 : decide ((IntKind.u16.wrap ((ji6) + 1)) ≤ 16) = true := decide_eq_true c9
              by_cases c10 : ((⟨#[48, 49, 50, 51, 52, 53, 54, 55, 56, 57, 97, 98, 99, 100, 101, 102]⟩ : ByteArray).extract ((ji2) : Int).toNat ((IntKind.u16.wrap ((ji2) + 1)) : Int).toNat).size + ((⟨#[48, 49, 50, 51, 52, 53, 54, 55, 56, 57, 97, 98, 99, 100, 101, 102]⟩ : ByteArray).extract ((ji6) : Int).toNat ((IntKind.u16.wrap ((ji6) + 1)) : Int).toNat).size ≤ 9223372036854775807
              · rw [if_pos c10] at H
                have c10b0 := eq_true c10
                have c10b1 : decide (((⟨#[48, 49, 50, 51, 52, 53, 54, 55, 56, 57, 97, 98, 99, 100, 101, 102]⟩ : ByteArray).extract ((ji2) : Int).toNat ((IntKind.u16.wrap ((ji2) + 1)) : Int).toNat).size + ((⟨#[48, 49, 50, 51, 52, 53, 54, 55, 56, 57, 97, 98, 99, 100, 101, 102]⟩ : ByteArray).extract ((ji6) : Int).toNat ((IntKind.u16.wrap ((ji6) + 1)) : Int).toNat).size ≤ 9223372036854775807) = true := decide_eq_true c10
                try have c10b2 : (9223372036854775807 < ((⟨#[48, 49, 50, 51, 52, 53, 54, 55, 56, 57, 97, 98, 99, 100, 101, 102]⟩ : ByteArray).extract ((ji2) : Int).toNat ((IntKind.u16.wrap ((ji2) + 1)) : Int).toNat).size + ((⟨#[48, 49, 50, 51, 52, 53, 54, 55, 56, 57, 97, 98, 99, 100, 101, 102]⟩ : ByteArray).extract ((ji6) : Int).toNat ((IntKind.u16.wrap ((ji6) + 1)) : Int).toNat).size) = False := eq_false (Nat.not_lt.2 c10)
                obtain ⟨ji11, hji11⟩ : ∃ j_ : Int, (Go.bits .and .u16 (a0 / 16) 15) = j_ := ⟨_, rfl⟩
                replace H : (if 0 ≤ (ji11) then (if (ji11) ≤ (IntKind.u16.wrap ((ji11) + 1)) then (if (IntKind.u16.wrap ((ji11) + 1)) ≤ 16 then (if (((⟨#[48, 49, 50, 51, 52, 53, 54, 55, 56, 57, 97, 98, 99, 100, 101, 102]⟩ : ByteArray).extract ((ji2) : Int).toNat ((IntKind.u16.wrap ((ji2) + 1)) : Int).toNat) ++ ((⟨#[48, 49, 50, 51, 52, 53, 54, 55, 56, 57, 97, 98, 99, 100, 101, 102]⟩ : ByteArray).extract ((ji6) : Int).toNat ((IntKind.u16.wrap ((ji6) + 1)) : Int).toNat)).size + ((⟨#[48, 49, 50, 51, 52, 53, 54, 55, 56, 57, 97, 98, 99, 100, 101, 102]⟩ : ByteArray).extract ((ji11) : Int).toNat ((IntKind.u16.wrap ((ji11) + 1)) : Int).toNat).size ≤ 9223372036854775807 then (if 0 ≤ (Go.bits .and .u16 a0 15) then (if (Go.bits .and .u16 a0 15) ≤ (IntKind.u16.wrap ((Go.bits .and .u16 a0 15) + 1)) then (if (IntKind.u16.wrap ((Go.bits .and .u16 a0 15) + 1)) ≤ 16 then (if ((((⟨#[48, 49, 50, 51, 52, 53, 54, 55, 56, 57, 97, 98, 99, 100, 101, 102]⟩ : ByteArray).extract ((ji2) : Int).toNat ((IntKind.u16.wrap ((ji2) + 1)) : Int).toNat) ++ ((⟨#[48, 49, 50, 51, 52, 53, 54, 55, 56, 57, 97, 98, 99, 100, 101, 102]⟩ : ByteArray).extract ((ji6) : Int).toNat ((IntKind.u16.wrap ((ji6) + 1)) : Int).toNat)) ++ ((⟨#[48, 49, 50, 51, 52, 53, 54, 55, 56, 57, 97, 98, 99, 100, 101, 102]⟩ : ByteArray).extract ((ji11) : Int).toNat ((IntKind.u16.wrap ((ji11) + 1)) : Int).toNat)).size + ((⟨#[48, 49, 50, 51, 52, 53, 54, 55, 56, 57, 97, 98, 99, 100, 101, 102]⟩ : ByteArray).extract ((Go.bits .and .u16 a0 15) : Int).toNat ((IntKind.u16.wrap ((Go.bits .and .u16 a0 15) + 1)) : Int).toNat).size ≤ 9223372036854775807 then (some (((((⟨#[48, 49, 50, 51, 52, 53, 54, 55, 56, 57, 97, 98, 99, 100, 101, 102]⟩ : ByteArray).extract ((ji2) : Int).toNat ((IntKind.u16.wrap ((ji2) + 1)) : Int).toNat) ++ ((⟨#[48, 49, 50, 51, 52, 53, 54, 55, 56, 57, 97, 98, 99, 100, 101, 102]⟩ : ByteArray).extract ((ji6) : Int).toNat ((IntKind.u16.wrap ((ji6) + 1)) : Int).toNat)) ++ ((⟨#[48, 49, 50, 51, 52, 53, 54, 55, 56, 57, 97, 98, 99, 100, 101, 102]⟩ : ByteArray).extract ((ji11) : Int).toNat ((IntKind.u16.wrap ((ji11) + 1)) : Int).toNat)) ++ ((⟨#[48, 49, 50, 51, 52, 53, 54, 55, 56, 57, 97, 98, 99, 100, 101, 102]⟩ : ByteArray).extract ((Go.bits .and .u16 a0 15) : Int).toNat ((IntKind.u16.wrap ((Go.bits .and .u16 a0 15) + 1)) : Int).toNat))) else (none)) else (none)) else (none)) else (none)) else (none)) else (none)) else (none)) else (none)) = some r := by first | (rw [hji11] at H; exact H) | (simp only [hji11] at H ⊢; exact H)
                by_cases c12 : 0 ≤ (ji11)
                · rw [if_pos c12] at H
                  have c12b0 := eq_true c12
                  have c12b1 : decide (0 ≤ (ji11)) = true := decide_eq_true c12
                  clear c12
                  by_cases c13 : (ji11) ≤ (IntKind.u16.wrap ((ji11) + 1))
                  · rw [if_pos c13] at H
                    have c13b0 := eq_true c13
                    have c13b1 : decide ((ji11) ≤ (IntKind.u16.wrap ((ji11) + 1))) = true := decide_eq_true c13
                    by_cases c14 : (IntKind.u16.wrap ((ji11) + 1)) ≤ 16
                    · rw [if_pos c14] at H
                      have c14b0 := eq_true c14
                      have c14b1 : decide ((IntKind.u16.wrap ((ji11) + 1)) ≤ 16) = true := decide_eq_true c14
                      by_cases c15 : (((⟨#[48, 49, 50, 51, 52, 53, 54, 55, 56, 57, 97, 98, 99, 100, 101, 102]⟩ : ByteArray).extract ((ji2) : Int).toNat ((IntKind.u16.wrap ((ji2) + 1)) : Int).toNat) ++ ((⟨#[48, 49, 50, 51, 52, 53, 54, 55, 56, 57, 97, 98, 99, 100, 101, 102]⟩ : ByteArray).extract ((ji6) : Int).toNat ((IntKind.u16.wrap ((ji6) + 1)) : Int).toNat)).size + ((⟨#[48, 49, 50, 51, 52, 53, 54, 55, 56, 57, 97, 98, 99, 100, 101, 102]⟩ : ByteArray).extract ((ji11) : Int).toNat ((IntKind.u16.wrap ((ji11) + 1)) : Int).toNat).size ≤ 9223372036854775807
                      · rw [if_pos c15] at H
                        have c15b0 := eq_true c15
                        have c15b1 : decide ((((⟨#[48, 49, 50, 51, 52, 53, 54, 55, 56, 57, 97, 98, 99, 100, 101, 102]⟩ : ByteArray).extract ((ji2) : Int).toNat ((IntKind.u16.wrap ((ji2) + 1)) : Int).toNat) ++ ((⟨#[48, 49, 50, 51, 52, 53, 54, 55, 56, 57, 97, 98, 99, 100, 101, 102]⟩ : ByteArray).extract ((ji6) : Int).toNat ((IntKind.u16.wrap ((ji6) + 1)) : Int).toNat)).size + ((⟨#[48, 49, 50, 51, 52, 53, 54, 55, 56, 57, 97, 98, 99, 100, 101, 102]⟩ : ByteArray).extract ((ji11) : Int).toNat ((IntKind.u16.wrap ((ji11) + 1)) : Int).toNat).size ≤ 9223372036854775807) = true := decide_eq_true c15
                        try have c15b2 : (9223372036854775807 < (((⟨#[48, 49, 50, 51, 52, 53, 54, 55, 56, 57, 97, 98, 99, 100, 101, 102]⟩ : ByteArray).extract ((ji2) : Int).toNat ((IntKind.u16.wrap ((ji2) + 1)) : Int).toNat) ++ ((⟨#[48, 49, 50, 51, 52, 53, 54, 55, 56, 57, 97, 98, 99, 100, 101, 102]⟩ : ByteArray).extract ((ji6) : Int).toNat ((IntKind.u16.wrap ((ji6) + 1)) : Int).toNat)).size + ((⟨#[48, 49, 50, 51, 52, 53, 54, 55, 56, 57, 97, 98, 99, 100, 101, 102]⟩ : ByteArray).extract ((ji11) : Int).toNat ((IntKind.u16.wrap ((ji11) + 1)) : Int).toNat).size) = False := eq_false (Nat.not_lt.2 c15)
                        by_cases c16 : 0 ≤ (Go.bits .and .u16 a0 15)
                        · rw [if_pos c16] at H
                          have c16b0 := eq_true c16
                          have c16b1 : decide (0 ≤ (Go.bits .and .u16 a0 15)) = true := decide_eq_true c16
                          clear c16
                          by_cases c17 : (Go.bits .and .u16 a0 15) ≤ (IntKind.u16.wrap ((Go.bits .and .u16 a0 15) + 1))
                          · rw [if_pos c17] at H
                            have c17b0 := eq_true c17
                            have c17b1 : decide ((Go.bits .and .u16 a0 15) ≤ (IntKind.u16.wrap ((Go.bits .and .u16 a0 15) + 1))) = true := decide_eq_true c17
                            by_cases c18 : (IntKind.u16.wrap ((Go.bits .and .u16 a0 15) + 1)) ≤ 16
                            · rw [if_pos c18] at H
                              have c18b0 := eq_true c18
                              have c18b1 : decide ((IntKind.u16.wrap ((Go.bits .and .u16 a0 15) + 1)) ≤ 16) = true := decide_eq_true c18
                              by_cases c19 : ((((⟨#[48, 49, 50, 51, 52, 53, 54, 55, 56, 57, 97, 98, 99, 100, 101, 102]⟩ : ByteArray).extract ((ji2) : Int).toNat ((IntKind.u16.wrap ((ji2) + 1)) : Int).toNat) ++ ((⟨#[48, 49, 50, 51, 52, 53, 54, 55, 56, 57, 97, 98, 99, 100, 101, 102]⟩ : ByteArray).extract ((ji6) : Int).toNat ((IntKind.u16.wrap ((ji6) + 1)) : Int).toNat)) ++ ((⟨#[48, 49, 50, 51, 52, 53, 54, 55, 56, 57, 97, 98, 99, 100, 101, 102]⟩ : ByteArray).extract ((ji11) : Int).toNat ((IntKind.u16.wrap ((ji11) + 1)) : Int).toNat)).size + ((⟨#[48, 49, 50, 51, 52, 53, 54, 55, 56, 57, 97, 98, 99, 100, 101, 102]⟩ : ByteArray).extract ((Go.bits .and .u16 a0 15) : Int).toNat ((IntKind.u16.wrap ((Go.bits .and .u16 a0 15) + 1)) : Int).toNat).size ≤ 9223372036854775807
                              · rw [if_pos c19] at H
                                have c19b0 := eq_true c19
                                have c19b1 : decide (((((⟨#[48, 49, 50, 51, 52, 53, 54, 55, 56, 57, 97, 98, 99, 100, 101, 102]⟩ : ByteArray).extract ((ji2) : Int).toNat ((IntKind.u16.wrap ((ji2) + 1)) : Int).toNat) ++ ((⟨#[48, 49, 50, 51, 52, 53, 54, 55, 56, 57, 97, 98, 99, 100, 101, 102]⟩ : ByteArray).extract ((ji6) : Int).toNat ((IntKind.u16.wrap ((ji6) + 1)) : Int).toNat)) ++ ((⟨#[48, 49, 50, 51, 52, 53, 54, 55, 56, 57, 97, 98, 99, 100, 101, 102]⟩ : ByteArray).extract ((ji11) : Int).toNat ((IntKind.u16.wrap ((ji11) + 1)) : Int).toNat)).size + ((⟨#[48, 49, 50, 51, 52, 53, 54, 55, 56, 57, 97, 98, 99, 100, 101, 102]⟩ : ByteArray).extract ((Go.bits .and .u16 a0 15) : Int).toNat ((IntKind.u16.wrap ((Go.bits .and .u16 a0 15) + 1)) : Int).toNat).size ≤ 9223372036854775807) = true := decide_eq_true c19
                                try have c19b2 : (9223372036854775807 < ((((⟨#[48, 49, 50, 51, 52, 53, 54, 55, 56, 57, 97, 98, 99, 100, 101, 102]⟩ : ByteArray).extract ((ji2) : Int).toNat ((IntKind.u16.wrap ((ji2) + 1)) : Int).toNat) ++ ((⟨#[48, 49, 50, 51, 52, 53, 54, 55, 56, 57, 97, 98, 99, 100, 101, 102]⟩ : ByteArray).extract ((ji6) : Int).toNat ((IntKind.u16.wrap ((ji6) + 1)) : Int).toNat)) ++ ((⟨#[48, 49, 50, 51, 52, 53, 54, 55, 56, 57, 97, 98, 99, 100, 101, 102]⟩ : ByteArray).extract ((ji11) : Int).toNat ((IntKind.u16.wrap ((ji11) + 1)) : Int).toNat)).size + ((⟨#[48, 49, 50, 51, 52, 53, 54, 55, 56, 57, 97, 98, 99, 100, 101, 102]⟩ : ByteArray).extract ((Go.bits .and .u16 a0 15) : Int).toNat ((IntKind.u16.wrap ((Go.bits .and .u16 a0 15) + 1)) : Int).toNat).size) = False := eq_false (Nat.not_lt.2 c19)
                                obtain rfl := Option.some.inj H
                                go_enter Tryd.func15, Tryd.ntmps15
                                go_wp2
                                repeat (go_quiet (fail); try go_wp2)
                                go_ret
                                exact ⟨by first | rfl | (simp; done) | (simp only [← hji2, ← hji6, ← hji11] <;> (first | rfl | simp)) | (simp [*]; done), by repeat (first | exact Drawn0.refl _ | apply Drawn0.step)⟩
                              · rw [if_neg c19] at H
                                exact absurd H (by simp)
                            · rw [if_neg c18] at H
                              exact absurd H (by simp)
                          · rw [if_neg c17] at H
                            exact absurd H (by simp)
                        · rw [if_neg c16] at H
                          exact absurd H (by simp)
                      · rw [if_neg c15] at H
                        exact absurd H (by simp)
                    · rw [if_neg c14] at H
                      exact absurd H (by simp)
                  · rw [if_neg c13] at H
                    exact absurd H (by simp)
                · rw [if_neg c12] at H
                  exact absurd H (by simp)
              · rw [if_neg c10] at H
                exact absurd H (by simp)
            · rw [if_neg c9] at H
              exact absurd H (by simp)
          · rw [if_neg c8] at H
            exact absurd H (by simp)
        · rw [if_neg c7] at H
          exact absurd H (by simp)
      · rw [if_neg c5] at H
        exact absurd H (by simp)
    · rw [if_neg c4] at H
      exact absurd H (by simp)
  · rw [if_neg c3] at H
    exact absurd H (by simp)

-- NOT PRINTED: function 4 (wicketmanlaw11_CookieTwice)

-- NOT PRINTED: function 5 (wicketmanlaw11_CookieQuotes)

-- NOT PRINTED: function 6 (wicketmanlaw11_CookieAges)

/-! ### head_Same: function 50 -/
def head_Same.f (a0 : ByteArray) (a1 : ByteArray) : Option (Bool) := (head_small.f a0).bind fun t180 => ((head_small.f a1).bind fun t181 => (some (t180.toList == t181.toList)))
set_option maxHeartbeats 8000000 in
set_option maxRecDepth 100000 in
theorem head_Same.calls (a0 : ByteArray) (a1 : ByteArray) (r : Bool) (w : World) (h : head_Same.f a0 a1 = some r) :
    Calls Tryd.prog 50 #[.string a0, .string a1] w fun e w' => e = .returned (.bool r) ∧ Below w.heap.size w w' := by
  have HB := Aside0.mk (Below.refl w.heap.size w)
  have H : ((head_small.f a0).bind fun t180 => ((head_small.f a1).bind fun t181 => (some (t180.toList == t181.toList)))) = some r := h
  clear h
  replace H := Option.bind_eq_some_iff.mp H
  obtain ⟨t180, A30, H⟩ := H
  replace H : ((head_small.f a1).bind fun t181 => (some (t180.toList == t181.toList))) = some r := H
  have A3 := Aside0.mk A30
  clear A30
  replace H := Option.bind_eq_some_iff.mp H
  obtain ⟨t181, A40, H⟩ := H
  replace H : (some (t180.toList == t181.toList)) = some r := H
  have A4 := Aside0.mk A40
  clear A40
  obtain rfl := Option.some.inj H
  go_enter Tryd.func50, Tryd.ntmps50
  go_wp2_with (first | ((with_reducible refine gate_callee (f := 62) rfl ?_); refine goesL_ (some 6) rfl rfl Tryd.func62 (by kernel_rfl) rfl #[.string a0] rfl (by (try simp only [List.map_toArray, List.map_cons, List.map_nil]); first | done | rfl | (simp only [List.length_drop, List.length_take]; rfl)) ?_; (with_reducible refine (head_small.calls a0 t180 _ A3.out).mono ?_); rintro e w5 ⟨rfl, hb⟩; refine ⟨_, rfl, ?_⟩; have n0_ := Aside0.mk (below_step (by repeat (first | (with_reducible first | exact HB.out | apply below_alloc | apply pw_below_drewN | apply below_drew1) | exact HB.out)) hb); clear HB; have HB := n0_; clear n0_; (try clear hb); (try clear hb2); (try clear hk); (try clear hi)) | ((with_reducible refine gate_callee (f := 62) rfl ?_); refine goesL_ (some 8) rfl rfl Tryd.func62 (by kernel_rfl) rfl #[.string a1] rfl (by (try simp only [List.map_toArray, List.map_cons, List.map_nil]); first | done | rfl | (simp only [List.length_drop, List.length_take]; rfl)) ?_; (with_reducible refine (head_small.calls a1 t181 _ A4.out).mono ?_); rintro e w6 ⟨rfl, hb⟩; refine ⟨_, rfl, ?_⟩; have n0_ := Aside0.mk (below_step (by repeat (first | (with_reducible first | exact HB.out | apply below_alloc | apply pw_below_drewN | apply below_drew1) | exact HB.out)) hb); clear HB; have HB := n0_; clear n0_; (try clear hb); (try clear hb2); (try clear hk); (try clear hi)))
  go_ret
  exact ⟨by first | rfl | (simp [errW_none, errW_some] <;> rfl) | (simp [*, errW_none, errW_some] <;> rfl), by repeat (first | (with_reducible first | exact HB.out | apply below_alloc | apply pw_below_drewN | apply below_drew1) | exact HB.out)⟩

/-! ### cookie_begins: function 35 -/
def cookie_begins.f (a0 : ByteArray) (a1 : ByteArray) : Option (Bool) := if (a0.size : Int) ≥ (a1.size : Int) then (if 0 ≤ (a1.size : Int) then (if (a1.size : Int) ≤ (a0.size : Int) then ((head_Same.f (a0.extract 0 ((a1.size : Int) : Int).toNat) a1).bind fun t182 => (some t182)) else (none)) else (none)) else (some false)
set_option maxHeartbeats 8000000 in
set_option maxRecDepth 100000 in
theorem cookie_begins.calls (a0 : ByteArray) (a1 : ByteArray) (r : Bool) (w : World) (h : cookie_begins.f a0 a1 = some r) :
    Calls Tryd.prog 35 #[.string a0, .string a1] w fun e w' => e = .returned (.bool r) ∧ Below w.heap.size w w' := by
  have HB := Aside0.mk (Below.refl w.heap.size w)
  have H : (if (a0.size : Int) ≥ (a1.size : Int) then (if 0 ≤ (a1.size : Int) then (if (a1.size : Int) ≤ (a0.size : Int) then ((head_Same.f (a0.extract 0 ((a1.size : Int) : Int).toNat) a1).bind fun t182 => (some t182)) else (none)) else (none)) else (some false)) = some r := h
  clear h
  by_cases c3 : (a0.size : Int) ≥ (a1.size : Int)
  · rw [if_pos c3] at H
    have c3b0 : decide ((a1.size : Int) ≤ (a0.size : Int)) = true := decide_eq_true c3
    have c3b1 : decide (a1.size ≤ a0.size) = true := decide_eq_true (Int.ofNat_le.mp c3)
    clear c3
    by_cases c4 : 0 ≤ (a1.size : Int)
    · rw [if_pos c4] at H
      have c4b0 := eq_true c4
      have c4b1 : decide (0 ≤ (a1.size : Int)) = true := decide_eq_true c4
      clear c4
      by_cases c5 : (a1.size : Int) ≤ (a0.size : Int)
      · rw [if_pos c5] at H
        have c5b0 := eq_true c5
        have c5b1 : decide ((a1.size : Int) ≤ (a0.size : Int)) = true := decide_eq_true c5
        clear c5
        replace H := Option.bind_eq_some_iff.mp H
        obtain ⟨t182, A60, H⟩ := H
        replace H : (some t182) = some r := H
        have A6 := Aside0.mk (by simpa only [Int.toNat_natCast] using A60)
        clear A60
        obtain rfl := Option.some.inj H
        go_enter Tryd.func35, Tryd.ntmps35
        go_wp2_with (first | (go_at_call 50; (with_reducible refine (head_Same.calls (a0.extract 0 a1.size) a1 t182 _ A6.out).mono ?_); rintro e w7 ⟨rfl, hb⟩; have n0_ := Aside0.mk (below_step (by repeat (first | (with_reducible first | exact HB.out | apply below_alloc | apply pw_below_drewN | apply below_drew1) | exact HB.out)) hb); clear HB; have HB := n0_; clear n0_; (try clear hb); (try clear hb2); (try clear hk); (try clear hi)))
        go_ret
        exact ⟨by first | rfl | (simp [errW_none, errW_some] <;> rfl) | (simp [*, errW_none, errW_some] <;> rfl), by repeat (first | (with_reducible first | exact HB.out | apply below_alloc | apply pw_below_drewN | apply below_drew1) | exact HB.out)⟩
      · rw [if_neg c5] at H
        exact absurd H (by simp)
    · rw [if_neg c4] at H
      exact absurd H (by simp)
  · rw [if_neg c3] at H
    have c3b0 : decide ((a1.size : Int) ≤ (a0.size : Int)) = false := decide_eq_false c3
    have c3b1 : decide (a1.size ≤ a0.size) = false := decide_eq_false (fun h => c3 (Int.ofNat_le.mpr h))
    clear c3
    obtain rfl := Option.some.inj H
    go_enter Tryd.func35, Tryd.ntmps35
    go_wp2
    go_ret
    exact ⟨by first | rfl | (simp [errW_none, errW_some] <;> rfl) | (simp [*, errW_none, errW_some] <;> rfl), by repeat (first | (with_reducible first | exact HB.out | apply below_alloc | apply pw_below_drewN | apply below_drew1) | exact HB.out)⟩

end Go.Proofs.YtipbgnhhmgljnaaDoor.Pall

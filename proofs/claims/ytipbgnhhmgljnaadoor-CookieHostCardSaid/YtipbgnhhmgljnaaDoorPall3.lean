-- Written by a program of this session: the kit's print with given contracts. Not trusted: Lean checks it.
import Derived.Test.YtipbgnhhmgljnaaDoorPall0
namespace Go.Proofs.YtipbgnhhmgljnaaDoor.Pall
open Go.RowKit Go.Proofs.YtipbgnhhmgljnaaDoorW.PrintWords Go.Proofs.YtipbgnhhmgljnaaDoorW.PrintLast Go.Proofs.YtipbgnhhmgljnaaDoorW.PrintMore
attribute [local go_sem] max2_int min2_int max_two min_two max_three min_three max_four min_four   -- for this text's walks alone
set_option linter.unusedVariables false
set_option linter.unusedSimpArgs false

/-! ### cookie_Set: function 18 -/
def cookie_Set.f (a0_0 : ByteArray) (a0_1 : ByteArray) (a1 : Int) : Option (ByteArray × Int) := (head_Token.f a0_0).bind fun t113 => (if t113 = true then ((cookie_octets.f a0_1).bind fun t114 => (if t114 = true then (if a1 < 0 then (some ((⟨#[]⟩ : ByteArray), 1)) else (if a1 > 999999999 then (some ((⟨#[]⟩ : ByteArray), 1)) else (if a0_0.size + 1 ≤ 9223372036854775807 then (if (a0_0 ++ (⟨#[61]⟩ : ByteArray)).size + a0_1.size ≤ 9223372036854775807 then (if ((a0_0 ++ (⟨#[61]⟩ : ByteArray)) ++ a0_1).size + 2 ≤ 9223372036854775807 then (if (((a0_0 ++ (⟨#[61]⟩ : ByteArray)) ++ a0_1) ++ (⟨#[59, 32]⟩ : ByteArray)).size + 8 ≤ 9223372036854775807 then ((strconv_Itoa.f a1).bind fun t115 => (if ((((a0_0 ++ (⟨#[61]⟩ : ByteArray)) ++ a0_1) ++ (⟨#[59, 32]⟩ : ByteArray)) ++ (⟨#[77, 97, 120, 45, 65, 103, 101, 61]⟩ : ByteArray)).size + t115.size ≤ 9223372036854775807 then (if (((((a0_0 ++ (⟨#[61]⟩ : ByteArray)) ++ a0_1) ++ (⟨#[59, 32]⟩ : ByteArray)) ++ (⟨#[77, 97, 120, 45, 65, 103, 101, 61]⟩ : ByteArray)) ++ t115).size + 43 ≤ 9223372036854775807 then (some ((((((a0_0 ++ (⟨#[61]⟩ : ByteArray)) ++ a0_1) ++ (⟨#[59, 32]⟩ : ByteArray)) ++ (⟨#[77, 97, 120, 45, 65, 103, 101, 61]⟩ : ByteArray)) ++ t115) ++ (⟨#[59, 32, 80, 97, 116, 104, 61, 47, 59, 32, 83, 101, 99, 117, 114, 101, 59, 32, 72, 116, 116, 112, 79, 110, 108, 121, 59, 32, 83, 97, 109, 101, 83, 105, 116, 101, 61, 83, 116, 114, 105, 99, 116]⟩ : ByteArray), 0)) else (none)) else (none))) else (none)) else (none)) else (none)) else (none)))) else (some ((⟨#[]⟩ : ByteArray), 1)))) else (some ((⟨#[]⟩ : ByteArray), 1)))
def cookie_Set.T3 : Bool × List (List Nat × List Nat) := (true, [([], []), ([0], [0]), ([1], [1]), ([], []), ([3], [3]), ([2, 4], [2, 4]), ([5], [5]), ([6], [6]), ([], []), ([8], [8]), ([7, 9], [7, 9]), ([10], [10]), ([11, 9, 0, 1, 2, 3, 4, 5, 6, 7, 8, 9, 10, 11], [11]), ([12, 0, 1, 2, 3, 4, 5, 6, 7, 8, 9, 10, 11, 12], [])])
def cookie_Set.B3 : List Nat := [0, 1, 3, 0, 8, 31, 63, 127, 0, 256, 1023, 2047, 4095, 8191]
theorem cookie_Set.tab3 : rtab .any (opsOf Tryd.f18 3) = cookie_Set.T3 := by kernel_rfl
theorem cookie_Set.bits3 : waitsOk cookie_Set.T3.2 cookie_Set.B3 = true := by kernel_rfl
set_option maxHeartbeats 8000000 in
set_option maxRecDepth 100000 in
theorem cookie_Set.calls (a0_0 : ByteArray) (a0_1 : ByteArray) (a1 : Int) (r1 : ByteArray) (r2 : Int) (w : World) (hS : Sh w) (h : cookie_Set.f a0_0 a0_1 a1 = some (r1, r2)) :
    Calls Tryd.prog 18 #[.agg #[.string a0_0, .string a0_1], .int .i64 a1] w fun e w' => e = .returned (.tuple #[.string r1, .int .u16 r2]) ∧ Below w.heap.size w w' := by
  have hu38 := Tryd.underlying38
  have HB := Aside0.mk (Below.refl w.heap.size w)
  have H : ((head_Token.f a0_0).bind fun t113 => (if t113 = true then ((cookie_octets.f a0_1).bind fun t114 => (if t114 = true then (if a1 < 0 then (some ((⟨#[]⟩ : ByteArray), 1)) else (if a1 > 999999999 then (some ((⟨#[]⟩ : ByteArray), 1)) else (if a0_0.size + 1 ≤ 9223372036854775807 then (if (a0_0 ++ (⟨#[61]⟩ : ByteArray)).size + a0_1.size ≤ 9223372036854775807 then (if ((a0_0 ++ (⟨#[61]⟩ : ByteArray)) ++ a0_1).size + 2 ≤ 9223372036854775807 then (if (((a0_0 ++ (⟨#[61]⟩ : ByteArray)) ++ a0_1) ++ (⟨#[59, 32]⟩ : ByteArray)).size + 8 ≤ 9223372036854775807 then ((strconv_Itoa.f a1).bind fun t115 => (if ((((a0_0 ++ (⟨#[61]⟩ : ByteArray)) ++ a0_1) ++ (⟨#[59, 32]⟩ : ByteArray)) ++ (⟨#[77, 97, 120, 45, 65, 103, 101, 61]⟩ : ByteArray)).size + t115.size ≤ 9223372036854775807 then (if (((((a0_0 ++ (⟨#[61]⟩ : ByteArray)) ++ a0_1) ++ (⟨#[59, 32]⟩ : ByteArray)) ++ (⟨#[77, 97, 120, 45, 65, 103, 101, 61]⟩ : ByteArray)) ++ t115).size + 43 ≤ 9223372036854775807 then (some ((((((a0_0 ++ (⟨#[61]⟩ : ByteArray)) ++ a0_1) ++ (⟨#[59, 32]⟩ : ByteArray)) ++ (⟨#[77, 97, 120, 45, 65, 103, 101, 61]⟩ : ByteArray)) ++ t115) ++ (⟨#[59, 32, 80, 97, 116, 104, 61, 47, 59, 32, 83, 101, 99, 117, 114, 101, 59, 32, 72, 116, 116, 112, 79, 110, 108, 121, 59, 32, 83, 97, 109, 101, 83, 105, 116, 101, 61, 83, 116, 114, 105, 99, 116]⟩ : ByteArray), 0)) else (none)) else (none))) else (none)) else (none)) else (none)) else (none)))) else (some ((⟨#[]⟩ : ByteArray), 1)))) else (some ((⟨#[]⟩ : ByteArray), 1)))) = some (r1, r2) := h
  clear h
  replace H := Option.bind_eq_some_iff.mp H
  obtain ⟨t113, A30, H⟩ := H
  replace H : (if t113 = true then ((cookie_octets.f a0_1).bind fun t114 => (if t114 = true then (if a1 < 0 then (some ((⟨#[]⟩ : ByteArray), 1)) else (if a1 > 999999999 then (some ((⟨#[]⟩ : ByteArray), 1)) else (if a0_0.size + 1 ≤ 9223372036854775807 then (if (a0_0 ++ (⟨#[61]⟩ : ByteArray)).size + a0_1.size ≤ 9223372036854775807 then (if ((a0_0 ++ (⟨#[61]⟩ : ByteArray)) ++ a0_1).size + 2 ≤ 9223372036854775807 then (if (((a0_0 ++ (⟨#[61]⟩ : ByteArray)) ++ a0_1) ++ (⟨#[59, 32]⟩ : ByteArray)).size + 8 ≤ 9223372036854775807 then ((strconv_Itoa.f a1).bind fun t115 => (if ((((a0_0 ++ (⟨#[61]⟩ : ByteArray)) ++ a0_1) ++ (⟨#[59, 32]⟩ : ByteArray)) ++ (⟨#[77, 97, 120, 45, 65, 103, 101, 61]⟩ : ByteArray)).size + t115.size ≤ 9223372036854775807 then (if (((((a0_0 ++ (⟨#[61]⟩ : ByteArray)) ++ a0_1) ++ (⟨#[59, 32]⟩ : ByteArray)) ++ (⟨#[77, 97, 120, 45, 65, 103, 101, 61]⟩ : ByteArray)) ++ t115).size + 43 ≤ 9223372036854775807 then (some ((((((a0_0 ++ (⟨#[61]⟩ : ByteArray)) ++ a0_1) ++ (⟨#[59, 32]⟩ : ByteArray)) ++ (⟨#[77, 97, 120, 45, 65, 103, 101, 61]⟩ : ByteArray)) ++ t115) ++ (⟨#[59, 32, 80, 97, 116, 104, 61, 47, 59, 32, 83, 101, 99, 117, 114, 101, 59, 32, 72, 116, 116, 112, 79, 110, 108, 121, 59, 32, 83, 97, 109, 101, 83, 105, 116, 101, 61, 83, 116, 114, 105, 99, 116]⟩ : ByteArray), 0)) else (none)) else (none))) else (none)) else (none)) else (none)) else (none)))) else (some ((⟨#[]⟩ : ByteArray), 1)))) else (some ((⟨#[]⟩ : ByteArray), 1))) = some (r1, r2) := H
  have A3 := Aside0.mk A30
  clear A30
  by_cases c4 : t113 = true
  · subst c4
    have H1 : ((cookie_octets.f a0_1).bind fun t114 => (if t114 = true then (if a1 < 0 then (some ((⟨#[]⟩ : ByteArray), 1)) else (if a1 > 999999999 then (some ((⟨#[]⟩ : ByteArray), 1)) else (if a0_0.size + 1 ≤ 9223372036854775807 then (if (a0_0 ++ (⟨#[61]⟩ : ByteArray)).size + a0_1.size ≤ 9223372036854775807 then (if ((a0_0 ++ (⟨#[61]⟩ : ByteArray)) ++ a0_1).size + 2 ≤ 9223372036854775807 then (if (((a0_0 ++ (⟨#[61]⟩ : ByteArray)) ++ a0_1) ++ (⟨#[59, 32]⟩ : ByteArray)).size + 8 ≤ 9223372036854775807 then ((strconv_Itoa.f a1).bind fun t115 => (if ((((a0_0 ++ (⟨#[61]⟩ : ByteArray)) ++ a0_1) ++ (⟨#[59, 32]⟩ : ByteArray)) ++ (⟨#[77, 97, 120, 45, 65, 103, 101, 61]⟩ : ByteArray)).size + t115.size ≤ 9223372036854775807 then (if (((((a0_0 ++ (⟨#[61]⟩ : ByteArray)) ++ a0_1) ++ (⟨#[59, 32]⟩ : ByteArray)) ++ (⟨#[77, 97, 120, 45, 65, 103, 101, 61]⟩ : ByteArray)) ++ t115).size + 43 ≤ 9223372036854775807 then (some ((((((a0_0 ++ (⟨#[61]⟩ : ByteArray)) ++ a0_1) ++ (⟨#[59, 32]⟩ : ByteArray)) ++ (⟨#[77, 97, 120, 45, 65, 103, 101, 61]⟩ : ByteArray)) ++ t115) ++ (⟨#[59, 32, 80, 97, 116, 104, 61, 47, 59, 32, 83, 101, 99, 117, 114, 101, 59, 32, 72, 116, 116, 112, 79, 110, 108, 121, 59, 32, 83, 97, 109, 101, 83, 105, 116, 101, 61, 83, 116, 114, 105, 99, 116]⟩ : ByteArray), 0)) else (none)) else (none))) else (none)) else (none)) else (none)) else (none)))) else (some ((⟨#[]⟩ : ByteArray), 1)))) = some (r1, r2) := by rw [if_pos rfl] at H; exact H
    clear H
    have H := H1
    clear H1
    replace H := Option.bind_eq_some_iff.mp H
    obtain ⟨t114, A50, H⟩ := H
    replace H : (if t114 = true then (if a1 < 0 then (some ((⟨#[]⟩ : ByteArray), 1)) else (if a1 > 999999999 then (some ((⟨#[]⟩ : ByteArray), 1)) else (if a0_0.size + 1 ≤ 9223372036854775807 then (if (a0_0 ++ (⟨#[61]⟩ : ByteArray)).size + a0_1.size ≤ 9223372036854775807 then (if ((a0_0 ++ (⟨#[61]⟩ : ByteArray)) ++ a0_1).size + 2 ≤ 9223372036854775807 then (if (((a0_0 ++ (⟨#[61]⟩ : ByteArray)) ++ a0_1) ++ (⟨#[59, 32]⟩ : ByteArray)).size + 8 ≤ 9223372036854775807 then ((strconv_Itoa.f a1).bind fun t115 => (if ((((a0_0 ++ (⟨#[61]⟩ : ByteArray)) ++ a0_1) ++ (⟨#[59, 32]⟩ : ByteArray)) ++ (⟨#[77, 97, 120, 45, 65, 103, 101, 61]⟩ : ByteArray)).size + t115.size ≤ 9223372036854775807 then (if (((((a0_0 ++ (⟨#[61]⟩ : ByteArray)) ++ a0_1) ++ (⟨#[59, 32]⟩ : ByteArray)) ++ (⟨#[77, 97, 120, 45, 65, 103, 101, 61]⟩ : ByteArray)) ++ t115).size + 43 ≤ 9223372036854775807 then (some ((((((a0_0 ++ (⟨#[61]⟩ : ByteArray)) ++ a0_1) ++ (⟨#[59, 32]⟩ : ByteArray)) ++ (⟨#[77, 97, 120, 45, 65, 103, 101, 61]⟩ : ByteArray)) ++ t115) ++ (⟨#[59, 32, 80, 97, 116, 104, 61, 47, 59, 32, 83, 101, 99, 117, 114, 101, 59, 32, 72, 116, 116, 112, 79, 110, 108, 121, 59, 32, 83, 97, 109, 101, 83, 105, 116, 101, 61, 83, 116, 114, 105, 99, 116]⟩ : ByteArray), 0)) else (none)) else (none))) else (none)) else (none)) else (none)) else (none)))) else (some ((⟨#[]⟩ : ByteArray), 1))) = some (r1, r2) := H
    have A5 := Aside0.mk A50
    clear A50
    by_cases c6 : t114 = true
    · subst c6
      have H1 : (if a1 < 0 then (some ((⟨#[]⟩ : ByteArray), 1)) else (if a1 > 999999999 then (some ((⟨#[]⟩ : ByteArray), 1)) else (if a0_0.size + 1 ≤ 9223372036854775807 then (if (a0_0 ++ (⟨#[61]⟩ : ByteArray)).size + a0_1.size ≤ 9223372036854775807 then (if ((a0_0 ++ (⟨#[61]⟩ : ByteArray)) ++ a0_1).size + 2 ≤ 9223372036854775807 then (if (((a0_0 ++ (⟨#[61]⟩ : ByteArray)) ++ a0_1) ++ (⟨#[59, 32]⟩ : ByteArray)).size + 8 ≤ 9223372036854775807 then ((strconv_Itoa.f a1).bind fun t115 => (if ((((a0_0 ++ (⟨#[61]⟩ : ByteArray)) ++ a0_1) ++ (⟨#[59, 32]⟩ : ByteArray)) ++ (⟨#[77, 97, 120, 45, 65, 103, 101, 61]⟩ : ByteArray)).size + t115.size ≤ 9223372036854775807 then (if (((((a0_0 ++ (⟨#[61]⟩ : ByteArray)) ++ a0_1) ++ (⟨#[59, 32]⟩ : ByteArray)) ++ (⟨#[77, 97, 120, 45, 65, 103, 101, 61]⟩ : ByteArray)) ++ t115).size + 43 ≤ 9223372036854775807 then (some ((((((a0_0 ++ (⟨#[61]⟩ : ByteArray)) ++ a0_1) ++ (⟨#[59, 32]⟩ : ByteArray)) ++ (⟨#[77, 97, 120, 45, 65, 103, 101, 61]⟩ : ByteArray)) ++ t115) ++ (⟨#[59, 32, 80, 97, 116, 104, 61, 47, 59, 32, 83, 101, 99, 117, 114, 101, 59, 32, 72, 116, 116, 112, 79, 110, 108, 121, 59, 32, 83, 97, 109, 101, 83, 105, 116, 101, 61, 83, 116, 114, 105, 99, 116]⟩ : ByteArray), 0)) else (none)) else (none))) else (none)) else (none)) else (none)) else (none)))) = some (r1, r2) := by rw [if_pos rfl] at H; exact H
      clear H
      have H := H1
      clear H1
      by_cases c7 : a1 < 0
      · rw [if_pos c7] at H
        have c7b0 : decide (a1 < 0) = true := decide_eq_true c7
        clear c7
        simp only [Option.some.injEq, Prod.mk.injEq] at H
        obtain ⟨rfl, rfl⟩ := H
        go_enter Tryd.func18, Tryd.ntmps18
        go_wp2_with (first | ((with_reducible refine gate_dst (N := 2) rfl ?_); refine box_event ?hg (N := 2) ?hd (cs := #[.string a0_0, .string a0_1]) (t := 38) ?hr ?_; (case hd => rfl); (case hg => rfl); (case hr => first | (go_simp; done) | (go_simp; rfl)); intro gb112 hg w8 hbox hb; have n0_ := Aside0.mk (below_step (by repeat (first | (with_reducible first | exact HB.out | apply below_alloc | apply pw_below_drewN | apply below_drew1) | exact HB.out)) hb); have n1_ := Aside0.mk (hbox); have n2_ := Aside0.mk ((by rw [hg]; exact (below_size (by repeat (first | (with_reducible first | exact HB.out | apply below_alloc | apply pw_below_drewN | apply below_drew1) | exact HB.out))) : w.heap.size ≤ gb112)); have n3_ := Aside0.mk ((by rw [hg]; exact (below_size (by repeat (first | (with_reducible first | exact HB.out | apply below_alloc | apply pw_below_drewN | apply below_drew1) | exact HB.out))) : w.heap.size ≤ gb112)); clear HB; have HB := n0_; have BK112 := n1_; have GW112 := n2_; have GE112 := n3_; clear n0_ n1_ n2_ n3_; clear hb hbox hg; have hcz9_0 : w8.cell? ⟨gb112, 0, none⟩ = some (.string a0_0) := (blk_cell BK112.out 0).trans rfl; have hcz9_1 : w8.cell? ⟨gb112, 1, none⟩ = some (.string a0_1) := (blk_cell BK112.out 1).trans rfl; have hfz9_0 := blk_frozen BK112.out 0; have hfz9_1 := blk_frozen BK112.out 1) | ((with_reducible refine gate_callee (f := 32) rfl ?_); refine goesL_ (some 8) rfl rfl Tryd.func32 (by kernel_rfl) rfl #[.string a0_0] rfl (by (try simp only [List.map_toArray, List.map_cons, List.map_nil]); first | done | rfl | (simp only [List.length_drop, List.length_take]; rfl)) ?_; (with_reducible refine (head_Token.calls a0_0 true _ A3.out).mono ?_); rintro e w10 ⟨rfl, hb⟩; refine ⟨_, rfl, ?_⟩; have n0_ := Aside0.mk (blk_below (g := gb112) (o := .cells #[.string a0_0, .string a0_1] 38 (0, 0)) (by (with_reducible repeat (first | refine blk_drewN ?_ _ | refine blk_drew ?_ | refine blk_alloc ?_ _)); exact BK112.out) hb); have n1_ := Aside0.mk (below_step (by repeat (first | (with_reducible first | exact HB.out | apply below_alloc | apply pw_below_drewN | apply below_drew1 | refine below_set ?_ GE112.out) | exact HB.out)) hb); clear BK112; clear HB; have BK112 := n0_; have HB := n1_; clear n0_ n1_; (try clear hb); (try clear hb2); (try clear hk); (try clear hi); have hcz11_0 : w10.cell? ⟨gb112, 0, none⟩ = some (.string a0_0) := (blk_cell BK112.out 0).trans rfl; have hcz11_1 : w10.cell? ⟨gb112, 1, none⟩ = some (.string a0_1) := (blk_cell BK112.out 1).trans rfl; have hfz11_0 := blk_frozen BK112.out 0; have hfz11_1 := blk_frozen BK112.out 1) | (go_at_call 33; (with_reducible refine (cookie_octets.calls a0_1 true _ A5.out).mono ?_); rintro e w12 ⟨rfl, hb⟩; have n0_ := Aside0.mk (blk_below (g := gb112) (o := .cells #[.string a0_0, .string a0_1] 38 (0, 0)) (by (with_reducible repeat (first | refine blk_drewN ?_ _ | refine blk_drew ?_ | refine blk_alloc ?_ _)); exact BK112.out) hb); have n1_ := Aside0.mk (below_step (by repeat (first | (with_reducible first | exact HB.out | apply below_alloc | apply pw_below_drewN | apply below_drew1 | refine below_set ?_ GE112.out) | exact HB.out)) hb); clear BK112; clear HB; have BK112 := n0_; have HB := n1_; clear n0_ n1_; (try clear hb); (try clear hb2); (try clear hk); (try clear hi)))
        go_ret2
        exact ⟨by first | rfl | (simp [errW_none, errW_some] <;> rfl) | (simp [*, errW_none, errW_some] <;> rfl), by repeat (first | (with_reducible first | exact HB.out | apply below_alloc | apply pw_below_drewN | apply below_drew1 | refine below_set ?_ GE112.out) | exact HB.out)⟩
      · rw [if_neg c7] at H
        have c7b0 : decide (a1 < 0) = false := decide_eq_false c7
        clear c7
        by_cases c13 : a1 > 999999999
        · rw [if_pos c13] at H
          have c13b0 : decide (999999999 < a1) = true := decide_eq_true c13
          clear c13
          simp only [Option.some.injEq, Prod.mk.injEq] at H
          obtain ⟨rfl, rfl⟩ := H
          go_enter Tryd.func18, Tryd.ntmps18
          go_wp2_with (first | ((with_reducible refine gate_dst (N := 2) rfl ?_); refine box_event ?hg (N := 2) ?hd (cs := #[.string a0_0, .string a0_1]) (t := 38) ?hr ?_; (case hd => rfl); (case hg => rfl); (case hr => first | (go_simp; done) | (go_simp; rfl)); intro gb112 hg w14 hbox hb; have n0_ := Aside0.mk (below_step (by repeat (first | (with_reducible first | exact HB.out | apply below_alloc | apply pw_below_drewN | apply below_drew1) | exact HB.out)) hb); have n1_ := Aside0.mk (hbox); have n2_ := Aside0.mk ((by rw [hg]; exact (below_size (by repeat (first | (with_reducible first | exact HB.out | apply below_alloc | apply pw_below_drewN | apply below_drew1) | exact HB.out))) : w.heap.size ≤ gb112)); have n3_ := Aside0.mk ((by rw [hg]; exact (below_size (by repeat (first | (with_reducible first | exact HB.out | apply below_alloc | apply pw_below_drewN | apply below_drew1) | exact HB.out))) : w.heap.size ≤ gb112)); clear HB; have HB := n0_; have BK112 := n1_; have GW112 := n2_; have GE112 := n3_; clear n0_ n1_ n2_ n3_; clear hb hbox hg; have hcz15_0 : w14.cell? ⟨gb112, 0, none⟩ = some (.string a0_0) := (blk_cell BK112.out 0).trans rfl; have hcz15_1 : w14.cell? ⟨gb112, 1, none⟩ = some (.string a0_1) := (blk_cell BK112.out 1).trans rfl; have hfz15_0 := blk_frozen BK112.out 0; have hfz15_1 := blk_frozen BK112.out 1) | ((with_reducible refine gate_callee (f := 32) rfl ?_); refine goesL_ (some 8) rfl rfl Tryd.func32 (by kernel_rfl) rfl #[.string a0_0] rfl (by (try simp only [List.map_toArray, List.map_cons, List.map_nil]); first | done | rfl | (simp only [List.length_drop, List.length_take]; rfl)) ?_; (with_reducible refine (head_Token.calls a0_0 true _ A3.out).mono ?_); rintro e w16 ⟨rfl, hb⟩; refine ⟨_, rfl, ?_⟩; have n0_ := Aside0.mk (blk_below (g := gb112) (o := .cells #[.string a0_0, .string a0_1] 38 (0, 0)) (by (with_reducible repeat (first | refine blk_drewN ?_ _ | refine blk_drew ?_ | refine blk_alloc ?_ _)); exact BK112.out) hb); have n1_ := Aside0.mk (below_step (by repeat (first | (with_reducible first | exact HB.out | apply below_alloc | apply pw_below_drewN | apply below_drew1 | refine below_set ?_ GE112.out) | exact HB.out)) hb); clear BK112; clear HB; have BK112 := n0_; have HB := n1_; clear n0_ n1_; (try clear hb); (try clear hb2); (try clear hk); (try clear hi); have hcz17_0 : w16.cell? ⟨gb112, 0, none⟩ = some (.string a0_0) := (blk_cell BK112.out 0).trans rfl; have hcz17_1 : w16.cell? ⟨gb112, 1, none⟩ = some (.string a0_1) := (blk_cell BK112.out 1).trans rfl; have hfz17_0 := blk_frozen BK112.out 0; have hfz17_1 := blk_frozen BK112.out 1) | (go_at_call 33; (with_reducible refine (cookie_octets.calls a0_1 true _ A5.out).mono ?_); rintro e w18 ⟨rfl, hb⟩; have n0_ := Aside0.mk (blk_below (g := gb112) (o := .cells #[.string a0_0, .string a0_1] 38 (0, 0)) (by (with_reducible repeat (first | refine blk_drewN ?_ _ | refine blk_drew ?_ | refine blk_alloc ?_ _)); exact BK112.out) hb); have n1_ := Aside0.mk (below_step (by repeat (first | (with_reducible first | exact HB.out | apply below_alloc | apply pw_below_drewN | apply below_drew1 | refine below_set ?_ GE112.out) | exact HB.out)) hb); clear BK112; clear HB; have BK112 := n0_; have HB := n1_; clear n0_ n1_; (try clear hb); (try clear hb2); (try clear hk); (try clear hi)))
          go_ret2
          exact ⟨by first | rfl | (simp [errW_none, errW_some] <;> rfl) | (simp [*, errW_none, errW_some] <;> rfl), by repeat (first | (with_reducible first | exact HB.out | apply below_alloc | apply pw_below_drewN | apply below_drew1 | refine below_set ?_ GE112.out) | exact HB.out)⟩
        · rw [if_neg c13] at H
          have c13b0 : decide (999999999 < a1) = false := decide_eq_false c13
          clear c13
          by_cases c19 : a0_0.size + 1 ≤ 9223372036854775807
          · rw [if_pos c19] at H
            have c19b0 := eq_true c19
            have c19b1 : decide (a0_0.size + 1 ≤ 9223372036854775807) = true := decide_eq_true c19
            try have c19b2 : (9223372036854775807 < a0_0.size + 1) = False := eq_false (Nat.not_lt.2 c19)
            by_cases c20 : (a0_0 ++ (⟨#[61]⟩ : ByteArray)).size + a0_1.size ≤ 9223372036854775807
            · rw [if_pos c20] at H
              have c20b0 := eq_true c20
              have c20b1 : decide ((a0_0 ++ (⟨#[61]⟩ : ByteArray)).size + a0_1.size ≤ 9223372036854775807) = true := decide_eq_true c20
              try have c20b2 : (9223372036854775807 < (a0_0 ++ (⟨#[61]⟩ : ByteArray)).size + a0_1.size) = False := eq_false (Nat.not_lt.2 c20)
              try (have c20b8 := c20b2; simp only [ByteArray.size_append, show ((⟨#[61]⟩ : ByteArray) : ByteArray).size = 1 from rfl] at c20b8)
              by_cases c21 : ((a0_0 ++ (⟨#[61]⟩ : ByteArray)) ++ a0_1).size + 2 ≤ 9223372036854775807
              · rw [if_pos c21] at H
                have c21b0 := eq_true c21
                have c21b1 : decide (((a0_0 ++ (⟨#[61]⟩ : ByteArray)) ++ a0_1).size + 2 ≤ 9223372036854775807) = true := decide_eq_true c21
                try have c21b2 : (9223372036854775807 < ((a0_0 ++ (⟨#[61]⟩ : ByteArray)) ++ a0_1).size + 2) = False := eq_false (Nat.not_lt.2 c21)
                try (have c21b8 := c21b2; simp only [ByteArray.size_append, show ((⟨#[61]⟩ : ByteArray) : ByteArray).size = 1 from rfl] at c21b8)
                by_cases c22 : (((a0_0 ++ (⟨#[61]⟩ : ByteArray)) ++ a0_1) ++ (⟨#[59, 32]⟩ : ByteArray)).size + 8 ≤ 9223372036854775807
                · rw [if_pos c22] at H
                  have c22b0 := eq_true c22
                  have c22b1 : decide ((((a0_0 ++ (⟨#[61]⟩ : ByteArray)) ++ a0_1) ++ (⟨#[59, 32]⟩ : ByteArray)).size + 8 ≤ 9223372036854775807) = true := decide_eq_true c22
                  try have c22b2 : (9223372036854775807 < (((a0_0 ++ (⟨#[61]⟩ : ByteArray)) ++ a0_1) ++ (⟨#[59, 32]⟩ : ByteArray)).size + 8) = False := eq_false (Nat.not_lt.2 c22)
                  try (have c22b8 := c22b2; simp only [ByteArray.size_append, show ((⟨#[59, 32]⟩ : ByteArray) : ByteArray).size = 2 from rfl, show ((⟨#[61]⟩ : ByteArray) : ByteArray).size = 1 from rfl] at c22b8)
                  replace H := Option.bind_eq_some_iff.mp H
                  obtain ⟨t115, A230, H⟩ := H
                  replace H : (if ((((a0_0 ++ (⟨#[61]⟩ : ByteArray)) ++ a0_1) ++ (⟨#[59, 32]⟩ : ByteArray)) ++ (⟨#[77, 97, 120, 45, 65, 103, 101, 61]⟩ : ByteArray)).size + t115.size ≤ 9223372036854775807 then (if (((((a0_0 ++ (⟨#[61]⟩ : ByteArray)) ++ a0_1) ++ (⟨#[59, 32]⟩ : ByteArray)) ++ (⟨#[77, 97, 120, 45, 65, 103, 101, 61]⟩ : ByteArray)) ++ t115).size + 43 ≤ 9223372036854775807 then (some ((((((a0_0 ++ (⟨#[61]⟩ : ByteArray)) ++ a0_1) ++ (⟨#[59, 32]⟩ : ByteArray)) ++ (⟨#[77, 97, 120, 45, 65, 103, 101, 61]⟩ : ByteArray)) ++ t115) ++ (⟨#[59, 32, 80, 97, 116, 104, 61, 47, 59, 32, 83, 101, 99, 117, 114, 101, 59, 32, 72, 116, 116, 112, 79, 110, 108, 121, 59, 32, 83, 97, 109, 101, 83, 105, 116, 101, 61, 83, 116, 114, 105, 99, 116]⟩ : ByteArray), 0)) else (none)) else (none)) = some (r1, r2) := H
                  have A23 := Aside0.mk A230
                  clear A230
                  by_cases c24 : ((((a0_0 ++ (⟨#[61]⟩ : ByteArray)) ++ a0_1) ++ (⟨#[59, 32]⟩ : ByteArray)) ++ (⟨#[77, 97, 120, 45, 65, 103, 101, 61]⟩ : ByteArray)).size + t115.size ≤ 9223372036854775807
                  · rw [if_pos c24] at H
                    have c24b0 := eq_true c24
                    have c24b1 : decide (((((a0_0 ++ (⟨#[61]⟩ : ByteArray)) ++ a0_1) ++ (⟨#[59, 32]⟩ : ByteArray)) ++ (⟨#[77, 97, 120, 45, 65, 103, 101, 61]⟩ : ByteArray)).size + t115.size ≤ 9223372036854775807) = true := decide_eq_true c24
                    try have c24b2 : (9223372036854775807 < ((((a0_0 ++ (⟨#[61]⟩ : ByteArray)) ++ a0_1) ++ (⟨#[59, 32]⟩ : ByteArray)) ++ (⟨#[77, 97, 120, 45, 65, 103, 101, 61]⟩ : ByteArray)).size + t115.size) = False := eq_false (Nat.not_lt.2 c24)
                    try (have c24b8 := c24b2; simp only [ByteArray.size_append, show ((⟨#[59, 32]⟩ : ByteArray) : ByteArray).size = 2 from rfl, show ((⟨#[61]⟩ : ByteArray) : ByteArray).size = 1 from rfl, show ((⟨#[77, 97, 120, 45, 65, 103, 101, 61]⟩ : ByteArray) : ByteArray).size = 8 from rfl] at c24b8)
                    by_cases c25 : (((((a0_0 ++ (⟨#[61]⟩ : ByteArray)) ++ a0_1) ++ (⟨#[59, 32]⟩ : ByteArray)) ++ (⟨#[77, 97, 120, 45, 65, 103, 101, 61]⟩ : ByteArray)) ++ t115).size + 43 ≤ 9223372036854775807
                    · rw [if_pos c25] at H
                      have c25b0 := eq_true c25
                      have c25b1 : decide ((((((a0_0 ++ (⟨#[61]⟩ : ByteArray)) ++ a0_1) ++ (⟨#[59, 32]⟩ : ByteArray)) ++ (⟨#[77, 97, 120, 45, 65, 103, 101, 61]⟩ : ByteArray)) ++ t115).size + 43 ≤ 9223372036854775807) = true := decide_eq_true c25
                      try have c25b2 : (9223372036854775807 < (((((a0_0 ++ (⟨#[61]⟩ : ByteArray)) ++ a0_1) ++ (⟨#[59, 32]⟩ : ByteArray)) ++ (⟨#[77, 97, 120, 45, 65, 103, 101, 61]⟩ : ByteArray)) ++ t115).size + 43) = False := eq_false (Nat.not_lt.2 c25)
                      try (have c25b8 := c25b2; simp only [ByteArray.size_append, show ((⟨#[59, 32]⟩ : ByteArray) : ByteArray).size = 2 from rfl, show ((⟨#[61]⟩ : ByteArray) : ByteArray).size = 1 from rfl, show ((⟨#[77, 97, 120, 45, 65, 103, 101, 61]⟩ : ByteArray) : ByteArray).size = 8 from rfl] at c25b8)
                      simp only [Option.some.injEq, Prod.mk.injEq] at H
                      obtain ⟨rfl, rfl⟩ := H
                      go_enter Tryd.func18, Tryd.ntmps18
                      try go_wp2_with (first | ((with_reducible refine gate_dst (N := 2) rfl ?_); refine box_event ?hg (N := 2) ?hd (cs := #[.string a0_0, .string a0_1]) (t := 38) ?hr ?_; (case hd => rfl); (case hg => rfl); (case hr => first | (go_simp; done) | (go_simp; rfl)); intro gb112 hg w26 hbox hb; have n0_ := Aside0.mk (below_step (by repeat (first | (with_reducible first | exact HB.out | apply below_alloc | apply pw_below_drewN | apply below_drew1) | exact HB.out)) hb); have n1_ := Aside0.mk (hbox); have n2_ := Aside0.mk ((by rw [hg]; exact (below_size (by repeat (first | (with_reducible first | exact HB.out | apply below_alloc | apply pw_below_drewN | apply below_drew1) | exact HB.out))) : w.heap.size ≤ gb112)); have n3_ := Aside0.mk ((by rw [hg]; exact (below_size (by repeat (first | (with_reducible first | exact HB.out | apply below_alloc | apply pw_below_drewN | apply below_drew1) | exact HB.out))) : w.heap.size ≤ gb112)); clear HB; have HB := n0_; have BK112 := n1_; have GW112 := n2_; have GE112 := n3_; clear n0_ n1_ n2_ n3_; clear hb hbox hg; have hcz27_0 : w26.cell? ⟨gb112, 0, none⟩ = some (.string a0_0) := (blk_cell BK112.out 0).trans rfl; have hcz27_1 : w26.cell? ⟨gb112, 1, none⟩ = some (.string a0_1) := (blk_cell BK112.out 1).trans rfl; have hfz27_0 := blk_frozen BK112.out 0; have hfz27_1 := blk_frozen BK112.out 1) | ((with_reducible refine gate_callee (f := 32) rfl ?_); refine goesL_ (some 8) rfl rfl Tryd.func32 (by kernel_rfl) rfl #[.string a0_0] rfl (by (try simp only [List.map_toArray, List.map_cons, List.map_nil]); first | done | rfl | (simp only [List.length_drop, List.length_take]; rfl)) ?_; (with_reducible refine (head_Token.calls a0_0 true _ A3.out).mono ?_); rintro e w28 ⟨rfl, hb⟩; refine ⟨_, rfl, ?_⟩; have n0_ := Aside0.mk (blk_below (g := gb112) (o := .cells #[.string a0_0, .string a0_1] 38 (0, 0)) (by (with_reducible repeat (first | refine blk_drewN ?_ _ | refine blk_drew ?_ | refine blk_alloc ?_ _)); exact BK112.out) hb); have n1_ := Aside0.mk (below_step (by repeat (first | (with_reducible first | exact HB.out | apply below_alloc | apply pw_below_drewN | apply below_drew1 | refine below_set ?_ GE112.out) | exact HB.out)) hb); clear BK112; clear HB; have BK112 := n0_; have HB := n1_; clear n0_ n1_; (try clear hb); (try clear hb2); (try clear hk); (try clear hi); have hcz29_0 : w28.cell? ⟨gb112, 0, none⟩ = some (.string a0_0) := (blk_cell BK112.out 0).trans rfl; have hcz29_1 : w28.cell? ⟨gb112, 1, none⟩ = some (.string a0_1) := (blk_cell BK112.out 1).trans rfl; have hfz29_0 := blk_frozen BK112.out 0; have hfz29_1 := blk_frozen BK112.out 1) | (go_at_call 33; (with_reducible refine (cookie_octets.calls a0_1 true _ A5.out).mono ?_); rintro e w30 ⟨rfl, hb⟩; have n0_ := Aside0.mk (blk_below (g := gb112) (o := .cells #[.string a0_0, .string a0_1] 38 (0, 0)) (by (with_reducible repeat (first | refine blk_drewN ?_ _ | refine blk_drew ?_ | refine blk_alloc ?_ _)); exact BK112.out) hb); have n1_ := Aside0.mk (below_step (by repeat (first | (with_reducible first | exact HB.out | apply below_alloc | apply pw_below_drewN | apply below_drew1 | refine below_set ?_ GE112.out) | exact HB.out)) hb); clear BK112; clear HB; have BK112 := n0_; have HB := n1_; clear n0_ n1_; (try clear hb); (try clear hb2); (try clear hk); (try clear hi)))
                      have n0_ := Aside0.mk (blk_drew BK112.out)
                      have n1_ := Aside0.mk (below_drew1 HB.out)
                      clear BK112
                      clear HB
                      have BK112 := n0_
                      have HB := n1_
                      clear n0_ n1_
                      refine start_ (n := 14) (S := fun w' => w'.cell? ⟨gb112, 0, none⟩ = some (.string a0_0) ∧ w'.cell? ⟨gb112, 1, none⟩ = some (.string a0_1)) (ds := []) #[false, false, false, false, false, false, false, false, false, false, false, false, false, false] (by kernel_rfl) rfl rfl ⟨(blk_cell BK112.out 0).trans rfl, (blk_cell BK112.out 1).trans rfl⟩ (fun hHeld => ?_); refine with_tabW cookie_Set.tab3 cookie_Set.bits3 (fun HT_ HW_ => ?_)
                      generalize w30.drew = w31 at BK112 HB hHeld ⊢
                      refine pure_ (i := 0) (N := some 24) (v := ?_) (a' := ?_) #[true, false, false, false, false, false, false, false, false, false, false, false, false, false] rfl rfl (any_of HT_.out (by kernel_rfl)) (fun _ _ _ h => h) (Or.inl ⟨by rfl, ?_⟩) ?_ ?_
                      rotate_left
                      · intro w'
                        go_simp
                        with_reducible rfl
                      rotate_left
                      · simp only [Act.put, List.setIfInBounds_toArray, List.set_cons_zero, List.set_cons_succ, i64_w, i32_w]
                        rfl
                      refine pure_ (i := 3) (N := some 27) (v := ?_) (a' := ?_) #[true, false, false, true, false, false, false, false, false, false, false, false, false, false] rfl rfl (any_of HT_.out (by kernel_rfl)) (fun _ _ _ h => h) (Or.inl ⟨by rfl, ?_⟩) ?_ ?_
                      rotate_left
                      · intro w'
                        go_simp
                        with_reducible rfl
                      rotate_left
                      · simp only [Act.put, List.setIfInBounds_toArray, List.set_cons_zero, List.set_cons_succ, i64_w, i32_w]
                        rfl
                      refine pure_ (i := 8) (N := some 32) (v := ?_) (a' := ?_) #[true, false, false, true, false, false, false, false, true, false, false, false, false, false] rfl rfl (any_of HT_.out (by kernel_rfl)) (fun _ _ _ h => h) (Or.inl ⟨by rfl, ?_⟩) ?_ ?_
                      rotate_left
                      · intro w'
                        go_simp
                        with_reducible rfl
                      rotate_left
                      · simp only [Act.put, List.setIfInBounds_toArray, List.set_cons_zero, List.set_cons_succ, i64_w, i32_w]
                        rfl
                      refine take_ (i := 1) (N := some 25) (v := ?_) (a' := ?_) #[true, true, false, true, false, false, false, false, true, false, false, false, false, false] rfl rfl (take_ofW HT_.out HW_.out (by kernel_rfl)) (fun _ _ _ h => h) (Or.inl ⟨by rfl, ?_⟩) hHeld ?_ ?_
                      rotate_left
                      · rintro w' ⟨s0, s1⟩
                        go_simp
                        with_reducible rfl
                      rotate_left
                      · simp only [Act.put, List.setIfInBounds_toArray, List.set_cons_zero, List.set_cons_succ, i64_w, i32_w]
                        rfl
                      refine pure_ (i := 2) (N := some 26) (v := ?_) (a' := ?_) #[true, true, true, true, false, false, false, false, true, false, false, false, false, false] rfl rfl (any_of HT_.out (by kernel_rfl)) (fun _ _ _ h => h) (Or.inl ⟨by rfl, ?_⟩) ?_ ?_
                      rotate_left
                      · intro w'
                        go_simp
                        with_reducible rfl
                      rotate_left
                      · simp only [Act.put, List.setIfInBounds_toArray, List.set_cons_zero, List.set_cons_succ, i64_w, i32_w]
                        rfl
                      refine take_ (i := 4) (N := some 28) (v := ?_) (a' := ?_) #[true, true, true, true, true, false, false, false, true, false, false, false, false, false] rfl rfl (take_ofW HT_.out HW_.out (by kernel_rfl)) (fun _ _ _ h => h) (Or.inl ⟨by rfl, ?_⟩) hHeld ?_ ?_
                      rotate_left
                      · rintro w' ⟨s0, s1⟩
                        go_simp
                        with_reducible rfl
                      rotate_left
                      · simp only [Act.put, List.setIfInBounds_toArray, List.set_cons_zero, List.set_cons_succ, i64_w, i32_w]
                        rfl
                      refine pure_ (i := 5) (N := some 29) (v := ?_) (a' := ?_) #[true, true, true, true, true, true, false, false, true, false, false, false, false, false] rfl rfl (any_of HT_.out (by kernel_rfl)) (fun _ _ _ h => h) (Or.inl ⟨by rfl, ?_⟩) ?_ ?_
                      rotate_left
                      · intro w'
                        go_simp
                        with_reducible rfl
                      rotate_left
                      · simp only [Act.put, List.setIfInBounds_toArray, List.set_cons_zero, List.set_cons_succ, i64_w, i32_w]
                        rfl
                      refine pure_ (i := 6) (N := some 30) (v := ?_) (a' := ?_) #[true, true, true, true, true, true, true, false, true, false, false, false, false, false] rfl rfl (any_of HT_.out (by kernel_rfl)) (fun _ _ _ h => h) (Or.inl ⟨by rfl, ?_⟩) ?_ ?_
                      rotate_left
                      · intro w'
                        go_simp
                        with_reducible rfl
                      rotate_left
                      · simp only [Act.put, List.setIfInBounds_toArray, List.set_cons_zero, List.set_cons_succ, i64_w, i32_w]
                        rfl
                      refine pure_ (i := 7) (N := some 31) (v := ?_) (a' := ?_) #[true, true, true, true, true, true, true, true, true, false, false, false, false, false] rfl rfl (any_of HT_.out (by kernel_rfl)) (fun _ _ _ h => h) (Or.inl ⟨by rfl, ?_⟩) ?_ ?_
                      rotate_left
                      · intro w'
                        go_simp
                        with_reducible rfl
                      rotate_left
                      · simp only [Act.put, List.setIfInBounds_toArray, List.set_cons_zero, List.set_cons_succ, i64_w, i32_w]
                        rfl
                      refine one_ (i := 9) (N := some 33) #[true, true, true, true, true, true, true, true, true, true, false, false, false, false] rfl rfl (one_of HT_.out (by kernel_rfl)) (by decide) (fun K hK => ?_)
                      refine goes_ Tryd.func34 (by kernel_rfl) rfl #[.int .i64 a1] (by rfl) rfl rfl (by (try simp only [List.map_toArray, List.map_cons, List.map_nil]); first | done | rfl | (simp only [List.length_drop, List.length_take]; rfl)) ?_
                      with_reducible refine (strconv_Itoa.calls a1 t115 _ (by first | exact hS | (refine Sh.of_below hS ?_; repeat (first | (with_reducible first | exact HB.out | apply below_alloc | apply pw_below_drewN | apply below_drew1) | exact HB.out | refine Below.setCell ?_ (Aside0.out (by assumption)) _)) | (refine Sh.of_below hS ?_; assumption)) A23.out).mono ?_
                      rintro e w32 ⟨rfl, hb⟩
                      refine ⟨_, rfl, ?_⟩
                      have n0_ := Aside0.mk (blk_below (g := gb112) (o := .cells #[.string a0_0, .string a0_1] 38 (0, 0)) (by (with_reducible repeat (first | refine blk_drewN ?_ _ | refine blk_drew ?_ | refine blk_alloc ?_ _)); exact BK112.out) hb)
                      have n1_ := Aside0.mk (below_step (by repeat (first | (with_reducible first | exact HB.out | apply below_alloc | apply pw_below_drewN | apply below_drew1 | refine below_set ?_ GE112.out) | exact HB.out)) hb)
                      clear BK112
                      clear HB
                      have BK112 := n0_
                      have HB := n1_
                      clear n0_ n1_
                      (try clear hb)
                      (try clear hb2)
                      (try clear hk)
                      (try clear hi)
                      refine hK.out _ _ ⟨(blk_cell BK112.out 0).trans rfl, (blk_cell BK112.out 1).trans rfl⟩ (fun hHeld => ?_)
                      clear hK K
                      refine norm_ (a' := ?_) ?_ ?_
                      rotate_left
                      · show Act.put _ (some 33) _ = _
                        simp only [Act.put, List.setIfInBounds_toArray, List.set_cons_zero, List.set_cons_succ, i64_w, i32_w]
                        rfl
                      refine pure_ (i := 10) (N := some 34) (v := ?_) (a' := ?_) #[true, true, true, true, true, true, true, true, true, true, true, false, false, false] rfl rfl (any_of HT_.out (by kernel_rfl)) (fun _ _ _ h => h) (Or.inl ⟨by rfl, ?_⟩) ?_ ?_
                      rotate_left
                      · intro w'
                        go_simp
                        with_reducible rfl
                      rotate_left
                      · simp only [Act.put, List.setIfInBounds_toArray, List.set_cons_zero, List.set_cons_succ, i64_w, i32_w]
                        rfl
                      refine pure_ (i := 11) (N := some 35) (v := ?_) (a' := ?_) #[true, true, true, true, true, true, true, true, true, true, true, true, false, false] rfl rfl (any_of HT_.out (by kernel_rfl)) (fun _ _ _ h => h) (Or.inl ⟨by rfl, ?_⟩) ?_ ?_
                      rotate_left
                      · intro w'
                        go_simp
                        with_reducible rfl
                      rotate_left
                      · simp only [Act.put, List.setIfInBounds_toArray, List.set_cons_zero, List.set_cons_succ, i64_w, i32_w]
                        rfl
                      refine pure_ (i := 12) (N := some 4) (v := ?_) (a' := ?_) #[true, true, true, true, true, true, true, true, true, true, true, true, true, false] rfl rfl (any_of HT_.out (by kernel_rfl)) (fun _ _ _ h => h) (Or.inl ⟨by rfl, ?_⟩) ?_ ?_
                      rotate_left
                      · intro w'
                        go_simp
                        with_reducible rfl
                      rotate_left
                      · simp only [Act.put, List.setIfInBounds_toArray, List.set_cons_zero, List.set_cons_succ, i64_w, i32_w]
                        rfl
                      refine pure_ (i := 13) (N := some 5) (v := ?_) (a' := ?_) #[true, true, true, true, true, true, true, true, true, true, true, true, true, true] rfl rfl (any_of HT_.out (by kernel_rfl)) (fun _ _ _ h => h) (Or.inl ⟨by rfl, ?_⟩) ?_ ?_
                      rotate_left
                      · intro w'
                        go_simp
                        with_reducible rfl
                      rotate_left
                      · simp only [Act.put, List.setIfInBounds_toArray, List.set_cons_zero, List.set_cons_succ, i64_w, i32_w]
                        rfl
                      refine done_ (done_of HT_.out (by kernel_rfl)) ?_
                      try go_wp2
                      go_ret2
                      exact ⟨by first | rfl | (simp [errW_none, errW_some] <;> rfl) | (simp [*, errW_none, errW_some] <;> rfl), by repeat (first | (with_reducible first | exact HB.out | apply below_alloc | apply pw_below_drewN | apply below_drew1 | refine below_set ?_ GE112.out) | exact HB.out)⟩
                    · rw [if_neg c25] at H
                      exact absurd H (by simp)
                  · rw [if_neg c24] at H
                    exact absurd H (by simp)
                · rw [if_neg c22] at H
                  exact absurd H (by simp)
              · rw [if_neg c21] at H
                exact absurd H (by simp)
            · rw [if_neg c20] at H
              exact absurd H (by simp)
          · rw [if_neg c19] at H
            exact absurd H (by simp)
    · replace c6 := Bool.eq_false_iff.mpr c6
      subst c6
      have H1 : (some ((⟨#[]⟩ : ByteArray), 1)) = some (r1, r2) := by rw [if_neg (show ¬ (false = true) by decide)] at H; exact H
      clear H
      have H := H1
      clear H1
      simp only [Option.some.injEq, Prod.mk.injEq] at H
      obtain ⟨rfl, rfl⟩ := H
      go_enter Tryd.func18, Tryd.ntmps18
      go_wp2_with (first | ((with_reducible refine gate_dst (N := 2) rfl ?_); refine box_event ?hg (N := 2) ?hd (cs := #[.string a0_0, .string a0_1]) (t := 38) ?hr ?_; (case hd => rfl); (case hg => rfl); (case hr => first | (go_simp; done) | (go_simp; rfl)); intro gb112 hg w33 hbox hb; have n0_ := Aside0.mk (below_step (by repeat (first | (with_reducible first | exact HB.out | apply below_alloc | apply pw_below_drewN | apply below_drew1) | exact HB.out)) hb); have n1_ := Aside0.mk (hbox); have n2_ := Aside0.mk ((by rw [hg]; exact (below_size (by repeat (first | (with_reducible first | exact HB.out | apply below_alloc | apply pw_below_drewN | apply below_drew1) | exact HB.out))) : w.heap.size ≤ gb112)); have n3_ := Aside0.mk ((by rw [hg]; exact (below_size (by repeat (first | (with_reducible first | exact HB.out | apply below_alloc | apply pw_below_drewN | apply below_drew1) | exact HB.out))) : w.heap.size ≤ gb112)); clear HB; have HB := n0_; have BK112 := n1_; have GW112 := n2_; have GE112 := n3_; clear n0_ n1_ n2_ n3_; clear hb hbox hg; have hcz34_0 : w33.cell? ⟨gb112, 0, none⟩ = some (.string a0_0) := (blk_cell BK112.out 0).trans rfl; have hcz34_1 : w33.cell? ⟨gb112, 1, none⟩ = some (.string a0_1) := (blk_cell BK112.out 1).trans rfl; have hfz34_0 := blk_frozen BK112.out 0; have hfz34_1 := blk_frozen BK112.out 1) | ((with_reducible refine gate_callee (f := 32) rfl ?_); refine goesL_ (some 8) rfl rfl Tryd.func32 (by kernel_rfl) rfl #[.string a0_0] rfl (by (try simp only [List.map_toArray, List.map_cons, List.map_nil]); first | done | rfl | (simp only [List.length_drop, List.length_take]; rfl)) ?_; (with_reducible refine (head_Token.calls a0_0 true _ A3.out).mono ?_); rintro e w35 ⟨rfl, hb⟩; refine ⟨_, rfl, ?_⟩; have n0_ := Aside0.mk (blk_below (g := gb112) (o := .cells #[.string a0_0, .string a0_1] 38 (0, 0)) (by (with_reducible repeat (first | refine blk_drewN ?_ _ | refine blk_drew ?_ | refine blk_alloc ?_ _)); exact BK112.out) hb); have n1_ := Aside0.mk (below_step (by repeat (first | (with_reducible first | exact HB.out | apply below_alloc | apply pw_below_drewN | apply below_drew1 | refine below_set ?_ GE112.out) | exact HB.out)) hb); clear BK112; clear HB; have BK112 := n0_; have HB := n1_; clear n0_ n1_; (try clear hb); (try clear hb2); (try clear hk); (try clear hi); have hcz36_0 : w35.cell? ⟨gb112, 0, none⟩ = some (.string a0_0) := (blk_cell BK112.out 0).trans rfl; have hcz36_1 : w35.cell? ⟨gb112, 1, none⟩ = some (.string a0_1) := (blk_cell BK112.out 1).trans rfl; have hfz36_0 := blk_frozen BK112.out 0; have hfz36_1 := blk_frozen BK112.out 1) | (go_at_call 33; (with_reducible refine (cookie_octets.calls a0_1 false _ A5.out).mono ?_); rintro e w37 ⟨rfl, hb⟩; have n0_ := Aside0.mk (blk_below (g := gb112) (o := .cells #[.string a0_0, .string a0_1] 38 (0, 0)) (by (with_reducible repeat (first | refine blk_drewN ?_ _ | refine blk_drew ?_ | refine blk_alloc ?_ _)); exact BK112.out) hb); have n1_ := Aside0.mk (below_step (by repeat (first | (with_reducible first | exact HB.out | apply below_alloc | apply pw_below_drewN | apply below_drew1 | refine below_set ?_ GE112.out) | exact HB.out)) hb); clear BK112; clear HB; have BK112 := n0_; have HB := n1_; clear n0_ n1_; (try clear hb); (try clear hb2); (try clear hk); (try clear hi)))
      go_ret2
      exact ⟨by first | rfl | (simp [errW_none, errW_some] <;> rfl) | (simp [*, errW_none, errW_some] <;> rfl), by repeat (first | (with_reducible first | exact HB.out | apply below_alloc | apply pw_below_drewN | apply below_drew1 | refine below_set ?_ GE112.out) | exact HB.out)⟩
  · replace c4 := Bool.eq_false_iff.mpr c4
    subst c4
    have H1 : (some ((⟨#[]⟩ : ByteArray), 1)) = some (r1, r2) := by rw [if_neg (show ¬ (false = true) by decide)] at H; exact H
    clear H
    have H := H1
    clear H1
    simp only [Option.some.injEq, Prod.mk.injEq] at H
    obtain ⟨rfl, rfl⟩ := H
    go_enter Tryd.func18, Tryd.ntmps18
    go_wp2_with (first | ((with_reducible refine gate_dst (N := 2) rfl ?_); refine box_event ?hg (N := 2) ?hd (cs := #[.string a0_0, .string a0_1]) (t := 38) ?hr ?_; (case hd => rfl); (case hg => rfl); (case hr => first | (go_simp; done) | (go_simp; rfl)); intro gb112 hg w38 hbox hb; have n0_ := Aside0.mk (below_step (by repeat (first | (with_reducible first | exact HB.out | apply below_alloc | apply pw_below_drewN | apply below_drew1) | exact HB.out)) hb); have n1_ := Aside0.mk (hbox); have n2_ := Aside0.mk ((by rw [hg]; exact (below_size (by repeat (first | (with_reducible first | exact HB.out | apply below_alloc | apply pw_below_drewN | apply below_drew1) | exact HB.out))) : w.heap.size ≤ gb112)); have n3_ := Aside0.mk ((by rw [hg]; exact (below_size (by repeat (first | (with_reducible first | exact HB.out | apply below_alloc | apply pw_below_drewN | apply below_drew1) | exact HB.out))) : w.heap.size ≤ gb112)); clear HB; have HB := n0_; have BK112 := n1_; have GW112 := n2_; have GE112 := n3_; clear n0_ n1_ n2_ n3_; clear hb hbox hg; have hcz39_0 : w38.cell? ⟨gb112, 0, none⟩ = some (.string a0_0) := (blk_cell BK112.out 0).trans rfl; have hcz39_1 : w38.cell? ⟨gb112, 1, none⟩ = some (.string a0_1) := (blk_cell BK112.out 1).trans rfl; have hfz39_0 := blk_frozen BK112.out 0; have hfz39_1 := blk_frozen BK112.out 1) | ((with_reducible refine gate_callee (f := 32) rfl ?_); refine goesL_ (some 8) rfl rfl Tryd.func32 (by kernel_rfl) rfl #[.string a0_0] rfl (by (try simp only [List.map_toArray, List.map_cons, List.map_nil]); first | done | rfl | (simp only [List.length_drop, List.length_take]; rfl)) ?_; (with_reducible refine (head_Token.calls a0_0 false _ A3.out).mono ?_); rintro e w40 ⟨rfl, hb⟩; refine ⟨_, rfl, ?_⟩; have n0_ := Aside0.mk (blk_below (g := gb112) (o := .cells #[.string a0_0, .string a0_1] 38 (0, 0)) (by (with_reducible repeat (first | refine blk_drewN ?_ _ | refine blk_drew ?_ | refine blk_alloc ?_ _)); exact BK112.out) hb); have n1_ := Aside0.mk (below_step (by repeat (first | (with_reducible first | exact HB.out | apply below_alloc | apply pw_below_drewN | apply below_drew1 | refine below_set ?_ GE112.out) | exact HB.out)) hb); clear BK112; clear HB; have BK112 := n0_; have HB := n1_; clear n0_ n1_; (try clear hb); (try clear hb2); (try clear hk); (try clear hi)))
    go_ret2
    exact ⟨by first | rfl | (simp [errW_none, errW_some] <;> rfl) | (simp [*, errW_none, errW_some] <;> rfl), by repeat (first | (with_reducible first | exact HB.out | apply below_alloc | apply pw_below_drewN | apply below_drew1 | refine below_set ?_ GE112.out) | exact HB.out)⟩

-- NOT PRINTED: function 11 (wicketmanlaw11_known)

/-! ### wicketmanlaw11_Value: function 12 -/
def wicketmanlaw11_Value.l0 : Nat → List Int → List ByteArray → ByteArray → Int → Option (ByteArray)
  | 0, _, _, _, _ => none
  | k + 1, x0, x3, x4, x5 => if x5 < (x0.length : Int) then (if x5 < 20 then (if 0 ≤ x5 then (if 0 ≤ (Int.tmod (rd x0 x5) 16) then (if (Int.tmod (rd x0 x5) 16) < (x3.length : Int) then (if x4.size + (rdOf ByteArray.empty x3 (Int.tmod (rd x0 x5) 16)).size ≤ 9223372036854775807 then (wicketmanlaw11_Value.l0 k x0 x3 (x4 ++ (rdOf ByteArray.empty x3 (Int.tmod (rd x0 x5) 16))) (wrap64 (x5 + 1))) else (none)) else (none)) else (none)) else (none)) else (some x4)) else (some x4)
def wicketmanlaw11_Value.f (k : Nat) (l0 : List Int) : Option (ByteArray) := wicketmanlaw11_Value.l0 k l0 (([(⟨#[97, 61, 49]⟩ : ByteArray), (⟨#[95, 95, 72, 111, 115, 116, 45, 105, 100, 61]⟩ : ByteArray), (⟨#[53]⟩ : ByteArray), (⟨#[59, 32]⟩ : ByteArray), (⟨#[59, 32]⟩ : ByteArray), (⟨#[61]⟩ : ByteArray), (⟨#[34]⟩ : ByteArray), (⟨#[98]⟩ : ByteArray), (⟨#[95, 95, 72, 111, 115, 116, 45, 73, 68, 61, 120]⟩ : ByteArray), (⟨#[59]⟩ : ByteArray), (⟨#[32]⟩ : ByteArray), (⟨#[44]⟩ : ByteArray), (⟨#[92]⟩ : ByteArray), (⟨#[95, 95, 72, 111, 115, 116, 45, 105, 100, 61, 55]⟩ : ByteArray), (⟨#[59, 32, 97, 61, 34, 113, 34]⟩ : ByteArray), (⟨#[40, 61, 49]⟩ : ByteArray)] : List ByteArray)) (⟨#[]⟩ : ByteArray) 0
theorem wicketmanlaw11_Value.mono_l : ∀ k, (∀ y0 y1 y2 y3, LeO (wicketmanlaw11_Value.l0 k y0 y1 y2 y3) (wicketmanlaw11_Value.l0 (k + 1) y0 y1 y2 y3))
  | 0 => fun _ _ _ _ r h => by simp [wicketmanlaw11_Value.l0] at h
  | k + 1 => by
    have ih0 := wicketmanlaw11_Value.mono_l k
    · intro y0 y1 y2 y3
      unfold wicketmanlaw11_Value.l0
      repeat' first
      | (with_reducible exact ih0 _ _ _ _)
      | (with_reducible exact LeO.refl _)
      | (with_reducible exact LeO.none _)
      | (with_reducible refine LeO.ite ?_ ?_)
      | (with_reducible refine LeO.bind ?_ (fun _ => ?_))
      | exact ih0 _ _ _ _
      | exact LeO.none _
      | refine LeO.ite ?_ ?_
      | refine LeO.bind ?_ (fun _ => ?_)
theorem wicketmanlaw11_Value.mono : ∀ a0 k, LeO (wicketmanlaw11_Value.f k a0) (wicketmanlaw11_Value.f (k + 1) a0) := by
  intro a0 k
  have ih0 := wicketmanlaw11_Value.mono_l k
  unfold wicketmanlaw11_Value.f
  repeat' first
      | (with_reducible exact ih0 _ _ _ _)
      | (with_reducible exact LeO.refl _)
      | (with_reducible exact LeO.none _)
      | (with_reducible refine LeO.ite ?_ ?_)
      | (with_reducible refine LeO.bind ?_ (fun _ => ?_))
      | exact ih0 _ _ _ _
      | exact LeO.none _
      | refine LeO.ite ?_ ?_
      | refine LeO.bind ?_ (fun _ => ?_)
set_option maxHeartbeats 8000000 in
set_option maxRecDepth 100000 in
theorem wicketmanlaw11_Value.calls (k : Nat) (A0 : Option Addr) (c0 : Nat) (l0 : List Int) (r : ByteArray) (w : World) (hr0 : Kd.C (Kd.int .u8) w A0 l0.length l0) (hc0 : l0.length ≤ c0) (h : wicketmanlaw11_Value.f k l0 = some r) :
    Calls Tryd.prog 12 #[.slice A0 l0.length c0] w fun e w' => e = .returned (.string r) ∧ Below w.heap.size w w' := by
  have HR0 := Aside0.mk hr0
  have HC0 := Aside0.mk hc0
  clear hr0 hc0
  have HB := Aside0.mk (Below.refl w.heap.size w)
  have H : (wicketmanlaw11_Value.l0 k l0 (([(⟨#[97, 61, 49]⟩ : ByteArray), (⟨#[95, 95, 72, 111, 115, 116, 45, 105, 100, 61]⟩ : ByteArray), (⟨#[53]⟩ : ByteArray), (⟨#[59, 32]⟩ : ByteArray), (⟨#[59, 32]⟩ : ByteArray), (⟨#[61]⟩ : ByteArray), (⟨#[34]⟩ : ByteArray), (⟨#[98]⟩ : ByteArray), (⟨#[95, 95, 72, 111, 115, 116, 45, 73, 68, 61, 120]⟩ : ByteArray), (⟨#[59]⟩ : ByteArray), (⟨#[32]⟩ : ByteArray), (⟨#[44]⟩ : ByteArray), (⟨#[92]⟩ : ByteArray), (⟨#[95, 95, 72, 111, 115, 116, 45, 105, 100, 61, 55]⟩ : ByteArray), (⟨#[59, 32, 97, 61, 34, 113, 34]⟩ : ByteArray), (⟨#[40, 61, 49]⟩ : ByteArray)] : List ByteArray)) (⟨#[]⟩ : ByteArray) 0) = some r := h
  clear h
  obtain ⟨y119, hy119⟩ : ∃ y_ : List ByteArray, y_ = (([(⟨#[97, 61, 49]⟩ : ByteArray), (⟨#[95, 95, 72, 111, 115, 116, 45, 105, 100, 61]⟩ : ByteArray), (⟨#[53]⟩ : ByteArray), (⟨#[59, 32]⟩ : ByteArray), (⟨#[59, 32]⟩ : ByteArray), (⟨#[61]⟩ : ByteArray), (⟨#[34]⟩ : ByteArray), (⟨#[98]⟩ : ByteArray), (⟨#[95, 95, 72, 111, 115, 116, 45, 73, 68, 61, 120]⟩ : ByteArray), (⟨#[59]⟩ : ByteArray), (⟨#[32]⟩ : ByteArray), (⟨#[44]⟩ : ByteArray), (⟨#[92]⟩ : ByteArray), (⟨#[95, 95, 72, 111, 115, 116, 45, 105, 100, 61, 55]⟩ : ByteArray), (⟨#[59, 32, 97, 61, 34, 113, 34]⟩ : ByteArray), (⟨#[40, 61, 49]⟩ : ByteArray)] : List ByteArray)) := ⟨_, rfl⟩
  replace H : (wicketmanlaw11_Value.l0 k l0 y119 (⟨#[]⟩ : ByteArray) 0) = some r := by first | (rw [hy119]; with_reducible exact H) | (have H2_ := (Option.bind_some _ _).symm.trans H; rw [hy119]; with_reducible exact H2_) | (have H2_ := (Option.bind_some _ _).symm.trans H; with_reducible exact H2_) | with_reducible exact H | (rw [hy119]; exact H) | exact H
  have Ny119 := Aside0.mk hy119
  clear hy119
  have H' := Aside0.mk H
  clear H
  go_enter Tryd.func12, Tryd.ntmps12
  go_wp2_with (first | ((with_reducible refine gate_dst (N := 6) rfl ?_); refine Kd.R_lit Kd.string _ 9 ?hg (N := 6) ?hd (xs := ([(⟨#[97, 61, 49]⟩ : ByteArray), (⟨#[95, 95, 72, 111, 115, 116, 45, 105, 100, 61]⟩ : ByteArray), (⟨#[53]⟩ : ByteArray), (⟨#[59, 32]⟩ : ByteArray), (⟨#[59, 32]⟩ : ByteArray), (⟨#[61]⟩ : ByteArray), (⟨#[34]⟩ : ByteArray), (⟨#[98]⟩ : ByteArray), (⟨#[95, 95, 72, 111, 115, 116, 45, 73, 68, 61, 120]⟩ : ByteArray), (⟨#[59]⟩ : ByteArray), (⟨#[32]⟩ : ByteArray), (⟨#[44]⟩ : ByteArray), (⟨#[92]⟩ : ByteArray), (⟨#[95, 95, 72, 111, 115, 116, 45, 105, 100, 61, 55]⟩ : ByteArray), (⟨#[59, 32, 97, 61, 34, 113, 34]⟩ : ByteArray), (⟨#[40, 61, 49]⟩ : ByteArray)] : List ByteArray)) (inner := [.string (⟨#[97, 61, 49]⟩ : ByteArray), .string (⟨#[95, 95, 72, 111, 115, 116, 45, 105, 100, 61]⟩ : ByteArray), .string (⟨#[53]⟩ : ByteArray), .string (⟨#[59, 32]⟩ : ByteArray), .string (⟨#[59, 32]⟩ : ByteArray), .string (⟨#[61]⟩ : ByteArray), .string (⟨#[34]⟩ : ByteArray), .string (⟨#[98]⟩ : ByteArray), .string (⟨#[95, 95, 72, 111, 115, 116, 45, 73, 68, 61, 120]⟩ : ByteArray), .string (⟨#[59]⟩ : ByteArray), .string (⟨#[32]⟩ : ByteArray), .string (⟨#[44]⟩ : ByteArray), .string (⟨#[92]⟩ : ByteArray), .string (⟨#[95, 95, 72, 111, 115, 116, 45, 105, 100, 61, 55]⟩ : ByteArray), .string (⟨#[59, 32, 97, 61, 34, 113, 34]⟩ : ByteArray), .string (⟨#[40, 61, 49]⟩ : ByteArray)]) (ok := fun _ => True) (okp := fun _ => True) ?hr ?hp (fun _ hk => hk) trivial (Below.refl _ _) (Nat.le_refl _) (by simp) ?_; (case hd => rfl); (case hg => rfl); (case hr => first | (go_simp; done) | (go_simp; rfl)); (case hp => exact (Reps.one (show Kd.M Kd.string _ _ _ (⟨#[97, 61, 49]⟩ : ByteArray) [.string (⟨#[97, 61, 49]⟩ : ByteArray)] from rfl) (Reps.one (show Kd.M Kd.string _ _ _ (⟨#[95, 95, 72, 111, 115, 116, 45, 105, 100, 61]⟩ : ByteArray) [.string (⟨#[95, 95, 72, 111, 115, 116, 45, 105, 100, 61]⟩ : ByteArray)] from rfl) (Reps.one (show Kd.M Kd.string _ _ _ (⟨#[53]⟩ : ByteArray) [.string (⟨#[53]⟩ : ByteArray)] from rfl) (Reps.one (show Kd.M Kd.string _ _ _ (⟨#[59, 32]⟩ : ByteArray) [.string (⟨#[59, 32]⟩ : ByteArray)] from rfl) (Reps.one (show Kd.M Kd.string _ _ _ (⟨#[59, 32]⟩ : ByteArray) [.string (⟨#[59, 32]⟩ : ByteArray)] from rfl) (Reps.one (show Kd.M Kd.string _ _ _ (⟨#[61]⟩ : ByteArray) [.string (⟨#[61]⟩ : ByteArray)] from rfl) (Reps.one (show Kd.M Kd.string _ _ _ (⟨#[34]⟩ : ByteArray) [.string (⟨#[34]⟩ : ByteArray)] from rfl) (Reps.one (show Kd.M Kd.string _ _ _ (⟨#[98]⟩ : ByteArray) [.string (⟨#[98]⟩ : ByteArray)] from rfl) (Reps.one (show Kd.M Kd.string _ _ _ (⟨#[95, 95, 72, 111, 115, 116, 45, 73, 68, 61, 120]⟩ : ByteArray) [.string (⟨#[95, 95, 72, 111, 115, 116, 45, 73, 68, 61, 120]⟩ : ByteArray)] from rfl) (Reps.one (show Kd.M Kd.string _ _ _ (⟨#[59]⟩ : ByteArray) [.string (⟨#[59]⟩ : ByteArray)] from rfl) (Reps.one (show Kd.M Kd.string _ _ _ (⟨#[32]⟩ : ByteArray) [.string (⟨#[32]⟩ : ByteArray)] from rfl) (Reps.one (show Kd.M Kd.string _ _ _ (⟨#[44]⟩ : ByteArray) [.string (⟨#[44]⟩ : ByteArray)] from rfl) (Reps.one (show Kd.M Kd.string _ _ _ (⟨#[92]⟩ : ByteArray) [.string (⟨#[92]⟩ : ByteArray)] from rfl) (Reps.one (show Kd.M Kd.string _ _ _ (⟨#[95, 95, 72, 111, 115, 116, 45, 105, 100, 61, 55]⟩ : ByteArray) [.string (⟨#[95, 95, 72, 111, 115, 116, 45, 105, 100, 61, 55]⟩ : ByteArray)] from rfl) (Reps.one (show Kd.M Kd.string _ _ _ (⟨#[59, 32, 97, 61, 34, 113, 34]⟩ : ByteArray) [.string (⟨#[59, 32, 97, 61, 34, 113, 34]⟩ : ByteArray)] from rfl) (Reps.one (show Kd.M Kd.string _ _ _ (⟨#[40, 61, 49]⟩ : ByteArray) [.string (⟨#[40, 61, 49]⟩ : ByteArray)] from rfl) (Reps.none _ _)))))))))))))))))); intro v120 w2 ho3 hb hg_ hnew_; clear hg_ hnew_; (first | rw [← Ny119.out] at ho3 | (simp only [Int.reduceToNat] at ho3; rw [← Ny119.out] at ho3)); have n0_ := Aside0.mk (Kd.R_lower ho3 (below_size (by repeat (first | (with_reducible first | exact HB.out | apply below_alloc | apply pw_below_drewN | apply below_drew1) | exact HB.out)))); have n1_ := Aside0.mk (below_step (by repeat (first | (with_reducible first | exact HB.out | apply below_alloc | apply pw_below_drewN | apply below_drew1) | exact HB.out)) hb); clear HB; have HO121 := n0_; have HB := n1_; clear n0_ n1_; clear hb ho3))
  go_loopg [4, 5] k (fun kq v4 v5 w' => ∃ (x4_1 : ByteArray) (x5_1 : Int), v4 = .string x4_1 ∧ v5 = .int .i64 x5_1 ∧ Aside0 (wicketmanlaw11_Value.l0 kq l0 y119 x4_1 x5_1 = some r) ∧ Aside0 (kq ≤ k) ∧ Aside0 (Kd.R Kd.string 9 w' w.heap.size (fun _ => True) v120 y119) ∧ Aside0 (Below w.heap.size w w'))
  case atStart => exact ⟨((⟨#[]⟩ : ByteArray)), (0), (by first | rfl | (simp; done) | (simp [*]; done)), (by first | rfl | (simp; done) | (simp [*]; done)), H', ⟨Nat.le_refl _⟩, ⟨by (with_reducible repeat (first | apply Kd.R_alloc | apply Kd.R_drewN | apply Kd.R_drew)); exact HO121.out⟩, ⟨by repeat (first | (with_reducible first | exact HB.out | apply below_alloc | apply pw_below_drewN | apply below_drew1) | exact HB.out)⟩⟩
  case round =>
    clear H'
    try clear c1
    try clear p2
    obtain ⟨x4_1, x5_1, rfl, rfl, HA, HK1, HO_3, HB⟩ := hrel
    cases gk with
    | zero => exact absurd HA.out (by simp [wicketmanlaw11_Value.l0])
    | succ k1 =>
      have H := HA.out
      clear HA
      simp only [wicketmanlaw11_Value.l0] at H
      by_cases c4 : x5_1 < (l0.length : Int)
      · rw [if_pos c4] at H
        have c4b0 : decide (x5_1 < (l0.length : Int)) = true := decide_eq_true c4
        clear c4
        by_cases c5 : x5_1 < 20
        · rw [if_pos c5] at H
          have c5b0 : decide (x5_1 < 20) = true := decide_eq_true c5
          clear c5
          by_cases c6 : 0 ≤ x5_1
          · rw [if_pos c6] at H
            have c6b0 : decide (0 ≤ x5_1) = true := decide_eq_true c6
            clear c6
            obtain ⟨ji7, hji7⟩ : ∃ j_ : Int, (Int.tmod (rd l0 x5_1) 16) = j_ := ⟨_, rfl⟩
            replace H : (if 0 ≤ (ji7) then (if (ji7) < (y119.length : Int) then (if x4_1.size + (rdOf ByteArray.empty y119 (ji7)).size ≤ 9223372036854775807 then (wicketmanlaw11_Value.l0 k1 l0 y119 (x4_1 ++ (rdOf ByteArray.empty y119 (ji7))) (wrap64 (x5_1 + 1))) else (none)) else (none)) else (none)) = some r := by first | (rw [hji7] at H; exact H) | (simp only [hji7] at H ⊢; exact H)
            by_cases c8 : 0 ≤ (ji7)
            · rw [if_pos c8] at H
              have c8b0 : decide (0 ≤ (ji7)) = true := decide_eq_true c8
              clear c8
              by_cases c9 : (ji7) < (y119.length : Int)
              · rw [if_pos c9] at H
                have c9b0 : decide ((ji7) < (y119.length : Int)) = true := decide_eq_true c9
                clear c9
                by_cases c10 : x4_1.size + (rdOf ByteArray.empty y119 (ji7)).size ≤ 9223372036854775807
                · rw [if_pos c10] at H
                  have c10b0 := eq_true c10
                  have c10b1 : decide (x4_1.size + (rdOf ByteArray.empty y119 (ji7)).size ≤ 9223372036854775807) = true := decide_eq_true c10
                  try have c10b2 : (9223372036854775807 < x4_1.size + (rdOf ByteArray.empty y119 (ji7)).size) = False := eq_false (Nat.not_lt.2 c10)
                  have H' := Aside0.mk H
                  clear H
                  have p122 : 0 ≤ (x5_1 : Int) := of_decide_eq_true (by first | (with_reducible assumption) | assumption)
                  have q122 : x5_1 < (l0.length : Int) := of_decide_eq_true (by first | (with_reducible assumption) | assumption)
                  obtain ⟨ad122, e122, hx122_0⟩ := Kd.at_int HR0.out x5_1 p122 q122
                  cases e122
                  replace hx122_0 := (HB.out.cell (World.block_lt_of_cell? w _ hx122_0)).trans hx122_0
                  replace p122 := eq_true p122
                  replace q122 := eq_true q122
                  obtain ⟨Ao11, co11, eo11⟩ := Kd.R_slice HO_3.out
                  subst eo11
                  have p123 : 0 ≤ ((ji7) : Int) := of_decide_eq_true (by first | (with_reducible assumption) | assumption)
                  have q123 : (ji7) < (y119.length : Int) := of_decide_eq_true (by first | (with_reducible assumption) | assumption)
                  obtain ⟨ad123, e123, hx123_0⟩ := Kd.at_string (Kd.R_reads' HO_3.out).2.2 (ji7) p123 q123
                  cases e123
                  replace p123 := eq_true p123
                  replace q123 := eq_true q123
                  go_wp2
                  go_roundg k1
                  case measure => have := HK1.out; omega
                  case rel => exact ⟨(x4_1 ++ (rdOf ByteArray.empty y119 (ji7))), (wrap64 (x5_1 + 1)), (by first | rfl | (simp; done) | (simp only [← hji7] <;> (first | rfl | simp)) | (simp [*]; done)), (by first | rfl | (simp; done) | (simp [*]; done)), H', ⟨by have := HK1.out; omega⟩, ⟨by (with_reducible repeat (first | apply Kd.R_alloc | apply Kd.R_drewN | apply Kd.R_drew)); exact HO_3.out⟩, ⟨by repeat (first | (with_reducible first | exact HB.out | apply below_alloc | apply pw_below_drewN | apply below_drew1) | exact HB.out)⟩⟩
                · rw [if_neg c10] at H
                  exact absurd H (by simp)
              · rw [if_neg c9] at H
                exact absurd H (by simp)
            · rw [if_neg c8] at H
              exact absurd H (by simp)
          · rw [if_neg c6] at H
            exact absurd H (by simp)
        · rw [if_neg c5] at H
          have c5b0 : decide (x5_1 < 20) = false := decide_eq_false c5
          clear c5
          obtain rfl := Option.some.inj H
          go_wp2
          go_ret
          exact ⟨by first | rfl | (simp [errW_none, errW_some] <;> rfl) | (simp [*, errW_none, errW_some] <;> rfl), by repeat (first | (with_reducible first | exact HB.out | apply below_alloc | apply pw_below_drewN | apply below_drew1) | exact HB.out)⟩
      · rw [if_neg c4] at H
        have c4b0 : decide (x5_1 < (l0.length : Int)) = false := decide_eq_false c4
        clear c4
        obtain rfl := Option.some.inj H
        go_wp2
        go_ret
        exact ⟨by first | rfl | (simp [errW_none, errW_some] <;> rfl) | (simp [*, errW_none, errW_some] <;> rfl), by repeat (first | (with_reducible first | exact HB.out | apply below_alloc | apply pw_below_drewN | apply below_drew1) | exact HB.out)⟩

end Go.Proofs.YtipbgnhhmgljnaaDoor.Pall

/-
  HttpOrder: fields come in their order, names as they were written, values without blanks at their ends.
-/
import Derived.Test.YtpfbemcoblganaaDoorQoRow
import Derived.Test.YtpfbemcoblganaaDoorTie
import Derived.Test.YtpfbemcoblganaaDoorCards
import Derived.Test.YtpfbemcoblganaaDoorQoPl09o
import Derived.Test.YtpfbemcoblganaaDoorQoPl09p
import Derived.Test.YtpfbemcoblganaaDoorQoHp
import Derived.Test.YtpfbemcoblganaaDoorQoPall3
import Derived.Deep.RegionHeld3
import Derived.Deep.RegionWith
namespace Go.Proofs.YtpfbemcoblganaaDoor.httpOrder
open Go.RowKit Go.Proofs.YtpfbemcoblganaaDoor.Pl Go.Proofs.YtpfbemcoblganaaDoor.Pall Go.Proofs.YtpfbemcoblganaaDoorW.PrintWords Go.Proofs.YtpfbemcoblganaaDoorW.PrintLast
set_option linter.unusedVariables false
set_option linter.unusedSimpArgs false
def prO (x : Int) : Nat × Nat := ((x % 26).toNat, (x / 16).toNat)
def txO (b : Nat) (l : List Int) : List UInt8 := joinL (getL :: hostA :: (l.map prO).map (ordL b))
theorem txO_step (b : Nat) (l : List Int) (x : Int) : txO b (l ++ [x]) = txO b l ++ (ordL b (prO x) ++ [13, 10]) := by
  unfold txO
  rw [List.map_append, List.map_append, List.map_singleton, List.map_singleton]
  show joinL ((getL :: hostA :: (l.map prO).map (ordL b)) ++ [ordL b (prO x)]) = _
  rw [joinL_app]
  simp [joinL]
theorem ordL_len (b : Nat) (p : Nat × Nat) : (ordL b p).length ≤ 9 := by
  have h1 : (blkL b).length ≤ 4 := by unfold blkL; rw [List.length_take]; exact Nat.min_le_right _ _
  unfold ordL nmO vlO
  simp only [List.length_append, List.length_cons, List.length_nil]
  omega
theorem txO_len (b : Nat) (l : List Int) : (txO b l).length ≤ 25 + 11 * l.length := by
  have h : ∀ l : List Int, (joinL ((l.map prO).map (ordL b))).length ≤ 11 * l.length := by
    intro l
    induction l with
    | nil => simp [joinL]
    | cons x l ih =>
      have h1 := ordL_len b (prO x)
      have e : joinL (((x :: l).map prO).map (ordL b)) = ordL b (prO x) ++ [13, 10] ++ joinL ((l.map prO).map (ordL b)) := by unfold joinL; rw [List.map_cons, List.map_cons, List.flatMap_cons]
      rw [e, List.length_append, List.length_append, List.length_cons]
      simp only [List.length_cons, List.length_nil]
      omega
  have e : txO b l = joinL [getL, hostA] ++ joinL ((l.map prO).map (ordL b)) := by unfold txO; rw [← joinL_app]; rfl
  rw [e, List.length_append]
  have h2 : (joinL [getL, hostA]).length = 25 := by decide
  have := h l
  omega
def fL (l : List Int) : List S43 := ⟨mkB [72, 111, 115, 116], mkB [97]⟩ :: (l.map prO).map fun p => ⟨mkB (nmO p.1), mkB (vlO p.2)⟩
theorem fL_len (l : List Int) : (fL l).length = l.length + 1 := by unfold fL; rw [List.length_cons, List.length_map, List.length_map]
theorem fL_at (l : List Int) (i : Nat) (h : i < l.length) : (fL l).getD (i + 1) z43 = ⟨mkB (nmO (prO (l.getD i 0)).1), mkB (vlO (prO (l.getD i 0)).2)⟩ := by
  unfold fL
  rw [List.getD_cons_succ, List.getD, List.getElem?_map, List.getElem?_map, List.getElem?_eq_getElem h, List.getD, List.getElem?_eq_getElem h]; rfl
theorem ord_f (b : Nat) (hb : b < 5) (l : List Int) (h8 : ∀ x ∈ l, 0 ≤ x ∧ x ≤ 255) (hl : l.length ≤ 20) : ∃ (r1 r2 : ByteArray) (r4 : List Int), http_Parse.f (btsOf (mkB (txO b l) ++ ⟨#[13, 10]⟩)) = some (r1, r2, fL l, r4, 0) := by
  have hpm : ∀ p ∈ l.map prO, p.1 < 26 ∧ p.2 < 16 := by
    intro p hp
    obtain ⟨x, hx, rfl⟩ := List.mem_map.1 hp
    have := h8 x hx
    unfold prO; exact ⟨by show (x % 26).toNat < 26; omega, by show (x / 16).toNat < 16; omega⟩
  obtain ⟨o1, o2⟩ := order_parse b hb (l.map prO) hpm (by rw [List.length_map]; exact hl)
  have hy : btsOf (mkB (txO b l) ++ ⟨#[13, 10]⟩) = numsL (joinL (getL :: hostA :: (l.map prO).map (ordL b)) ++ [13, 10]) := by
    rw [btsOf_nums]
    exact congrArg numsL (by simp [txO, mkB])
  have hz : (btsOf (mkB (txO b l) ++ ⟨#[13, 10]⟩)).length < 4294967281 := by
    have := txO_len b l
    rw [btsOf_len, ByteArray.size_append, mkB_size]
    show _ + 2 < _
    omega
  unfold http_Parse.f
  rw [if_pos hz, hy]
  generalize parseQ _ = q at o1 o2
  obtain ⟨q1, q2, q3, q4, q5⟩ := q
  dsimp only at o1 o2
  subst o1 o2
  exact ⟨_, _, _, rfl⟩
theorem keep_c {W : World} {p : Addr} {v : Value} (h : W.cell? p = some v) (o : Obj) : (W.alloc o).cell? p = some v := (((Below.refl _ W).alloc (Nat.le_refl _) o).cell (World.block_lt_of_cell? _ _ h)).trans h
theorem blk_slice (b : Nat) (hb : b < 5) (W : World) : (Instr.slice 9 (.string ⟨#[32, 9, 32, 32]⟩) none (some (.int .u8 (b : Int))) none).run Tryd.prog W = .ok (.string (mkB (blkL b))) W := by
  have hu := Tryd.underlying9
  rcases (show b = 0 ∨ b = 1 ∨ b = 2 ∨ b = 3 ∨ b = 4 by omega) with rfl | rfl | rfl | rfl | rfl <;> simp [Instr.slice, Instr.sliceBounds, Instr.sliceBound, asIntOf, run_underlying hu] <;> rfl
set_option maxRecDepth 100000 in
set_option maxHeartbeats 4000000 in
theorem walk (A0 : Option Addr) (c0 : Nat) (l0 : List Int) {W : World} (hr0 : Kd.C (Kd.int .u8) W A0 l0.length l0) (hc0 : l0.length ≤ c0) (hw0 : ∀ x ∈ l0, (Lit.int .u8 x).wf = true) (y0 : l0.length ≤ 140737488351232)
    (a1 : Int) (w1 : (Lit.int .u8 a1).wf = true) (W' : World) (e : W' = W) (hS : Sh W) :
    Calls Tryd.prog 6 #[.slice A0 l0.length c0, .int .u8 a1] W fun e W' => e = .returned (.bool true) ∧ Below W.heap.size W W' := by
  simp [Lit.wf, IntKind.min, IntKind.max, IntKind.signed, IntKind.bits] at w1
  have hb8 := u8s_of_wf hw0
  obtain ⟨b, hb⟩ : ∃ b : Nat, a1 % 5 = (b : Int) := ⟨(a1 % 5).toNat, by omega⟩
  have hb5 : b < 5 := by omega
  obtain ⟨m, hm⟩ : ∃ m : Nat, m = min l0.length 20 := ⟨_, rfl⟩
  have HC0 := hid hr0
  have H8 := hid hb8
  have HS := hid hS
  have HB := hid (show Int.tmod a1 5 = (b : Int) by rw [Int.tmod_eq_emod_of_nonneg (by omega)]; exact hb)
  have HM := hid hm
  have hm20 : m ≤ 20 := by omega
  have hml : m ≤ l0.length := by omega
  clear hr0 hw0 hb8 hS hb hm e W'
  go_enter Tryd.func6, Tryd.ntmps6
  go_wp2
  go_loopw [5, 6, 7] (fun s n i wr => ∃ j : Nat, j ≤ m ∧ s = .string (mkB (txO b (l0.take j))) ∧ n = .int .i64 (j : Int) ∧ i = .int .i64 (j : Int) ∧ Hid (Below W.heap.size W wr)) (fun _ _ i _ => m - (intOf i).toNat)
  case atStart => exact ⟨0, Nat.zero_le _, rfl, rfl, rfl, hid (Below.refl _ _)⟩
  case round =>
    obtain ⟨j, hj, rfl, rfl, rfl, HBe⟩ := hrel
    by_cases hlt : j < m
    · obtain ⟨ad, hA, hcell⟩ := Kd.at_int HC0.out (j : Int) (by omega) (by omega)
      subst hA
      rw [Int.toNat_natCast] at hcell
      have hcell := (HBe.out.cell (World.block_lt_of_cell? _ _ hcell)).trans hcell
      have hx8 := H8.out _ (show l0.getD j 0 ∈ l0 from getD_mem l0 0 (by omega))
      have HTX := hid (show l0.take (j + 1) = l0.take j ++ [l0.getD j 0] by rw [List.take_succ_eq_append_getElem (by omega), List.getD, List.getElem?_eq_getElem (by omega)]; rfl)
      have hrd : rd l0 (j : Int) = l0.getD j 0 := by unfold rd; rw [Int.toNat_natCast]
      rw [hrd] at hcell
      clear hrd
      have hj1 : (j : Int) < (l0.length : Int) := by omega
      have hj2 : (j : Int) < 20 := by omega
      obtain ⟨x, hx⟩ : ∃ x : Nat, l0.getD j 0 = (x : Int) := ⟨(l0.getD j 0).toNat, by omega⟩
      rw [hx] at hcell hx8 HTX
      clear hx
      have hsz : (mkB (txO b (l0.take j))).size ≤ 245 := by have := txO_len b (l0.take j); rw [List.length_take] at this; rw [mkB_size]; omega
      obtain ⟨s0, hs0⟩ : ∃ s0, s0 = mkB (txO b (l0.take j)) := ⟨_, rfl⟩
      rw [← hs0] at hsz ⊢
      have hz1 : (9223372036854775807 < s0.size + 1) = False := eq_false (by omega)
      obtain ⟨p, hp⟩ : ∃ p : Nat, p = x % 26 := ⟨_, rfl⟩
      obtain ⟨v, hv⟩ : ∃ v : Nat, v = x / 16 := ⟨_, rfl⟩
      have e1 : (x : Int) % 26 = (p : Int) := by omega
      have e2 : (x : Int) / 16 = (v : Int) := by omega
      have e3 : Int.tmod (x : Int) 26 = (p : Int) := by rw [Int.tmod_eq_emod_of_nonneg (by omega)]; exact e1
      have e4 : IntKind.u8.wrap (v : Int) = (v : Int) := by rw [IntKind.wrap_u8]; omega
      have e5 : IntKind.u8.wrap (65 + (p : Int)) = 65 + (p : Int) := by rw [IntKind.wrap_u8]; omega
      have e6 : IntKind.u8.wrap (97 + (v : Int)) = 97 + (v : Int) := by rw [IntKind.wrap_u8]; omega
      obtain ⟨nA, hnA⟩ : ∃ nA, nA = strOfNums [65 + (p : Int)] := ⟨_, rfl⟩
      obtain ⟨nV, hnV⟩ : ∃ nV, nV = strOfNums [97 + (v : Int)] := ⟨_, rfl⟩
      have HP := hid hp
      have HV := hid hv
      clear hp hv
      have zA : nA.size = 1 := by rw [hnA]; rfl
      have zV : nV.size = 1 := by rw [hnV]; rfl
      have hcA := fun (W : World) (B : Nat) (h : W.cell? ⟨B, 0, none⟩ = some (.int .u8 (65 + (p : Int)))) => hnA ▸ conv1 W B _ h
      have hcV := fun (W : World) (B : Nat) (h : W.cell? ⟨B, 0, none⟩ = some (.int .u8 (97 + (v : Int)))) => hnV ▸ conv1 W B _ h
      have HNA := hid hnA
      have HNV := hid hnV
      clear hnA hnV
      have hsl := fun W => blk_slice b hb5 W
      have zB : (mkB (blkL b)).size ≤ 4 := by rw [mkB_size]; unfold blkL; rw [List.length_take]; exact Nat.min_le_right _ _
      obtain ⟨bk, hbk⟩ : ∃ bk, bk = mkB (blkL b) := ⟨_, rfl⟩
      rw [← hbk] at zB hsl
      have HCAT := hid (show s0 ++ ⟨#[120]⟩ ++ nA ++ ⟨#[58]⟩ ++ bk ++ nV ++ ⟨#[32, 13, 10]⟩ = mkB (txO b (l0.take (j + 1))) by
        rw [HTX.out, txO_step, hs0, hbk, HNA.out, HNV.out]
        refine Pall.ba_ext ?_
        have hp := HP.out
        have hv := HV.out
        simp only [ByteArray.data_append, Array.toList_append, strOfNums_data, mkB_list]
        show _ ++ [120] ++ [UInt8.ofNat (65 + (p : Int)).toNat] ++ [58] ++ _ ++ [UInt8.ofNat (97 + (v : Int)).toNat] ++ [32, 13, 10] = _
        rw [show (65 + (p : Int)).toNat = 65 + p by omega, show (97 + (v : Int)).toNat = 97 + v by omega, hp, hv]
        have ep : ((x : Int) % 26).toNat = x % 26 := by omega
        have ev : ((x : Int) / 16).toNat = x / 16 := by omega
        unfold ordL nmO vlO prO
        simp [ep, ev])
      clear hs0 hbk
      have hz2 : (9223372036854775807 < s0.size + 1 + nA.size) = False := eq_false (by omega)
      have hz3 : (9223372036854775807 < s0.size + 1 + nA.size + 1) = False := eq_false (by omega)
      have hz4 : (9223372036854775807 < s0.size + 1 + nA.size + 1 + bk.size) = False := eq_false (by omega)
      have hz5 : (9223372036854775807 < s0.size + 1 + nA.size + 1 + bk.size + nV.size) = False := eq_false (by omega)
      have hz6 : (9223372036854775807 < s0.size + 1 + nA.size + 1 + bk.size + nV.size + 3) = False := eq_false (by omega)
      have HSZ := hid hsz
      have HZA := hid zA
      have HZV := hid zV
      have HZB := hid zB
      have hb := HB.out
      clear zA zV zB hsz w1 y0 hc0
      go_wp2
      have hc1 := fun (o : Obj) => (((Below.refl _ wr).alloc (Nat.le_refl _) o).cell (World.block_lt_of_cell? _ _ hcell)).trans hcell
      go_region_with (fail)
      all_goals
        clear e1 e2 e3 e4 e5 e6 hz1 hz2 hz3 hz4 hz5 hz6 hcA hcV hsl hb hcell hc1
        go_wp2
        go_roundw
        case rel => exact ⟨j + 1, by omega, by rw [← HCAT.out], by go_num, by go_num, hid (by repeat (first | apply bA | apply bN | apply bD | exact HBe.out))⟩
        case measure => first | omega | (simp [intOf]; done) | (simp [intOf]; omega)
    · obtain rfl : m = j := by omega
      have hM := HM.out
      have hn1 : (m : Int) < (l0.length : Int) → ¬ (m : Int) < 20 := by omega
      have htl : (l0.take m).length = m := by rw [List.length_take]; omega
      have h8m : ∀ x ∈ l0.take m, 0 ≤ x ∧ x ≤ 255 := fun x hx => H8.out x (List.mem_of_mem_take hx)
      obtain ⟨r1, r2, r4, hpf⟩ := ord_f b hb5 (l0.take m) h8m (by omega)
      have hsz : (mkB (txO b (l0.take m))).size ≤ 245 := by have := txO_len b (l0.take m); rw [mkB_size]; omega
      obtain ⟨s0, hs0⟩ : ∃ s0, s0 = mkB (txO b (l0.take m)) := ⟨_, rfl⟩
      rw [← hs0] at hsz hpf ⊢
      obtain ⟨y, hy⟩ : ∃ y, y = btsOf (s0 ++ ⟨#[13, 10]⟩) := ⟨_, rfl⟩
      rw [← hy] at hpf
      have hfl : (fL (l0.take m)).length = m + 1 := by rw [fL_len, htl]
      have HAT := hid (fun (i : Nat) (h : i < m) => (show (fL (l0.take m)).getD (i + 1) z43 = ⟨mkB (nmO (prO (l0.getD i 0)).1), mkB (vlO (prO (l0.getD i 0)).2)⟩ by
        rw [fL_at _ _ (by omega)]
        have e : (l0.take m).getD i 0 = l0.getD i 0 := by rw [List.getD, List.getElem?_take_of_lt h]; rfl
        rw [e]))
      generalize fL (l0.take m) = fl at *
      have HPA := hid (fun (W' : World) (h : Below W.heap.size W W') (A : Option Addr) (c : Nat) (h1 : Kd.C (Kd.int .u8) W' A y.length y) (h2 : y.length ≤ c) => http_Parse.calls A c y r1 r2 fl r4 0 W' h1 h2 (HS.out.of_below h) hpf)
      have HK := hid (fun (W' : World) (h : Below W.heap.size W W') => wicketmanlaw09_known.calls true W' (HS.out.of_below h) (Aside0.mk rfl) wicketmanlaw09_known.told)
      have hz0 : (9223372036854775807 < s0.size + 2) = False := eq_false (by omega)
      have HZS := hid (show (s0 ++ (⟨#[13, 10]⟩ : ByteArray)).size ≤ 140737488351232 by rw [ByteArray.size_append]; show _ + 2 ≤ _; omega)
      have HY := hid hy
      have HFL := hid hfl
      clear hsz hs0 hpf hy hM htl h8m hlt HB w1 hb5 y0
      by_cases hA : (m : Int) < (l0.length : Int)
      all_goals
        go_upto_region 9 with (first
          | ((with_reducible refine gate_dst (N := 52) rfl ?_); refine conv_own rfl (N := 52) rfl (ts := 9) (td := 22) (s0 ++ (⟨#[13, 10]⟩ : ByteArray)) rfl ?hx Tryd.underlying9 Tryd.underlying22 Tryd.underlying5 ?hs ?_; (case hx => first | rfl | (go_simp; done) | (go_simp; rfl)); (case hs => exact HZS.out); intro v1 w2 hv hb; rw [← HY.out] at hv; have HB2 := hid (HBe.out.trans (hb.mono HBe.out.size)); obtain ⟨Ay, cy, rfl⟩ := Kd.V_slice hv; have HV := hid (Kd.V_reads' hv); clear hv hb)
          | (go_at_call 23; refine (HPA.out _ HB2.out Ay cy HV.out.2.2 HV.out.2.1).mono ?_; rintro e w3 ⟨v2, v3, rfl, ho2, ho3, hb3⟩; have HB3 := hid (HB2.out.trans (hb3.mono HB2.out.size)); have hsl := Kd.R_reads ho2; obtain ⟨A2, c2, rfl, hc2, hC2⟩ := hsl; have HC2 := hid hC2; have hsl3 := Kd.R_slice ho3; obtain ⟨A3, c3, rfl⟩ := hsl3; clear ho2 ho3 hb3 hC2))
        have hbx : (w3.alloc (.cells #[.string r1, .string r2, .slice A2 (m + 1) c2, .slice A3 r4.length c3] 36)).heap[w3.heap.size]? = some (.cells #[.string r1, .string r2, .slice A2 (m + 1) c2, .slice A3 r4.length c3] 36 (0, 0)) := blk_new _ _
        have HB4 := hid (bA HB3.out (.cells #[.string r1, .string r2, .slice A2 (m + 1) c2, .slice A3 r4.length c3] 36))
        have HC4 := hid (Kd.C_alloc HC2.out (.cells #[.string r1, .string r2, .slice A2 (m + 1) c2, .slice A3 r4.length c3] 36))
        generalize w3.alloc (.cells #[.string r1, .string r2, .slice A2 (m + 1) c2, .slice A3 r4.length c3] 36) = W4 at *
        generalize w3.heap.size = g at *
        have x2 : W4.cell? ⟨g, 2, none⟩ = some (.slice A2 (m + 1) c2) := blk_cell hbx 2
        clear hbx HB3 HB2 HC2 HV HPA hz0 hA HBe
        go_wp2
        go_loopw [10] (fun i wr => ∃ j : Nat, j ≤ m ∧ i = .int .i64 (j : Int) ∧ Hid (Below W4.heap.size W4 wr)) (fun i _ => m - (intOf i).toNat)
        case atStart => exact ⟨0, Nat.zero_le _, rfl, hid (Below.refl _ _)⟩
        case round =>
          obtain ⟨j, hj, rfl, HBe⟩ := hrel
          have hcW := hid (HB4.out.trans (HBe.out.mono HB4.out.size))
          by_cases hlt : j < m
          · obtain ⟨ad, hA1, hcell⟩ := Kd.at_int HC0.out (j : Int) (by omega) (by omega)
            subst hA1
            rw [Int.toNat_natCast] at hcell
            have hcell := (hcW.out.cell (World.block_lt_of_cell? _ _ hcell)).trans hcell
            have hx8 := H8.out _ (show l0.getD j 0 ∈ l0 from getD_mem l0 0 (by omega))
            have hrd : rd l0 (j : Int) = l0.getD j 0 := by unfold rd; rw [Int.toNat_natCast]
            rw [hrd] at hcell
            clear hrd
            have hat := HAT.out j hlt
            obtain ⟨x, hx⟩ : ∃ x : Nat, l0.getD j 0 = (x : Int) := ⟨(l0.getD j 0).toNat, by omega⟩
            rw [hx] at hcell hx8 hat
            clear hx
            obtain ⟨p, hp⟩ : ∃ p : Nat, p = x % 26 := ⟨_, rfl⟩
            obtain ⟨v, hv⟩ : ∃ v : Nat, v = x / 16 := ⟨_, rfl⟩
            obtain ⟨nA, hnA⟩ : ∃ nA, nA = strOfNums [65 + (p : Int)] := ⟨_, rfl⟩
            obtain ⟨nV, hnV⟩ : ∃ nV, nV = strOfNums [97 + (v : Int)] := ⟨_, rfl⟩
            have hn1 : mkB (nmO (prO (x : Int)).1) = (⟨#[120]⟩ : ByteArray) ++ nA := by
              rw [hnA, hp]
              refine Pall.ba_ext ?_
              simp only [ByteArray.data_append, Array.toList_append, strOfNums_data, mkB_list]
              show _ = [120] ++ [UInt8.ofNat (65 + ((x % 26 : Nat) : Int)).toNat]
              rw [show (65 + ((x % 26 : Nat) : Int)).toNat = 65 + x % 26 by omega]
              unfold nmO prO
              rw [show ((x : Int) % 26).toNat = x % 26 by omega]; rfl
            have hn2 : mkB (vlO (prO (x : Int)).2) = nV := by
              rw [hnV, hv]
              refine Pall.ba_ext ?_
              simp only [strOfNums_data, mkB_list]
              show _ = [UInt8.ofNat (97 + ((x / 16 : Nat) : Int)).toNat]
              rw [show (97 + ((x / 16 : Nat) : Int)).toNat = 97 + x / 16 by omega]
              unfold vlO prO
              rw [show ((x : Int) / 16).toNat = x / 16 by omega]
            rw [hn1, hn2] at hat
            obtain ⟨ad2, hA2, n0, n1⟩ := at_T43 HC4.out ((j + 1 : Nat) : Int) (by omega) (by have := HFL.out; omega)
            subst hA2
            rw [rdP, hat] at n0 n1
            rw [Int.toNat_natCast] at n0 n1
            have n0 := (HBe.out.cell (World.block_lt_of_cell? _ _ n0)).trans n0
            have n1 := (HBe.out.cell (World.block_lt_of_cell? _ _ n1)).trans n1
            have x2 := (HBe.out.cell (World.block_lt_of_cell? _ _ x2)).trans x2
            have e1 : (x : Int) % 26 = (p : Int) := by omega
            have e2 : (x : Int) / 16 = (v : Int) := by omega
            have e3 : Int.tmod (x : Int) 26 = (p : Int) := by rw [Int.tmod_eq_emod_of_nonneg (by omega)]; exact e1
            have e4 : IntKind.u8.wrap (v : Int) = (v : Int) := by rw [IntKind.wrap_u8]; omega
            have e5 : IntKind.u8.wrap (65 + (p : Int)) = 65 + (p : Int) := by rw [IntKind.wrap_u8]; omega
            have e6 : IntKind.u8.wrap (97 + (v : Int)) = 97 + (v : Int) := by rw [IntKind.wrap_u8]; omega
            have e7 : IntKind.i64.wrap ((j : Int) + 1) = ((j + 1 : Nat) : Int) := by rw [IntKind.wrap_i64]; omega
            have zA : nA.size = 1 := by rw [hnA]; rfl
            have hz1 : (9223372036854775807 < 1 + nA.size) = False := eq_false (by omega)
            have hcA := fun (W : World) (B : Nat) (h : W.cell? ⟨B, 0, none⟩ = some (.int .u8 (65 + (p : Int)))) => hnA ▸ conv1 W B _ h
            have hcV := fun (W : World) (B : Nat) (h : W.cell? ⟨B, 0, none⟩ = some (.int .u8 (97 + (v : Int)))) => hnV ▸ conv1 W B _ h
            have hj1 : (j : Int) < (l0.length : Int) := by omega
            have hj2 : (j : Int) + 1 < (m : Int) + 1 := by omega
            have hj3 : (0 : Int) ≤ (j : Int) + 1 := by omega
            clear hat hn1 hn2 hp hv hnA hnV zA hx8
            go_wp2
            refine start_ (n := 35) (S := fun w' => w'.cell? (ad.add j) = some (.int .u8 (x : Int)) ∧ w'.cell? ⟨g, 2, none⟩ = some (.slice (some ad2) (m + 1) c2) ∧ w'.cell? (ad2.add ((j + 1) * 2)) = some (.string (⟨#[120]⟩ ++ nA)) ∧ w'.cell? ⟨(ad2.add ((j + 1) * 2)).block, (ad2.add ((j + 1) * 2)).off + 1, none⟩ = some (.string nV)) (ds := []) #[false, false, false, false, false, false, false, false, false, false, false, false, false, false, false, false, false, false, false, false, false, false, false, false, false, false, false, false, false, false, false, false, false, false, false] (by kernel_rfl) rfl rfl ⟨hcell, x2, n0, n1⟩ (fun hHeld => ?_)
            refine pure_ (i := 0) (N := some 71) (v := ?_) (a' := ?_) #[true, false, false, false, false, false, false, false, false, false, false, false, false, false, false, false, false, false, false, false, false, false, false, false, false, false, false, false, false, false, false, false, false, false, false] rfl rfl (by kernel_rfl) (fun _ _ _ h => h) (Or.inl ⟨by rfl, ?_⟩) ?_ ?_
            rotate_left
            · intro w'
              go_simp
              with_reducible rfl
            rotate_left
            · simp only [Act.put, List.setIfInBounds_toArray, List.set_cons_zero, List.set_cons_succ]
              rfl
            refine take_ (i := 1) (N := some 72) (v := ?_) (a' := ?_) #[true, true, false, false, false, false, false, false, false, false, false, false, false, false, false, false, false, false, false, false, false, false, false, false, false, false, false, false, false, false, false, false, false, false, false] rfl rfl (by kernel_rfl) (fun _ _ _ h => h) (Or.inl ⟨by rfl, ?_⟩) hHeld ?_ ?_
            rotate_left
            · rintro w' ⟨s0, s1, s2, s3⟩
              go_simp
              with_reducible rfl
            rotate_left
            · simp only [Act.put, List.setIfInBounds_toArray, List.set_cons_zero, List.set_cons_succ]
              rfl
            refine pure_ (i := 2) (N := some 73) (v := ?_) (a' := ?_) #[true, true, true, false, false, false, false, false, false, false, false, false, false, false, false, false, false, false, false, false, false, false, false, false, false, false, false, false, false, false, false, false, false, false, false] rfl rfl (by kernel_rfl) (fun _ _ _ h => h) (Or.inl ⟨by rfl, ?_⟩) ?_ ?_
            rotate_left
            · intro w'
              go_simp
              with_reducible rfl
            rotate_left
            · simp only [Act.put, List.setIfInBounds_toArray, List.set_cons_zero, List.set_cons_succ]
              rfl
            refine pure_ (i := 3) (N := some 74) (v := ?_) (a' := ?_) #[true, true, true, true, false, false, false, false, false, false, false, false, false, false, false, false, false, false, false, false, false, false, false, false, false, false, false, false, false, false, false, false, false, false, false] rfl rfl (by kernel_rfl) (fun _ _ _ h => h) (Or.inl ⟨by rfl, ?_⟩) ?_ ?_
            rotate_left
            · intro w'
              go_simp
              with_reducible rfl
            rotate_left
            · simp only [Act.put, List.setIfInBounds_toArray, List.set_cons_zero, List.set_cons_succ]
              rfl
            refine pure_ (i := 4) (N := some 75) (v := ?_) (a' := ?_) #[true, true, true, true, true, false, false, false, false, false, false, false, false, false, false, false, false, false, false, false, false, false, false, false, false, false, false, false, false, false, false, false, false, false, false] rfl rfl (by kernel_rfl) (fun _ _ _ h => h) (Or.inl ⟨by rfl, ?_⟩) ?_ ?_
            rotate_left
            · intro w'
              go_simp
              with_reducible rfl
            rotate_left
            · simp only [Act.put, List.setIfInBounds_toArray, List.set_cons_zero, List.set_cons_succ]
              rfl
            refine pure_ (i := 5) (N := some 76) (v := ?_) (a' := ?_) #[true, true, true, true, true, true, false, false, false, false, false, false, false, false, false, false, false, false, false, false, false, false, false, false, false, false, false, false, false, false, false, false, false, false, false] rfl rfl (by kernel_rfl) (fun _ _ _ h => h) (Or.inl ⟨by rfl, ?_⟩) ?_ ?_
            rotate_left
            · intro w'
              go_simp
              with_reducible rfl
            rotate_left
            · simp only [Act.put, List.setIfInBounds_toArray, List.set_cons_zero, List.set_cons_succ]
              rfl
            refine take_ (i := 6) (N := some 77) (v := ?_) (a' := ?_) #[true, true, true, true, true, true, true, false, false, false, false, false, false, false, false, false, false, false, false, false, false, false, false, false, false, false, false, false, false, false, false, false, false, false, false] rfl rfl (by kernel_rfl) (fun _ _ _ h => h) (Or.inl ⟨by rfl, ?_⟩) hHeld ?_ ?_
            rotate_left
            · rintro w' ⟨s0, s1, s2, s3⟩
              go_simp
              with_reducible rfl
            rotate_left
            · simp only [Act.put, List.setIfInBounds_toArray, List.set_cons_zero, List.set_cons_succ]
              rfl
            refine pure_ (i := 7) (N := some 78) (v := ?_) (a' := ?_) #[true, true, true, true, true, true, true, true, false, false, false, false, false, false, false, false, false, false, false, false, false, false, false, false, false, false, false, false, false, false, false, false, false, false, false] rfl rfl (by kernel_rfl) (fun _ _ _ h => h) (Or.inl ⟨by rfl, ?_⟩) ?_ ?_
            rotate_left
            · intro w'
              go_simp
              with_reducible rfl
            rotate_left
            · simp only [Act.put, List.setIfInBounds_toArray, List.set_cons_zero, List.set_cons_succ]
              rfl
            refine pure_ (i := 8) (N := some 79) (v := ?_) (a' := ?_) #[true, true, true, true, true, true, true, true, true, false, false, false, false, false, false, false, false, false, false, false, false, false, false, false, false, false, false, false, false, false, false, false, false, false, false] rfl rfl (by kernel_rfl) (fun _ _ _ h => h) (Or.inl ⟨by rfl, ?_⟩) ?_ ?_
            rotate_left
            · intro w'
              go_simp
              with_reducible rfl
            rotate_left
            · simp only [Act.put, List.setIfInBounds_toArray, List.set_cons_zero, List.set_cons_succ]
              rfl
            refine pure_ (i := 9) (N := some 80) (v := ?_) (a' := ?_) #[true, true, true, true, true, true, true, true, true, true, false, false, false, false, false, false, false, false, false, false, false, false, false, false, false, false, false, false, false, false, false, false, false, false, false] rfl rfl (by kernel_rfl) (fun _ _ _ h => h) (Or.inl ⟨by rfl, ?_⟩) ?_ ?_
            rotate_left
            · intro w'
              go_simp
              with_reducible rfl
            rotate_left
            · simp only [Act.put, List.setIfInBounds_toArray, List.set_cons_zero, List.set_cons_succ]
              rfl
            refine take_ (i := 10) (N := some 81) (v := ?_) (a' := ?_) #[true, true, true, true, true, true, true, true, true, true, true, false, false, false, false, false, false, false, false, false, false, false, false, false, false, false, false, false, false, false, false, false, false, false, false] rfl rfl (by kernel_rfl) (fun _ _ _ h => h) (Or.inl ⟨by rfl, ?_⟩) hHeld ?_ ?_
            rotate_left
            · rintro w' ⟨s0, s1, s2, s3⟩
              go_simp
              with_reducible rfl
            rotate_left
            · simp only [Act.put, List.setIfInBounds_toArray, List.set_cons_zero, List.set_cons_succ]
              rfl
            refine pure_ (i := 11) (N := some 82) (v := ?_) (a' := ?_) #[true, true, true, true, true, true, true, true, true, true, true, true, false, false, false, false, false, false, false, false, false, false, false, false, false, false, false, false, false, false, false, false, false, false, false] rfl rfl (by kernel_rfl) (fun _ _ _ h => h) (Or.inl ⟨by rfl, ?_⟩) ?_ ?_
            rotate_left
            · intro w'
              go_simp
              with_reducible rfl
            rotate_left
            · simp only [Act.put, List.setIfInBounds_toArray, List.set_cons_zero, List.set_cons_succ]
              rfl
            refine pure_ (i := 12) (N := some 83) (v := ?_) (a' := ?_) #[true, true, true, true, true, true, true, true, true, true, true, true, true, false, false, false, false, false, false, false, false, false, false, false, false, false, false, false, false, false, false, false, false, false, false] rfl rfl (by kernel_rfl) (fun _ _ _ h => h) (Or.inl ⟨by rfl, ?_⟩) ?_ ?_
            rotate_left
            · intro w'
              go_simp
              with_reducible rfl
            rotate_left
            · simp only [Act.put, List.setIfInBounds_toArray, List.set_cons_zero, List.set_cons_succ]
              rfl
            refine one_ (i := 13) (N := some 84) #[true, true, true, true, true, true, true, true, true, true, true, true, true, true, false, false, false, false, false, false, false, false, false, false, false, false, false, false, false, false, false, false, false, false, false] rfl rfl (by kernel_rfl) (by decide) (fun K hK => ?_)
            go_simp
            refine hK.out _ _ (by first | exact hHeld | exact ⟨keep_c hHeld.1 _, keep_c hHeld.2.1 _, keep_c hHeld.2.2.1 _, keep_c hHeld.2.2.2 _⟩) (fun hHeld => ?_)
            clear hK K
            refine one_ (i := 14) (N := some 85) #[true, true, true, true, true, true, true, true, true, true, true, true, true, true, true, false, false, false, false, false, false, false, false, false, false, false, false, false, false, false, false, false, false, false, false] rfl rfl (by kernel_rfl) (by decide) (fun K hK => ?_)
            go_simp
            refine hK.out _ _ (by first | exact hHeld | exact ⟨keep_c hHeld.1 _, keep_c hHeld.2.1 _, keep_c hHeld.2.2.1 _, keep_c hHeld.2.2.2 _⟩) (fun hHeld => ?_)
            clear hK K
            refine pure_ (i := 15) (N := some 86) (v := ?_) (a' := ?_) #[true, true, true, true, true, true, true, true, true, true, true, true, true, true, true, true, false, false, false, false, false, false, false, false, false, false, false, false, false, false, false, false, false, false, false] rfl rfl (by kernel_rfl) (fun _ _ _ h => h) (Or.inl ⟨by rfl, ?_⟩) ?_ ?_
            rotate_left
            · intro w'
              go_simp
              with_reducible rfl
            rotate_left
            · simp only [Act.put, List.setIfInBounds_toArray, List.set_cons_zero, List.set_cons_succ]
              rfl
            refine pure_ (i := 16) (N := some 87) (v := ?_) (a' := ?_) #[true, true, true, true, true, true, true, true, true, true, true, true, true, true, true, true, true, false, false, false, false, false, false, false, false, false, false, false, false, false, false, false, false, false, false] rfl rfl (by kernel_rfl) (fun _ _ _ h => h) (Or.inl ⟨by rfl, ?_⟩) ?_ ?_
            rotate_left
            · intro w'
              go_simp
              with_reducible rfl
            rotate_left
            · simp only [Act.put, List.setIfInBounds_toArray, List.set_cons_zero, List.set_cons_succ]
              rfl
            refine pure_ (i := 17) (N := some 88) (v := ?_) (a' := ?_) #[true, true, true, true, true, true, true, true, true, true, true, true, true, true, true, true, true, true, false, false, false, false, false, false, false, false, false, false, false, false, false, false, false, false, false] rfl rfl (by kernel_rfl) (fun _ _ _ h => h) (Or.inl ⟨by rfl, ?_⟩) ?_ ?_
            rotate_left
            · intro w'
              go_simp
              with_reducible rfl
            rotate_left
            · simp only [Act.put, List.setIfInBounds_toArray, List.set_cons_zero, List.set_cons_succ]
              rfl
            refine pure_ (i := 18) (N := some 89) (v := ?_) (a' := ?_) #[true, true, true, true, true, true, true, true, true, true, true, true, true, true, true, true, true, true, true, false, false, false, false, false, false, false, false, false, false, false, false, false, false, false, false] rfl rfl (by kernel_rfl) (fun _ _ _ h => h) (Or.inl ⟨by rfl, ?_⟩) ?_ ?_
            rotate_left
            · intro w'
              go_simp
              with_reducible rfl
            rotate_left
            · simp only [Act.put, List.setIfInBounds_toArray, List.set_cons_zero, List.set_cons_succ]
              rfl
            refine take_ (i := 19) (N := some 90) (v := ?_) (a' := ?_) #[true, true, true, true, true, true, true, true, true, true, true, true, true, true, true, true, true, true, true, true, false, false, false, false, false, false, false, false, false, false, false, false, false, false, false] rfl rfl (by kernel_rfl) (fun _ _ _ h => h) (Or.inl ⟨by rfl, ?_⟩) hHeld ?_ ?_
            rotate_left
            · rintro w' ⟨s0, s1, s2, s3⟩
              go_simp
              with_reducible rfl
            rotate_left
            · simp only [Act.put, List.setIfInBounds_toArray, List.set_cons_zero, List.set_cons_succ]
              rfl
            refine pure_ (i := 20) (N := some 91) (v := ?_) (a' := ?_) #[true, true, true, true, true, true, true, true, true, true, true, true, true, true, true, true, true, true, true, true, true, false, false, false, false, false, false, false, false, false, false, false, false, false, false] rfl rfl (by kernel_rfl) (fun _ _ _ h => h) (Or.inl ⟨by rfl, ?_⟩) ?_ ?_
            rotate_left
            · intro w'
              go_simp
              with_reducible rfl
            rotate_left
            · simp only [Act.put, List.setIfInBounds_toArray, List.set_cons_zero, List.set_cons_succ]
              rfl
            refine pure_ (i := 21) (N := some 92) (v := ?_) (a' := ?_) #[true, true, true, true, true, true, true, true, true, true, true, true, true, true, true, true, true, true, true, true, true, true, false, false, false, false, false, false, false, false, false, false, false, false, false] rfl rfl (by kernel_rfl) (fun _ _ _ h => h) (Or.inl ⟨by rfl, ?_⟩) ?_ ?_
            rotate_left
            · intro w'
              go_simp
              with_reducible rfl
            rotate_left
            · simp only [Act.put, List.setIfInBounds_toArray, List.set_cons_zero, List.set_cons_succ]
              rfl
            refine pure_ (i := 22) (N := some 93) (v := ?_) (a' := ?_) #[true, true, true, true, true, true, true, true, true, true, true, true, true, true, true, true, true, true, true, true, true, true, true, false, false, false, false, false, false, false, false, false, false, false, false] rfl rfl (by kernel_rfl) (fun _ _ _ h => h) (Or.inl ⟨by rfl, ?_⟩) ?_ ?_
            rotate_left
            · intro w'
              go_simp
              with_reducible rfl
            rotate_left
            · simp only [Act.put, List.setIfInBounds_toArray, List.set_cons_zero, List.set_cons_succ]
              rfl
            refine pure_ (i := 23) (N := some 94) (v := ?_) (a' := ?_) #[true, true, true, true, true, true, true, true, true, true, true, true, true, true, true, true, true, true, true, true, true, true, true, true, false, false, false, false, false, false, false, false, false, false, false] rfl rfl (by kernel_rfl) (fun _ _ _ h => h) (Or.inl ⟨by rfl, ?_⟩) ?_ ?_
            rotate_left
            · intro w'
              go_simp
              with_reducible rfl
            rotate_left
            · simp only [Act.put, List.setIfInBounds_toArray, List.set_cons_zero, List.set_cons_succ]
              rfl
            refine take_ (i := 24) (N := some 95) (v := ?_) (a' := ?_) #[true, true, true, true, true, true, true, true, true, true, true, true, true, true, true, true, true, true, true, true, true, true, true, true, true, false, false, false, false, false, false, false, false, false, false] rfl rfl (by kernel_rfl) (fun _ _ _ h => h) (Or.inl ⟨by rfl, ?_⟩) hHeld ?_ ?_
            rotate_left
            · rintro w' ⟨s0, s1, s2, s3⟩
              go_simp
              with_reducible rfl
            rotate_left
            · simp only [Act.put, List.setIfInBounds_toArray, List.set_cons_zero, List.set_cons_succ]
              rfl
            refine pure_ (i := 25) (N := some 96) (v := ?_) (a' := ?_) #[true, true, true, true, true, true, true, true, true, true, true, true, true, true, true, true, true, true, true, true, true, true, true, true, true, true, false, false, false, false, false, false, false, false, false] rfl rfl (by kernel_rfl) (fun _ _ _ h => h) (Or.inl ⟨by rfl, ?_⟩) ?_ ?_
            rotate_left
            · intro w'
              go_simp
              with_reducible rfl
            rotate_left
            · simp only [Act.put, List.setIfInBounds_toArray, List.set_cons_zero, List.set_cons_succ]
              rfl
            refine pure_ (i := 26) (N := some 97) (v := ?_) (a' := ?_) #[true, true, true, true, true, true, true, true, true, true, true, true, true, true, true, true, true, true, true, true, true, true, true, true, true, true, true, false, false, false, false, false, false, false, false] rfl rfl (by kernel_rfl) (fun _ _ _ h => h) (Or.inl ⟨by rfl, ?_⟩) ?_ ?_
            rotate_left
            · intro w'
              go_simp
              with_reducible rfl
            rotate_left
            · simp only [Act.put, List.setIfInBounds_toArray, List.set_cons_zero, List.set_cons_succ]
              rfl
            refine pure_ (i := 27) (N := some 98) (v := ?_) (a' := ?_) #[true, true, true, true, true, true, true, true, true, true, true, true, true, true, true, true, true, true, true, true, true, true, true, true, true, true, true, true, false, false, false, false, false, false, false] rfl rfl (by kernel_rfl) (fun _ _ _ h => h) (Or.inl ⟨by rfl, ?_⟩) ?_ ?_
            rotate_left
            · intro w'
              go_simp
              with_reducible rfl
            rotate_left
            · simp only [Act.put, List.setIfInBounds_toArray, List.set_cons_zero, List.set_cons_succ]
              rfl
            refine take_ (i := 28) (N := some 99) (v := ?_) (a' := ?_) #[true, true, true, true, true, true, true, true, true, true, true, true, true, true, true, true, true, true, true, true, true, true, true, true, true, true, true, true, true, false, false, false, false, false, false] rfl rfl (by kernel_rfl) (fun _ _ _ h => h) (Or.inl ⟨by rfl, ?_⟩) hHeld ?_ ?_
            rotate_left
            · rintro w' ⟨s0, s1, s2, s3⟩
              go_simp
              with_reducible rfl
            rotate_left
            · simp only [Act.put, List.setIfInBounds_toArray, List.set_cons_zero, List.set_cons_succ]
              rfl
            refine pure_ (i := 29) (N := some 100) (v := ?_) (a' := ?_) #[true, true, true, true, true, true, true, true, true, true, true, true, true, true, true, true, true, true, true, true, true, true, true, true, true, true, true, true, true, true, false, false, false, false, false] rfl rfl (by kernel_rfl) (fun _ _ _ h => h) (Or.inl ⟨by rfl, ?_⟩) ?_ ?_
            rotate_left
            · intro w'
              go_simp
              with_reducible rfl
            rotate_left
            · simp only [Act.put, List.setIfInBounds_toArray, List.set_cons_zero, List.set_cons_succ]
              rfl
            refine pure_ (i := 30) (N := some 101) (v := ?_) (a' := ?_) #[true, true, true, true, true, true, true, true, true, true, true, true, true, true, true, true, true, true, true, true, true, true, true, true, true, true, true, true, true, true, true, false, false, false, false] rfl rfl (by kernel_rfl) (fun _ _ _ h => h) (Or.inl ⟨by rfl, ?_⟩) ?_ ?_
            rotate_left
            · intro w'
              go_simp
              with_reducible rfl
            rotate_left
            · simp only [Act.put, List.setIfInBounds_toArray, List.set_cons_zero, List.set_cons_succ]
              rfl
            refine one_ (i := 31) (N := some 102) #[true, true, true, true, true, true, true, true, true, true, true, true, true, true, true, true, true, true, true, true, true, true, true, true, true, true, true, true, true, true, true, true, false, false, false] rfl rfl (by kernel_rfl) (by decide) (fun K hK => ?_)
            go_simp
            refine hK.out _ _ (by first | exact hHeld | exact ⟨keep_c hHeld.1 _, keep_c hHeld.2.1 _, keep_c hHeld.2.2.1 _, keep_c hHeld.2.2.2 _⟩) (fun hHeld => ?_)
            clear hK K
            refine one_ (i := 32) (N := some 103) #[true, true, true, true, true, true, true, true, true, true, true, true, true, true, true, true, true, true, true, true, true, true, true, true, true, true, true, true, true, true, true, true, true, false, false] rfl rfl (by kernel_rfl) (by decide) (fun K hK => ?_)
            go_simp
            refine hK.out _ _ (by first | exact hHeld | exact ⟨keep_c hHeld.1 _, keep_c hHeld.2.1 _, keep_c hHeld.2.2.1 _, keep_c hHeld.2.2.2 _⟩) (fun hHeld => ?_)
            clear hK K
            refine pure_ (i := 33) (N := some 104) (v := ?_) (a' := ?_) #[true, true, true, true, true, true, true, true, true, true, true, true, true, true, true, true, true, true, true, true, true, true, true, true, true, true, true, true, true, true, true, true, true, true, false] rfl rfl (by kernel_rfl) (fun _ _ _ h => h) (Or.inl ⟨by rfl, ?_⟩) ?_ ?_
            rotate_left
            · intro w'
              go_simp
              with_reducible rfl
            rotate_left
            · simp only [Act.put, List.setIfInBounds_toArray, List.set_cons_zero, List.set_cons_succ]
              rfl
            refine pure_ (i := 34) (N := some 105) (v := ?_) (a' := ?_) #[true, true, true, true, true, true, true, true, true, true, true, true, true, true, true, true, true, true, true, true, true, true, true, true, true, true, true, true, true, true, true, true, true, true, true] rfl rfl (by kernel_rfl) (fun _ _ _ h => h) (Or.inl ⟨by rfl, ?_⟩) ?_ ?_
            rotate_left
            · intro w'
              go_simp
              with_reducible rfl
            rotate_left
            · simp only [Act.put, List.setIfInBounds_toArray, List.set_cons_zero, List.set_cons_succ]
              rfl
            refine done_ (by kernel_rfl) ?_
            all_goals
              clear e1 e2 e3 e4 e5 e6 e7 hz1 hcA hcV n0 n1 hHeld
              go_wp2
              go_roundw
              case rel => exact ⟨j + 1, by omega, by go_num, hid (by repeat (first | apply bA | apply bN | apply bD | exact HBe.out))⟩
              case measure => first | omega | (simp [intOf]; done) | (simp [intOf]; omega)
          · obtain rfl : m = j := by omega
            go_wp2_with (go_at_call 16; refine (HK.out _ hcW.out).mono ?_; rintro e w5 ⟨rfl, hb⟩)
            go_ret
            exact ⟨rfl, hcW.out.trans (hb.mono hcW.out.size)⟩
end Go.Proofs.YtpfbemcoblganaaDoor.httpOrder
namespace Go.Proofs.YtpfbemcoblganaaDoor.httpOrder
open Go.ChangeShapes Go.WideShapes Go.ChangeAt Go.RowKit Go.Proofs.YtpfbemcoblganaaDoorW Go.Proofs.YtpfbemcoblganaaDoorW.PrintWords Go.Proofs.YtpfbemcoblganaaDoor.Pall
open Go.ChangeMaps (open_string shut_string)
set_option linter.unusedVariables false
theorem own : ownKnob Tryd.prog.godebug = none := by kernel_rfl
theorem laidOut : laidOutB Tryd.prog = true := by kernel_rfl
set_option maxRecDepth 100000 in
theorem lifted (os : Os) (started : os.Started) (H : Type) (enc : TypeId × Value → H) :
    ReturnsInHanded {} Tryd.checked os 6 .any (fun w args => (Rows.httpOrderSpec.pre enc Tryd.prog Tryd.f6 [] false w args ∧ laidMetH Tryd.prog Rows.httpOrderRow.laid w) ∧ sizedMet enc Tryd.prog Tryd.f6 (OpenSpec.ofChange Rows.httpOrderSpec) false w args)
      (Rows.httpOrderSpec.post enc Tryd.prog Tryd.f6 false true false false) := by
  refine law_lifted (C := Tryd.checked) (rt := 4) (L := Rows.httpOrderRow.laid) own started (by kernel_rfl) Tryd.func6 laidOut (by kernel_rfl) rfl rfl (by rfl) Tryd.underlying4 ?_ (ChangeSpec.witness_shaped (enc := enc) (C := Tryd.checked) (os := os) (X := fun w _ => laidMetH Tryd.prog Rows.httpOrderRow.laid w) false (World.laidAll Tryd.prog os Rows.httpOrderRow.laid) #[.slice none 0 0, .int .u8 0] 8 (World.laidAll_os _ _ _)
    (World.shaped_of_ZipB (by kernel_rfl) (by kernel_rfl)) (by kernel_rfl) (by kernel_rfl) (by kernel_rfl) (by rw [MakeChecks.laidMetH_plain _ _ _ (by kernel_rfl)]; exact laidMet_laidAll _ (by kernel_rfl) (by kernel_rfl))) ?_
  · intro ds hds
    have hds : ds.length = 2 := hds
    match ds, hds with
    | [_, _], _ => rfl
  intro W base args ds ps hval0 hA0 hsz0 hL hsh
  have hS : Sh W := cell_of_shapedOpen_int' hsh
  have hval : ∀ (j : Nat) t v, Tryd.f6.params[j]? = some t → args[j]? = some v → Value.okWide Tryd.prog W .any base t v := hval0
  have hA : DataW.TrodAll enc Tryd.prog W 0 (fun _ => true) true Tryd.f6.params.toList args.toList ds ps := hA0
  have hsz : (DataW.weightsEach Tryd.prog Tryd.f6.params.toList ds).all (· ≤ reachBytes) = true := hsz0
  rw [Tryd.params6] at hA hval hsz
  obtain ⟨v0, vs0, d0, ds0, p0, q0, hargs, rfl, rfl, h0, r0⟩ := trodAll_cons hA
  obtain ⟨v1, vs1, d1, ds1, p1, q1, rfl, rfl, rfl, h1, r1⟩ := trodAll_cons r0
  obtain ⟨rfl, rfl, rfl⟩ := trodAll_nil r1
  obtain rfl : args = #[v0, v1] := by cases args; simp_all
  obtain ⟨A0, len0, cap0, rfl⟩ := okWide_slice Tryd.underlying22 (hval 0 22 v0 rfl rfl)
  obtain ⟨z0, w0⟩ := ints_row Tryd.underlying22 Tryd.underlying5 (by kernel_rfl) h0
  have y0 : len0 * 1 ≤ 140737488351232 := PrintWords.sized_ints hsz (j := 0) (t := 22) rfl rfl Tryd.underlying22 Tryd.underlying5 (by kernel_rfl) (by kernel_rfl) h0
  obtain ⟨l0, rfl, hr0, hm0, hw0, hc0⟩ := ReadsInt.ofRowC w0
  obtain ⟨a1, rfl, rfl, rfl, w1⟩ := open_int Tryd.underlying5 (hval 1 5 v1 rfl rfl) h1
  exact walk A0 cap0 l0 (Kd.C_of_reads (d := (0 : Int)) (h1 := fun _ => rfl) hr0) hc0 hw0 (by omega) a1 w1 W rfl hS
theorem over : Rows.httpOrderRow.holds Tryd.pinned (OpenSpec.ofChange Rows.httpOrderSpec) :=
  OpenClaim.holds_of_wide 6 Tryd.f6 rfl rfl rfl rfl rfl rfl rfl ⟨rfl, rfl, rfl, rfl, rfl⟩ rfl rfl rfl rfl rfl (by kernel_rfl) Tryd.func6 (by kernel_rfl)
    (of_decide_eq_true (by kernel_rfl)) (by unfold Func.isWrapper; rw [if_neg (of_decide_eq_false (by kernel_rfl))]; exact ⟨rfl, rfl⟩)
    (fun os started H enc _ => lifted os started H enc)
theorem said : Rows.HttpOrderSaid := over
theorem card : Rows.HttpOrderCardSaid :=
  Claim7.holds_tied_plain_at .later [] [.data, .pinned] true (true, "79a6d220dc140684a9dab3eb2f9ce24deda1b71e26dfa61c675eb49a4432bf09") true said (fun _ h => by cases h) (by kernel_rfl) (fun _ h => by cases h) httpOrder_row_tie rfl ⟨rfl, rfl⟩ (by kernel_rfl) rfl
    (fun f fn hf hfn => by
      obtain rfl : f = 6 := Option.some.inj ((show Tryd.prog.funcNamed "wicketman/wicketmanlaw09.HttpOrder" = some 6 by kernel_rfl).symm.trans hf) |>.symm
      obtain rfl : fn = Tryd.f6 := (Option.some.inj (Tryd.func6.symm.trans hfn)).symm
      exact ⟨by kernel_rfl, fun j t ht => by
        rw [Tryd.params6] at ht
        have hm : t ∈ [22, 5] := by simpa using Array.mem_of_getElem? ht
        have hall : ([22, 5].all fun u => !Tryd.prog.wantsStandIn u) = true := by kernel_rfl
        exact (show Tryd.prog.wantsStandIn t = false by simpa using List.all_eq_true.1 hall t hm)⟩)
    (by kernel_rfl)
#print axioms card
end Go.Proofs.YtpfbemcoblganaaDoor.httpOrder
namespace Go.Proofs.YtpfbemcoblganaaDoor
/-- The card, under a short name, for the claim. -/
theorem httpOrder_card : Rows.HttpOrderCardSaid := httpOrder.card
end Go.Proofs.YtpfbemcoblganaaDoor

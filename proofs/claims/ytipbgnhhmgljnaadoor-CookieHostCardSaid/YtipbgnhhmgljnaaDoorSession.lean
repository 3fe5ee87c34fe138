/-
  cookie.Session: what it comes to; its walk.
-/
import Derived.Test.YtipbgnhhmgljnaaDoorParse
import Derived.LoopTactic
import Derived.WalkMore
namespace Go.Proofs.YtipbgnhhmgljnaaDoor.Split
open Go.RowKit Go.Proofs.YtipbgnhhmgljnaaDoor.Pall Go.Proofs.YtipbgnhhmgljnaaDoorW.PrintWords Go.Proofs.YtipbgnhhmgljnaaDoorW.PrintLast Go.Proofs.YtipbgnhhmgljnaaDoorW.PrintMore
set_option linter.unusedVariables false
set_option linter.unusedSimpArgs false

def nameB : ByteArray := ⟨#[95, 95, 72, 111, 115, 116, 45, 105, 100]⟩
/-- one cookie more -/
def sess1 (st : Nat × ByteArray) (c : S38) : Nat × ByteArray := if c.f0 = nameB then (st.1 + 1, c.f1) else st
/-- one field more -/
def sessF (st : Nat × ByteArray) (v : ByteArray) : Nat × ByteArray := (parseS v).1.foldl sess1 st
def sessS (vs : List ByteArray) : ByteArray × Bool :=
  if vs.all (fun v => (parseS v).2) = true then (if 1 < (vs.foldl sessF (0, ⟨#[]⟩)).1 then (⟨#[]⟩, false) else ((vs.foldl sessF (0, ⟨#[]⟩)).2, true)) else (⟨#[]⟩, false)

theorem sess1_le (cs : List S38) (st : Nat × ByteArray) : (cs.foldl sess1 st).1 ≤ st.1 + cs.length := by
  induction cs generalizing st with
  | nil => simp
  | cons c cs ih =>
    rw [List.foldl_cons, List.length_cons]
    have := ih (sess1 st c)
    have h : (sess1 st c).1 ≤ st.1 + 1 := by unfold sess1; split <;> simp
    omega
theorem parse_len (v : ByteArray) : (parseS v).1.length ≤ v.size + 1 := by
  unfold parseS
  split
  · simp
  · split
    · rw [List.length_map]; unfold piecesS; rw [List.length_map]; exact pieces_len _ _ _
    · simp
set_option maxRecDepth 100000 in
set_option maxHeartbeats 2000000 in
theorem session_any (A0 : Option Addr) (c0 : Nat) (l0 : List ByteArray) (w : World) (hr0 : Kd.C Kd.string w A0 l0.length l0) (hc0 : l0.length ≤ c0) (hs : ∀ v ∈ l0, v.size ≤ 1000000) (hn : l0.length ≤ 1000000) (hS : Sh w) :
    Calls Tryd.prog 16 #[.slice A0 l0.length c0] w fun e w' => e = .returned (.tuple #[.string (sessS l0).1, .bool (sessS l0).2]) ∧ Below w.heap.size w w' := by
  have hu := Tryd.underlying38
  go_enter Tryd.func16, Tryd.ntmps16
  go_wp2_with fail
  go_step3
  go_wp2_with fail
  go_step3
  go_wp2_with fail
  go_loopw [4, 5, 6, 15] (fun n i f x W => ∃ k : Nat, k ≤ l0.length ∧ (l0.take k).all (fun v => (parseS v).2) = true ∧ n = .int .i64 ((l0.take k).foldl sessF (0, ⟨#[]⟩)).1 ∧ i = .string ((l0.take k).foldl sessF (0, ⟨#[]⟩)).2 ∧ f = .bool true ∧ x = .int .i64 k ∧ ((l0.take k).foldl sessF (0, ⟨#[]⟩)).1 ≤ k * 2000000 ∧ Below w.heap.size w W) (fun _ _ _ x _ => l0.length - (RowKit.intOf x).toNat)
  case atStart => exact ⟨0, Nat.zero_le _, rfl, rfl, rfl, rfl, rfl, by simp, Below.refl _ _⟩
  case round =>
    obtain ⟨k, hk, hall, rfl, rfl, rfl, rfl, hbd, hB⟩ := hrel
    have HB := hid hB
    clear hB
    by_cases hlt : k < l0.length
    · obtain ⟨ad, rfl, hx⟩ := Kd.at_string hr0 (k : Int) (by omega) (by omega)
      replace hx := (HB.out.cell (World.block_lt_of_cell? w _ hx)).trans hx
      have hrd : rdOf ByteArray.empty l0 (k : Int) = l0.getD k ByteArray.empty := by unfold rdOf; rw [Int.toNat_natCast]
      have hmem : l0.getD k ByteArray.empty ∈ l0 := by rw [List.getD, List.getElem?_eq_getElem hlt]; exact List.getElem_mem hlt
      have htk : l0.take (k + 1) = l0.take k ++ [l0.getD k ByteArray.empty] := by
        rw [List.take_add_one, List.getD, List.getElem?_eq_getElem hlt]; rfl
      rw [hrd, Int.toNat_natCast] at hx
      have hvs := hs _ hmem
      have HSB := hid (fun (b : Bool) (h : (parseS (l0.getD k ByteArray.empty)).2 = b) => h)
      generalize hv : l0.getD k ByteArray.empty = v at *
      clear hrd
      have hpl := parse_len v
      cases hok : (parseS v).2 with
      | false =>
        have HF := hid (show sessS l0 = (⟨#[]⟩, false) by
          unfold sessS
          rw [if_neg]
          intro h
          rw [List.all_eq_true] at h
          have := h v hmem
          rw [hok] at this
          cases this)
        clear HSB htk hmem hv
        generalize (l0.take k).foldl sessF (0, ⟨#[]⟩) = st at *
        go_wp2_with (go_at_call 17; refine (parse_any v (by omega) _ (hS.of_below HB.out)).mono ?_; rintro e w1 ⟨r, rfl, hR, hb1⟩; rw [hok]; obtain ⟨Ao, co, rfl⟩ := Kd.R_slice hR; have HB1 := hid (below_step HB.out hb1))
        rw [Exit.noGoto_ret]
        go_ret2
        exact ⟨by rw [HF.out]; rfl, HB1.out⟩
      | true =>
        have HA := hid (show (l0.take (k + 1)).all (fun v => (parseS v).2) = true by rw [htk, List.all_append, hall]; simp [hok])
        have HT := hid (show (l0.take (k + 1)).foldl sessF (0, ⟨#[]⟩) = (parseS v).1.foldl sess1 ((l0.take k).foldl sessF (0, ⟨#[]⟩)) by rw [htk, List.foldl_append]; rfl)
        have hle := sess1_le
        clear HSB htk hmem hv hall
        generalize (l0.take k).foldl sessF (0, ⟨#[]⟩) = st at *
        generalize hcs : (parseS v).1 = cs at *
        go_wp2_with (go_at_call 17; refine (parse_any v (by omega) _ (hS.of_below HB.out)).mono ?_; rintro e w1 ⟨r, rfl, hR, hb1⟩; rw [hok]; rw [hcs] at hR; obtain ⟨Ao, co, rfl⟩ := Kd.R_slice hR; have HB1 := hid (below_step HB.out hb1); have HROW := hid (Kd.R_reads' hR).2.2)
        go_loopw [4, 5, 28] (fun n i x W => ∃ j : Nat, j ≤ cs.length ∧ n = .int .i64 ((cs.take j).foldl sess1 st).1 ∧ i = .string ((cs.take j).foldl sess1 st).2 ∧ x = .int .i64 j ∧ Below w1.heap.size w1 W) (fun _ _ x _ => cs.length - (RowKit.intOf x).toNat)
        case atStart => exact ⟨0, Nat.zero_le _, rfl, rfl, rfl, Below.refl _ _⟩
        case round =>
          obtain ⟨j, hj, rfl, rfl, rfl, hB2⟩ := hrel
          have hle1 := hle (cs.take j) st
          have htl : (cs.take j).length ≤ j := by rw [List.length_take]; omega
          have HB2 := hid hB2
          clear hB2
          by_cases hjl : j < cs.length
          · obtain ⟨ad2, rfl, hx0, hx1⟩ := at_T38 HROW.out (j : Int) (by omega) (by omega)
            replace hx0 := (HB2.out.cell (World.block_lt_of_cell? w1 _ hx0)).trans hx0
            replace hx1 := (HB2.out.cell (World.block_lt_of_cell? w1 _ hx1)).trans hx1
            have hrd : rd_T38 cs (j : Int) = cs.getD j z38 := by unfold rd_T38; rw [Int.toNat_natCast]
            have htk2 : (cs.take (j + 1)).foldl sess1 st = sess1 ((cs.take j).foldl sess1 st) (cs.getD j z38) := by
              rw [List.take_add_one, List.foldl_append, List.getD, List.getElem?_eq_getElem hjl]; rfl
            rw [hrd, Int.toNat_natCast] at hx0 hx1
            clear hrd
            generalize (cs.take j).foldl sess1 st = st2 at *
            generalize cs.getD j z38 = c at *
            by_cases hc : c.f0 = nameB
            · have HT2 := hid (show (cs.take (j + 1)).foldl sess1 st = (st2.1 + 1, c.f1) by rw [htk2]; unfold sess1; rw [if_pos hc])
              have hq : (c.f0.toList == [95, 95, 72, 111, 115, 116, 45, 105, 100]) = true := by rw [beq_iff_eq, hc, ByteArray.toList_eq]; rfl
              clear htk2 hc
              go_wp2
              repeat (go_quiet (fail); try go_wp2)
              go_roundw
              case rel => exact ⟨j + 1, by omega, by rw [HT2.out]; go_num, by rw [HT2.out], by go_num, by repeat (first | (with_reducible first | exact HB2.out | apply below_alloc | apply pw_below_drewN | apply below_drew1) | exact HB2.out)⟩
              case measure => simp [RowKit.intOf]; omega
            · have HT2 := hid (show (cs.take (j + 1)).foldl sess1 st = st2 by rw [htk2]; unfold sess1; rw [if_neg hc])
              have hq : (c.f0.toList == [95, 95, 72, 111, 115, 116, 45, 105, 100]) = false := beq_eq_false_iff_ne.2 (fun h => hc (ba_ext (by rw [ByteArray.toList_eq] at h; exact h)))
              clear htk2 hc
              go_wp2
              go_roundw
              case rel => exact ⟨j + 1, by omega, by rw [HT2.out], by rw [HT2.out], by go_num, HB2.out.alloc (Nat.le_trans HB2.out.size (Nat.le_refl _)) _⟩
              case measure => simp [RowKit.intOf]; omega
          · obtain rfl : j = cs.length := by omega
            rw [List.take_of_length_le (Nat.le_refl _)] at *
            go_wp2
            go_roundw
            case rel => exact ⟨k + 1, by omega, HA.out, by rw [HT.out], by rw [HT.out], rfl, by go_num, by rw [HT.out]; omega, HB1.out.trans (HB2.out.mono HB1.out.size)⟩
            case measure => simp [RowKit.intOf]; omega
    · obtain rfl : k = l0.length := by omega
      rw [List.take_of_length_le (Nat.le_refl _)] at hall hbd ⊢
      have hsess : sessS l0 = (if 1 < (l0.foldl sessF (0, ⟨#[]⟩)).1 then (⟨#[]⟩, false) else ((l0.foldl sessF (0, ⟨#[]⟩)).2, true)) := by unfold sessS; rw [if_pos hall]
      generalize l0.foldl sessF (0, ⟨#[]⟩) = st at *
      by_cases h1 : 1 < st.1
      · have HF := hid (show sessS l0 = (⟨#[]⟩, false) by rw [hsess, if_pos h1])
        clear hsess
        go_wp2
        rw [Exit.noGoto_ret]
        go_ret2
        exact ⟨by rw [HF.out]; rfl, HB.out⟩
      · have HF := hid (show sessS l0 = (st.2, true) by rw [hsess, if_neg h1])
        clear hsess
        go_wp2
        rw [Exit.noGoto_ret]
        go_ret2
        exact ⟨by rw [HF.out]; rfl, HB.out⟩
end Go.Proofs.YtipbgnhhmgljnaaDoor.Split

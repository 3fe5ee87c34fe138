/-
  Set, Read and Prefix of the document's answer (wicketmanref11) are the program's.
-/
import Derived.Test.YtipbgnhhmgljnaaDoorPl11f
import Derived.Test.YtipbgnhhmgljnaaDoorP11r
import Derived.Test.YtipbgnhhmgljnaaDoorPl08v
import Derived.Test.YtipbgnhhmgljnaaDoorPall19
import Derived.Test.YtipbgnhhmgljnaaDoorPall20
import Derived.Test.YtipbgnhhmgljnaaDoorPall16
import Derived.Test.YtipbgnhhmgljnaaDoorPall21
import Derived.Test.YtipbgnhhmgljnaaDoorPall18
namespace Go.Proofs.YtipbgnhhmgljnaaDoor.Pl
open Go.RowKit Go.Proofs.YtipbgnhhmgljnaaDoor.Pall Go.Proofs.YtipbgnhhmgljnaaDoor.Split Go.Proofs.YtipbgnhhmgljnaaDoorW.PrintWords Go.Proofs.YtipbgnhhmgljnaaDoorW.PrintLast Go.Proofs.YtipbgnhhmgljnaaDoorW.PrintMore
set_option linter.unusedVariables false
set_option linter.unusedSimpArgs false

/-! ### Set -/
theorem setT_ref (n v : ByteArray) (t : Int) : (((((n ++ (⟨#[61]⟩ : ByteArray)) ++ v) ++ (⟨#[59, 32, 77, 97, 120, 45, 65, 103, 101, 61]⟩ : ByteArray)) ++ (⟨(Lib.itoa t).toArray⟩ : ByteArray)) ++ restB) = setT n v t := by
  apply Split.ba_ext; unfold setT; simp
theorem refSet (n v : ByteArray) (t : Int) (hn : n.size ≤ 140737488351232) (hv : v.size ≤ 140737488351232) : Ev (fun k => wicketmanref11_Set.f k n v t) (setS n v t) := by
  unfold wicketmanref11_Set.f
  refine Ev.bind (refToken n (by omega)) ?_
  cases h1 : tokL n.data.toList with
  | false =>
    have : setS n v t = (⟨#[]⟩, 1) := by unfold setS; rw [if_neg (fun h => by rw [h1] at h; cases h.1)]
    rw [this]; simp only [Bool.false_eq_true, if_false]; exact Ev.now _
  | true =>
    simp only [if_true]
    refine Ev.bind (refOct v (by omega)) ?_
    cases h2 : octL v.data.toList with
    | false =>
      have : setS n v t = (⟨#[]⟩, 1) := by unfold setS; rw [if_neg (fun h => by rw [h2] at h; cases h.2.1)]
      rw [this]; simp only [Bool.false_eq_true, if_false]; exact Ev.now _
    | true =>
      simp only [if_true]
      by_cases h3 : t < 0
      · have : setS n v t = (⟨#[]⟩, 1) := by unfold setS; rw [if_neg (fun h => by omega)]
        rw [this]; simp only [if_pos h3]; exact Ev.now _
      simp only [if_neg h3]
      by_cases h4 : t > 999999999
      · have : setS n v t = (⟨#[]⟩, 1) := by unfold setS; rw [if_neg (fun h => by omega)]
        rw [this]; simp only [if_pos h4]; exact Ev.now _
      simp only [if_neg h4]
      have hi := itoa_small t (by omega) (by omega)
      have hsz : (⟨(Lib.itoa t).toArray⟩ : ByteArray).size = (Lib.itoa t).length := rfl
      have e1 : (⟨#[61]⟩ : ByteArray).size = 1 := rfl
      have e2 : (⟨#[59, 32, 77, 97, 120, 45, 65, 103, 101, 61]⟩ : ByteArray).size = 10 := rfl
      have hit : strconv_Itoa.f t = some ⟨(Lib.itoa t).toArray⟩ := by unfold strconv_Itoa.f; rw [if_pos ⟨by omega, by omega⟩]
      have hS : setS n v t = (setT n v t, 0) := by unfold setS; rw [if_pos ⟨h1, h2, by omega, by omega⟩]
      rw [hS, ← setT_ref]
      refine Ev.congr (f := fun _ => some _) (fun k => ?_) (Ev.now _)
      rw [hit]
      simp only [Option.bind_some, ByteArray.size_append, hsz, e1, e2]
      rw [if_pos (by omega), if_pos (by omega), if_pos (by omega), if_pos (by omega), if_pos (by omega)]
      rfl
theorem setS_err (n v : ByteArray) (t : Int) : 0 ≤ (setS n v t).2 ∧ (setS n v t).2 ≤ 1 := by
  unfold setS; split
  · exact ⟨Int.le_refl 0, (by decide : (0 : Int) ≤ 1)⟩
  · exact ⟨(by decide : (0 : Int) ≤ 1), Int.le_refl 1⟩
theorem sets_true (n v : ByteArray) (t : Int) (hn : n.size ≤ 140737488351232) (hv : v.size ≤ 140737488351232) : Ev (fun k => wicketmanlaw11_sets.f k n v t) true := by
  have he := setS_err n v t
  refine Ev.congr (f := fun k => (wicketmanref11_Set.f k n v t).bind fun b => if (setS n v t).1.toList = b.1.toList then some ((setS n v t).2 == b.2) else some false) (fun k => ?_) ?_
  · unfold wicketmanlaw11_sets.f; rw [set_ev n v t hn hv]; simp only [Option.bind_some]; rw [wrap_id (by omega) (by omega)]
  · refine Ev.bind (refSet n v t hn hv) ?_
    simp only [if_true, beq_self_eq_true]; exact Ev.now _

/-! ### numbers -/
theorem decV_cons (a : UInt8) (l : List UInt8) (z : Int) : (a :: l).foldl (fun n c => 10 * n + ((c.toNat : Int) - 48)) z = l.foldl (fun n c => 10 * n + ((c.toNat : Int) - 48)) (10 * z + ((a.toNat : Int) - 48)) := rfl
theorem refDec_loop (s : ByteArray) (most : Int) (hs : s.size ≤ 9) : ∀ d i (n : Int), s.size - i = d → i ≤ s.size → 0 ≤ n → n < 10 ^ i →
    Ev (fun k => wicketmanref01_Decimal.l0 k s most n (i : Nat)) (if (s.data.toList.drop i).all digB = true then (if (s.data.toList.drop i).foldl (fun n c => 10 * n + ((c.toNat : Int) - 48)) n > most then (0, false) else ((s.data.toList.drop i).foldl (fun n c => 10 * n + ((c.toNat : Int) - 48)) n, true)) else (0, false)) := by
  intro d
  induction d with
  | zero =>
    intro i n hd hi h0 h1
    obtain rfl : i = s.size := by omega
    rw [List.drop_of_length_le (by rw [len_data]; exact Nat.le_refl _)]
    refine Ev.step (f := fun _ => if n > most then some (0, false) else some (n, true)) (fun k => ?_) ?_
    · simp only [wicketmanref01_Decimal.l0]; rw [if_neg (by omega)]
    · rw [if_pos (show (([] : List UInt8).all digB) = true from rfl)]
      show Ev (fun _ => if n > most then some ((0 : Int), false) else some (n, true)) (if n > most then ((0 : Int), false) else (n, true))
      by_cases h : n > most
      · simp only [if_pos h]; exact Ev.now _
      · simp only [if_neg h]; exact Ev.now _
  | succ d ih =>
    intro i n hd hi h0 h1
    have hlt : i < s.size := by omega
    have hdrop : s.data.toList.drop i = s.data.toList.getD i 0 :: s.data.toList.drop (i + 1) := by
      rw [List.drop_eq_getElem_cons (by rw [len_data]; exact hlt), List.getD, List.getElem?_eq_getElem (by rw [len_data]; exact hlt)]; rfl
    have hp : (10 : Int) ^ i ≤ 10 ^ 8 := by
      have : (10 : Nat) ^ i ≤ 10 ^ 8 := Nat.pow_le_pow_right (by omega) (by omega)
      exact_mod_cast this
    have hc := (s.data.toList.getD i 0).toNat_lt
    by_cases ha : ((s.data.toList.getD i 0).toNat : Int) < 48
    · have : digB (s.data.toList.getD i 0) = false := by unfold digB; rw [decide_eq_false (by omega)]; rfl
      rw [hdrop, List.all_cons, this]
      refine Ev.step (f := fun _ => some (0, false)) (fun k => ?_) (Ev.now _)
      simp only [wicketmanref01_Decimal.l0]; rw [if_pos (by omega), if_pos (by omega), bt_nat s i hlt, if_pos ha]
    by_cases hb : ((s.data.toList.getD i 0).toNat : Int) > 57
    · have : digB (s.data.toList.getD i 0) = false := by unfold digB; rw [decide_eq_false (p := _ ≤ 57) (by omega), Bool.and_false]
      rw [hdrop, List.all_cons, this]
      refine Ev.step (f := fun _ => some (0, false)) (fun k => ?_) (Ev.now _)
      simp only [wicketmanref01_Decimal.l0]; rw [if_pos (by omega), if_pos (by omega), bt_nat s i hlt, if_neg ha, if_pos hb]
    have : digB (s.data.toList.getD i 0) = true := by unfold digB; rw [decide_eq_true (by omega), decide_eq_true (by omega)]; rfl
    rw [hdrop, List.all_cons, this, Bool.true_and, decV_cons]
    have h := ih (i + 1) (10 * n + (((s.data.toList.getD i 0).toNat : Int) - 48)) (by omega) (by omega) (by omega) (by rw [Int.pow_succ]; omega)
    refine Ev.step (fun k => ?_) h
    simp only [wicketmanref01_Decimal.l0]
    rw [if_pos (by omega), if_pos (by omega), bt_nat s i hlt, if_neg ha, if_neg hb, wrap_id (n := 10 * n) (by omega) (by omega), show (((s.data.toList.getD i 0).toNat : Int) - 48) % 256 = ((s.data.toList.getD i 0).toNat : Int) - 48 by omega, wrap_id (by omega) (by omega), wrap_id (by omega) (by omega)]
    rfl
theorem refDec (s : ByteArray) (most : Int) : Ev (fun k => wicketmanref01_Decimal.f k s most) (decS s most) := by
  unfold decS
  by_cases h0 : s.size = 0 ∨ 9 < s.size
  · rw [if_pos h0]
    refine Ev.congr (f := fun k => wicketmanref01_Decimal.j0 k s most true) (fun k => ?_) (Ev.step (f := fun _ => some (0, false)) (fun k => ?_) (Ev.now _))
    · unfold wicketmanref01_Decimal.f
      rcases h0 with h0 | h0
      · rw [if_pos (by omega)]
      · rw [if_neg (by omega), decide_eq_true (by omega)]
    · simp only [wicketmanref01_Decimal.j0]; rw [if_pos trivial]
  · rw [if_neg h0]
    refine Ev.congr (f := fun k => wicketmanref01_Decimal.j0 k s most false) (fun k => ?_) (Ev.step (f := fun k => wicketmanref01_Decimal.l0 k s most 0 ((0 : Nat) : Int)) (fun k => ?_) ?_)
    · unfold wicketmanref01_Decimal.f
      rw [if_neg (by omega), decide_eq_false (by omega)]
    · simp only [wicketmanref01_Decimal.j0]; rw [if_neg (by decide)]; rfl
    · have h := refDec_loop s most (by omega) _ 0 0 rfl (by omega) (by omega) (by simp)
      rw [List.drop_zero] at h
      exact h

/-! ### Read -/
def rBad : ByteArray × ByteArray × Int × Bool := none4
/-- behind the equals sign -/
def readAt (s : ByteArray) (ps : List ByteArray) (p : Nat) : ByteArray × ByteArray × Int × Bool :=
  if p = (ps.getD 0 ByteArray.empty).size then none4
  else if (setS ((ps.getD 0 ByteArray.empty).extract 0 p) ((ps.getD 0 ByteArray.empty).extract (p + 1) (ps.getD 0 ByteArray.empty).size) (decS ((ps.getD 1 ByteArray.empty).extract 8 (ps.getD 1 ByteArray.empty).size) 999999999).1) = (s, 0) then
    ((ps.getD 0 ByteArray.empty).extract 0 p, (ps.getD 0 ByteArray.empty).extract (p + 1) (ps.getD 0 ByteArray.empty).size, (decS ((ps.getD 1 ByteArray.empty).extract 8 (ps.getD 1 ByteArray.empty).size) 999999999).1, true)
  else none4
theorem refRead_j2 (s : ByteArray) (ps : List ByteArray) (p : Nat) (hl : 2 ≤ ps.length) (hz : (ps.getD 0 ByteArray.empty).size ≤ 1000000) (h8 : 8 ≤ (ps.getD 1 ByteArray.empty).size) (hp : p ≤ (ps.getD 0 ByteArray.empty).size) :
    Ev (fun k => wicketmanref11_Read.j2 k s ps (p : Nat)) (readAt s ps p) := by
  have r0 : rdOf ByteArray.empty ps 0 = ps.getD 0 ByteArray.empty := rfl
  have r1 : rdOf ByteArray.empty ps 1 = ps.getD 1 ByteArray.empty := rfl
  unfold readAt
  generalize ps.getD 0 ByteArray.empty = a at *
  generalize ps.getD 1 ByteArray.empty = b at *
  by_cases he : p = a.size
  · rw [if_pos he]
    refine Ev.step (f := fun _ => some none4) (fun k => ?_) (Ev.now _)
    simp only [wicketmanref11_Read.j2]; rw [if_pos (by omega), r0, if_pos (by omega)]; rfl
  rw [if_neg he]
  refine Ev.step (f := fun k => (wicketmanref01_Decimal.f k (b.extract 8 b.size) 999999999).bind fun bt363 => ((wicketmanref11_Set.f k (a.extract 0 p) (a.extract (p + 1) a.size) bt363.1).bind fun bt365 => (if bt365.2 = 0 then (if bt365.1.toList = s.toList then (some (a.extract 0 p, a.extract (p + 1) a.size, bt363.1, true)) else some none4) else some none4))) (fun k => ?_) ?_
  · simp only [wicketmanref11_Read.j2]
    rw [if_pos (by omega), r0, r1, if_neg (by omega), if_pos (by omega), if_pos (by omega), wrap_id (by omega) (by omega), if_pos (by omega), if_pos (by omega), if_pos (by omega), if_pos (by omega), Int.toNat_natCast, show ((p : Int) + 1).toNat = p + 1 by omega]
    rfl
  refine Ev.bind (refDec _ _) ?_
  refine Ev.bind (refSet _ _ _ (by rw [ByteArray.size_extract]; omega) (by rw [ByteArray.size_extract]; omega)) ?_
  generalize setS (a.extract 0 p) (a.extract (p + 1) a.size) (decS (b.extract 8 b.size) 999999999).1 = q
  obtain ⟨q1, q2⟩ := q
  by_cases h1 : q2 = 0
  · by_cases h2 : q1.toList = s.toList
    · simp only [if_pos h1, if_pos h2, if_pos (show (q1, q2) = (s, (0 : Int)) from by rw [str_eq h2, h1])]; exact Ev.now _
    · simp only [if_pos h1, if_neg h2, if_neg (show ¬ (q1, q2) = (s, (0 : Int)) from fun h => h2 (by injection h with h _; rw [h]))]; exact Ev.now _
  · simp only [if_neg h1, if_neg (show ¬ (q1, q2) = (s, (0 : Int)) from fun h => h1 (by injection h with _ h))]; exact Ev.now _
theorem refRead_l0 (s : ByteArray) (ps : List ByteArray) (hl : 2 ≤ ps.length) (hz : (ps.getD 0 ByteArray.empty).size ≤ 1000000) (h8 : 8 ≤ (ps.getD 1 ByteArray.empty).size) :
    ∀ d i, pos (ps.getD 0 ByteArray.empty).data.toList 61 - i = d → i ≤ pos (ps.getD 0 ByteArray.empty).data.toList 61 →
    Ev (fun k => wicketmanref11_Read.l0 k s ps (i : Nat)) (readAt s ps (pos (ps.getD 0 ByteArray.empty).data.toList 61)) := by
  have hle := pos_le (ps.getD 0 ByteArray.empty).data.toList 61
  rw [len_data] at hle
  have r0 : rdOf ByteArray.empty ps 0 = ps.getD 0 ByteArray.empty := rfl
  intro d
  induction d with
  | zero =>
    intro i hd hi
    obtain rfl : i = pos (ps.getD 0 ByteArray.empty).data.toList 61 := by omega
    refine Ev.step (fun k => ?_) (refRead_j2 s ps _ hl hz h8 hle)
    simp only [wicketmanref11_Read.l0]
    rw [if_pos (by omega), r0]
    by_cases h : pos (ps.getD 0 ByteArray.empty).data.toList 61 = (ps.getD 0 ByteArray.empty).size
    · rw [if_neg (by omega)]
    · have hat := pos_at (l := (ps.getD 0 ByteArray.empty).data.toList) (c := 61) (by rw [len_data]; omega)
      rw [if_pos (by omega), if_pos (by omega), bt_nat _ _ (by omega), hat, if_pos (by decide)]
  | succ d ih =>
    intro i hd hi
    refine Ev.step (f := fun k => wicketmanref11_Read.l0 k s ps (i + 1 : Nat)) (fun k => ?_) (ih (i + 1) (by omega) (by omega))
    have hb := pos_before (l := (ps.getD 0 ByteArray.empty).data.toList) (c := 61) i (by omega)
    simp only [wicketmanref11_Read.l0]
    rw [if_pos (by omega), r0, if_pos (by omega), if_pos (by omega), bt_nat _ i (by omega), if_neg (fun h => hb (UInt8.toNat_inj.1 (by rw [show (61 : UInt8).toNat = 61 from rfl]; omega))), wrap_id (by omega) (by omega)]
    rfl
def readR (s : ByteArray) : ByteArray × ByteArray × Int × Bool :=
  if (piecesS s).length = 6 ∧ 8 ≤ ((piecesS s).getD 1 ByteArray.empty).size then readAt s (piecesS s) (pos ((piecesS s).getD 0 ByteArray.empty).data.toList 61) else none4
theorem refRead (s : ByteArray) (hs : s.size ≤ 1000000) : Ev (fun k => wicketmanref11_Read.f k s) (readR s) := by
  unfold wicketmanref11_Read.f readR
  refine Ev.bind (refPieces s (by omega)) ?_
  have r1 : rdOf ByteArray.empty (piecesS s) 1 = (piecesS s).getD 1 ByteArray.empty := rfl
  have hz : ∀ x ∈ piecesS s, x.size ≤ 1000000 := fun x hx => by
    unfold piecesS at hx
    obtain ⟨y, hy, rfl⟩ := List.mem_map.1 hx
    rw [mkS_size]
    exact Nat.le_trans (piece_le _ _ _ _ hy) (by rw [len_data]; exact hs)
  have hbad : Ev (fun k => wicketmanref11_Read.j0 k s (piecesS s) true) none4 := by
    refine Ev.step (f := fun _ => some none4) (fun k => ?_) (Ev.now _)
    simp only [wicketmanref11_Read.j0]; rw [if_pos trivial]; rfl
  by_cases h6 : (piecesS s).length = 6
  · simp only [if_pos (show ((piecesS s).length : Int) = 6 by omega), if_pos (show (1 : Int) < ((piecesS s).length : Int) by omega), r1]
    by_cases h8 : 8 ≤ ((piecesS s).getD 1 ByteArray.empty).size
    · rw [if_pos ⟨h6, h8⟩]
      simp only [decide_eq_false (show ¬ (((piecesS s).getD 1 ByteArray.empty).size : Int) < 8 by omega)]
      refine Ev.step (f := fun k => wicketmanref11_Read.l0 k s (piecesS s) ((0 : Nat) : Int)) (fun k => ?_) (refRead_l0 s (piecesS s) (by omega) (hz _ (getD_in _ _ (by omega))) h8 _ 0 rfl (by omega))
      simp only [wicketmanref11_Read.j0]; rw [if_neg (by decide)]; rfl
    · rw [if_neg (fun h => h8 h.2)]
      simp only [decide_eq_true (show (((piecesS s).getD 1 ByteArray.empty).size : Int) < 8 by omega)]
      exact hbad
  · rw [if_neg (fun h => h6 h.1)]
    simp only [if_neg (show ¬ ((piecesS s).length : Int) = 6 by omega)]
    exact hbad
theorem readR_bad (s : ByteArray) (h : ¬ WasSet s) : readR s = none4 := by
  unfold readR
  split
  · unfold readAt
    split
    · rfl
    · split
      · rename_i hq
        exact absurd (wasSet_of (congrArg Prod.snd hq) (congrArg Prod.fst hq)) h
      · rfl
  · rfl
theorem set_pieces (n v : List UInt8) (u : Nat) (hn : tokL n = true) (hv : octL v = true) : piecesS (mkS (setL n v u)) = [mkS (n ++ 61 :: v), mkS ([77, 97, 120, 45, 65, 103, 101, 61] ++ Lib.decDigits u), mkS [80, 97, 116, 104, 61, 47], mkS [83, 101, 99, 117, 114, 101], mkS [72, 116, 116, 112, 79, 110, 108, 121], mkS [83, 97, 109, 101, 83, 105, 116, 101, 61, 83, 116, 114, 105, 99, 116]] := by
  have e : setL n v u = joinS [n ++ 61 :: v, [77, 97, 120, 45, 65, 103, 101, 61] ++ Lib.decDigits u, [80, 97, 116, 104, 61, 47], [83, 101, 99, 117, 114, 101], [72, 116, 116, 112, 79, 110, 108, 121], [83, 97, 109, 101, 83, 105, 116, 101, 61, 83, 116, 114, 105, 99, 116]] := by
    unfold setL maxL restL joinS joinS joinS joinS joinS joinS
    simp
  have hg := pc_no (p := (n, v)) ⟨hn, hv⟩
  rw [e, pieces_mk, split_join _ _ (by simp) (join_len _) (fun p hp => by
    simp only [List.mem_cons, List.not_mem_nil, or_false] at hp
    rcases hp with rfl | rfl | rfl | rfl | rfl | rfl
    · exact hg
    · simp only [List.mem_append, not_or]
      exact ⟨⟨by decide, dd_no u _ (by decide +kernel)⟩, ⟨by decide, dd_no u _ (by decide +kernel)⟩⟩
    · exact ⟨by decide, by decide⟩
    · exact ⟨by decide, by decide⟩
    · exact ⟨by decide, by decide⟩
    · exact ⟨by decide, by decide⟩)]
  rfl
theorem pos_pc (n v : List UInt8) (hn : 61 ∉ n) : pos (n ++ 61 :: v) 61 = n.length := pos_eq (by simp) (by simp [List.getD]) (fun j hj => by
    rw [List.getD, List.getElem?_append_left hj, List.getElem?_eq_getElem hj]
    intro e
    exact hn (e ▸ List.getElem_mem hj))
theorem readR_good (n v : List UInt8) (u : Nat) (hn : tokL n = true) (hv : octL v = true) (hu : u ≤ 999999999) : readR (mkS (setL n v u)) = (mkS n, mkS v, (u : Int), true) := by
  have hp := set_pieces n v u hn hv
  have h61 : 61 ∉ n := tok_no _ hn _ (by decide +kernel)
  unfold readR
  rw [hp]
  have g0 : ([mkS (n ++ 61 :: v), mkS ([77, 97, 120, 45, 65, 103, 101, 61] ++ Lib.decDigits u), mkS [80, 97, 116, 104, 61, 47], mkS [83, 101, 99, 117, 114, 101], mkS [72, 116, 116, 112, 79, 110, 108, 121], mkS [83, 97, 109, 101, 83, 105, 116, 101, 61, 83, 116, 114, 105, 99, 116]] : List ByteArray).getD 0 ByteArray.empty = mkS (n ++ 61 :: v) := rfl
  have g1 : ([mkS (n ++ 61 :: v), mkS ([77, 97, 120, 45, 65, 103, 101, 61] ++ Lib.decDigits u), mkS [80, 97, 116, 104, 61, 47], mkS [83, 101, 99, 117, 114, 101], mkS [72, 116, 116, 112, 79, 110, 108, 121], mkS [83, 97, 109, 101, 83, 105, 116, 101, 61, 83, 116, 114, 105, 99, 116]] : List ByteArray).getD 1 ByteArray.empty = mkS ([77, 97, 120, 45, 65, 103, 101, 61] ++ Lib.decDigits u) := rfl
  have e1 : (mkS (n ++ 61 :: v)).data.toList = n ++ 61 :: v := rfl
  rw [g0, g1, if_pos ⟨rfl, by rw [mkS_size, List.length_append]; show 8 ≤ 8 + _; omega⟩, e1, pos_pc n v h61]
  unfold readAt
  rw [g0, g1]
  have x1 : (mkS (n ++ 61 :: v)).extract 0 n.length = mkS n := by rw [ext_mid]; simp [mkS]
  have x2 : (mkS (n ++ 61 :: v)).extract (n.length + 1) (mkS (n ++ 61 :: v)).size = mkS v := by rw [Pall.ext_from, e1]; simp [mkS, mkB]
  have x3 : (mkS ([77, 97, 120, 45, 65, 103, 101, 61] ++ Lib.decDigits u)).extract 8 (mkS ([77, 97, 120, 45, 65, 103, 101, 61] ++ Lib.decDigits u)).size = mkS (Lib.decDigits u) := by rw [Pall.ext_from]; rfl
  rw [x1, x2, x3, if_neg (by rw [mkS_size]; simp), decS_itoa u hu, setS_good n v u hn hv hu, if_pos rfl]
theorem reads_true (s : ByteArray) (hs : s.size ≤ 1000000) : Ev (fun k => wicketmanlaw11_reads.f k s) true := by
  obtain ⟨r, h1, h2⟩ : ∃ r, (∀ k, cookie_Read.f (k + 1) s = some r) ∧ readR s = r := by
    by_cases h : WasSet s
    · obtain ⟨n, v, u, hn, hv, hu, rfl⟩ := h
      refine ⟨_, fun k => read_good k n v u hn hv hu ?_, readR_good n v u hn hv hu⟩
      rw [mkS_size] at hs
      unfold setL at hs
      simp at hs; omega
    · exact ⟨none4, fun k => read_bad k s hs h, readR_bad s h⟩
  obtain ⟨K, hK⟩ := refRead s hs
  refine ⟨K + 1, fun k hk => ?_⟩
  obtain ⟨k, rfl⟩ : ∃ m, k = m + 1 := ⟨k - 1, by omega⟩
  have hk2 : wicketmanref11_Read.f (k + 1) s = some (readR s) := hK (k + 1) (by omega)
  show wicketmanlaw11_reads.f (k + 1) s = some true
  unfold wicketmanlaw11_reads.f
  rw [h1, hk2, h2]
  simp

/-! ### Prefix -/
theorem refBegins (s f : ByteArray) (hs : s.size ≤ 140737488351232) (hf : f.size ≤ 100) : ∃ b, cookie_begins.f s f = some b ∧ Ev (fun k => wicketmanref11_begins.f k s f) b := by
  unfold cookie_begins.f wicketmanref11_begins.f
  by_cases h : (s.size : Int) ≥ (f.size : Int)
  · simp only [if_pos h, if_pos (show (0 : Int) ≤ (f.size : Int) by omega), if_pos (show (f.size : Int) ≤ (s.size : Int) by omega), Int.toNat_natCast]
    have hz : (s.extract 0 f.size).size ≤ 140737488351232 := by rw [ByteArray.size_extract]; omega
    refine ⟨sameS (s.extract 0 f.size) f, ?_, ?_⟩
    · rw [headSame _ _ hz (by omega)]; rfl
    · exact Ev.bind (refSame _ _ (by omega)) (Ev.now _)
  · simp only [if_neg h]
    exact ⟨false, rfl, Ev.now _⟩
theorem prefix_true (n : ByteArray) (s : Bool) (p : ByteArray) (d : Bool) (hn : n.size ≤ 140737488351232) : Ev (fun k => wicketmanlaw11_prefix.f k n s p d) true := by
  obtain ⟨b1, c1, e1⟩ := refBegins n (⟨#[95, 95, 72, 111, 115, 116, 45]⟩ : ByteArray) hn (by decide)
  obtain ⟨b2, c2, e2⟩ := refBegins n (⟨#[95, 95, 83, 101, 99, 117, 114, 101, 45]⟩ : ByteArray) hn (by decide)
  obtain ⟨r, h1, h2⟩ : ∃ r, cookie_Prefix.f n s p d = some r ∧ Ev (fun k => wicketmanref11_Prefix.f k n s p d) r := by
    unfold cookie_Prefix.f wicketmanref11_Prefix.f
    rw [c1]
    simp only [Option.bind_some]
    cases b1 with
    | true =>
      cases s with
      | true =>
        by_cases hp : p.toList = ([47] : List UInt8)
        · exact ⟨!d, by simp [hp], Ev.bind e1 (by simp only [if_true, if_pos hp]; exact Ev.now _)⟩
        · exact ⟨false, by simp [hp], Ev.bind e1 (by simp only [if_true, if_neg hp]; exact Ev.now _)⟩
      | false => exact ⟨false, by simp, Ev.bind e1 (by simp only [if_true, Bool.false_eq_true, if_false]; exact Ev.now _)⟩
    | false =>
      rw [c2]
      cases b2 with
      | true => exact ⟨s, by simp, Ev.bind e1 (by simp only [Bool.false_eq_true, if_false]; exact Ev.bind e2 (by simp only [if_true]; exact Ev.now _))⟩
      | false => exact ⟨true, by simp, Ev.bind e1 (by simp only [Bool.false_eq_true, if_false]; exact Ev.bind e2 (by simp only [Bool.false_eq_true, if_false]; exact Ev.now _))⟩
  unfold wicketmanlaw11_prefix.f
  rw [h1]
  simp only [Option.bind_some]
  refine Ev.bind h2 ?_
  simp only [beq_self_eq_true]; exact Ev.now _
end Go.Proofs.YtipbgnhhmgljnaaDoor.Pl

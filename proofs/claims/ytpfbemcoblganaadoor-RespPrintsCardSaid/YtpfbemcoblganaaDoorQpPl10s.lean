/-
  The reference's Decimal and Parse; what the laws call parses and prints.
-/
import Derived.Test.YtpfbemcoblganaaDoorQpPl10r
import Derived.Test.YtpfbemcoblganaaDoorQpHttpC
import Derived.Test.YtpfbemcoblganaaDoorQpPall8
import Derived.Test.YtpfbemcoblganaaDoorQpPall5
import Derived.Test.YtpfbemcoblganaaDoorQpPall7
import Derived.Test.YtpfbemcoblganaaDoorQpPall31
import Derived.Test.YtpfbemcoblganaaDoorQpPall32
import Derived.Test.YtpfbemcoblganaaDoorQpPall30
namespace Go.Proofs.YtpfbemcoblganaaDoor.Pl
open Go.RowKit Go.Proofs.YtpfbemcoblganaaDoor.Pall Go.Proofs.YtpfbemcoblganaaDoorW.PrintWords Go.Proofs.YtpfbemcoblganaaDoorW.PrintLast
set_option linter.unusedVariables false
set_option linter.unusedSimpArgs false
theorem decV10_cons (a : UInt8) (l : List UInt8) (z : Int) : (a :: l).foldl (fun n c => 10 * n + ((c.toNat : Int) - 48)) z = l.foldl (fun n c => 10 * n + ((c.toNat : Int) - 48)) (10 * z + ((a.toNat : Int) - 48)) := rfl
theorem refDec10_loop (s : ByteArray) (most : Int) (hs : s.size ≤ 9) : ∀ d i (n : Int), s.size - i = d → i ≤ s.size → 0 ≤ n → n < 10 ^ i →
    Ev (fun k => wicketmanref01_Decimal.l0 k s most n (i : Nat)) (if (s.data.toList.drop i).all digB = true then (if (s.data.toList.drop i).foldl (fun n c => 10 * n + ((c.toNat : Int) - 48)) n > most then (0, false) else ((s.data.toList.drop i).foldl (fun n c => 10 * n + ((c.toNat : Int) - 48)) n, true)) else (0, false)) := by
  intro d
  induction d with
  | zero =>
    intro i n hd hi h0 h1
    obtain rfl : i = s.size := by omega
    rw [List.drop_of_length_le (by rw [len_data]; exact Nat.le_refl _)]
    refine Ev.step (f := fun _ => if n > most then some (0, false) else some (n, true)) (fun k => ?_) ?_
    · simp only [wicketmanref01_Decimal.l0]; rw [if_neg (by omega)]
    · rw [if_pos (show (([] : List UInt8).all digB) = true from rfl)]
      show Ev (fun _ => if n > most then some ((0 : Int), false) else some (n, true)) (if n > most then ((0 : Int), false) else (n, true))
      by_cases h : n > most
      · simp only [if_pos h]; exact Ev.now _
      · simp only [if_neg h]; exact Ev.now _
  | succ d ih =>
    intro i n hd hi h0 h1
    have hlt : i < s.size := by omega
    have hdrop : s.data.toList.drop i = s.data.toList.getD i 0 :: s.data.toList.drop (i + 1) := by
      rw [List.drop_eq_getElem_cons (by rw [len_data]; exact hlt), List.getD, List.getElem?_eq_getElem (by rw [len_data]; exact hlt)]; rfl
    have hp : (10 : Int) ^ i ≤ 10 ^ 8 := by
      have : (10 : Nat) ^ i ≤ 10 ^ 8 := Nat.pow_le_pow_right (by omega) (by omega)
      exact_mod_cast this
    have hc := (s.data.toList.getD i 0).toNat_lt
    by_cases ha : ((s.data.toList.getD i 0).toNat : Int) < 48
    · have : digB (s.data.toList.getD i 0) = false := by unfold digB; rw [decide_eq_false (by omega)]; rfl
      rw [hdrop, List.all_cons, this]
      refine Ev.step (f := fun _ => some (0, false)) (fun k => ?_) (Ev.now _)
      simp only [wicketmanref01_Decimal.l0]; rw [if_pos (by omega), if_pos (by omega), bt_nat s i hlt, if_pos ha]
    by_cases hb : ((s.data.toList.getD i 0).toNat : Int) > 57
    · have : digB (s.data.toList.getD i 0) = false := by unfold digB; rw [decide_eq_false (p := _ ≤ 57) (by omega), Bool.and_false]
      rw [hdrop, List.all_cons, this]
      refine Ev.step (f := fun _ => some (0, false)) (fun k => ?_) (Ev.now _)
      simp only [wicketmanref01_Decimal.l0]; rw [if_pos (by omega), if_pos (by omega), bt_nat s i hlt, if_neg ha, if_pos hb]
    have : digB (s.data.toList.getD i 0) = true := by unfold digB; rw [decide_eq_true (by omega), decide_eq_true (by omega)]; rfl
    rw [hdrop, List.all_cons, this, Bool.true_and, decV10_cons]
    have h := ih (i + 1) (10 * n + (((s.data.toList.getD i 0).toNat : Int) - 48)) (by omega) (by omega) (by omega) (by rw [Int.pow_succ]; omega)
    refine Ev.step (fun k => ?_) h
    simp only [wicketmanref01_Decimal.l0]
    rw [if_pos (by omega), if_pos (by omega), bt_nat s i hlt, if_neg ha, if_neg hb, wrap_id (n := 10 * n) (by omega) (by omega), show (((s.data.toList.getD i 0).toNat : Int) - 48) % 256 = ((s.data.toList.getD i 0).toNat : Int) - 48 by omega, wrap_id (by omega) (by omega), wrap_id (by omega) (by omega)]
    rfl
theorem refDec10 (s : ByteArray) (most : Int) : Ev (fun k => wicketmanref01_Decimal.f k s most) (decS s most) := by
  unfold decS
  by_cases h0 : s.size = 0 ∨ 9 < s.size
  · rw [if_pos h0]
    refine Ev.congr (f := fun k => wicketmanref01_Decimal.j0 k s most true) (fun k => ?_) (Ev.step (f := fun _ => some (0, false)) (fun k => ?_) (Ev.now _))
    · unfold wicketmanref01_Decimal.f
      rcases h0 with h0 | h0
      · rw [if_pos (by omega)]
      · rw [if_neg (by omega), decide_eq_true (by omega)]
    · simp only [wicketmanref01_Decimal.j0]; rw [if_pos trivial]
  · rw [if_neg h0]
    refine Ev.congr (f := fun k => wicketmanref01_Decimal.j0 k s most false) (fun k => ?_) (Ev.step (f := fun k => wicketmanref01_Decimal.l0 k s most 0 ((0 : Nat) : Int)) (fun k => ?_) ?_)
    · unfold wicketmanref01_Decimal.f
      rw [if_neg (by omega), decide_eq_false (by omega)]
    · simp only [wicketmanref01_Decimal.j0]; rw [if_neg (by decide)]; rfl
    · have h := refDec10_loop s most (by omega) _ 0 0 rfl (by omega) (by omega) (by simp)
      rw [List.drop_zero] at h
      exact h
theorem midL_at (ls : List ByteArray) (j : Nat) (hj : j < (midL ls).length) : rdOf ByteArray.empty ls ((1 + j : Nat) : Int) = (midL ls).getD j ByteArray.empty := by
  have hl := midL_len ls
  unfold rdOf midL
  rw [Int.toNat_natCast, List.getD, List.getD, List.getElem?_drop, List.getElem?_take, if_pos (by omega)]
theorem refP_loop (bs : List UInt8) (ls : List ByteArray) (st : Int) (m : Nat) (hls : 2 ≤ ls.length) (hln : ls.length ≤ 4294967290) :
    ∀ d j, (midL ls).length - j = d → j ≤ (midL ls).length → fldsE ((midL ls).take j) = 0 → Ev (fun k => wicketmanref10_Parse.l0 k (numsL bs) ls ((1 + j : Nat) : Int) st (((midL ls).take j).map fldS) (numsL (bs.drop m)))
      (if fldsE (midL ls) = 0 ∧ (prS st (fsL ls) (numsL (bs.drop m))).2 = 0 ∧ ((strOfNums (numsL bs)).toList == (strOfNums (prS st (fsL ls) (numsL (bs.drop m))).1).toList) = true then (st, fsL ls, numsL (bs.drop m), 0) else noRsp) := by
  have hml := midL_len ls
  intro d
  induction d with
  | zero =>
    intro j hd hj he
    obtain rfl : j = (midL ls).length := by omega
    rw [List.take_length] at he ⊢
    have hs : ∀ p ∈ (midL ls).map fldS, p.f0.size ≤ 140737488351232 ∧ p.f1.size ≤ 140737488351232 := by
      intro p hp
      obtain ⟨l, hl, rfl⟩ := List.mem_map.1 hp
      exact fld_sizes l (fldsE_mem _ he l hl)
    refine Ev.step (f := fun k => (wicketmanref10_Print.f k st ((midL ls).map fldS) (numsL (bs.drop m))).bind fun bt => if bt.2 = 0 then (if (strOfNums bt.1).toList = (strOfNums (numsL bs)).toList then some (st, (midL ls).map fldS, numsL (bs.drop m), 0) else some (0, ([] : List S43), ([] : List Int), 10)) else some (0, ([] : List S43), ([] : List Int), 10)) (fun k => ?_) (Ev.bind (refPr st ((midL ls).map fldS) (bs.drop m) hs) ?_)
    · simp only [wicketmanref10_Parse.l0]
      rw [wrap_id (by omega) (by omega), if_neg (by omega)]
    · rw [show (midL ls).map fldS = fsL ls from rfl]
      by_cases h0 : (prS st (fsL ls) (numsL (bs.drop m))).2 = 0
      · simp only [if_pos h0]
        by_cases h1 : (strOfNums (prS st (fsL ls) (numsL (bs.drop m))).1).toList = (strOfNums (numsL bs)).toList
        · rw [if_pos h1, if_pos ⟨he, h0, beq_iff_eq.2 h1.symm⟩]; exact Ev.now _
        · rw [if_neg h1, if_neg (fun h => h1 (beq_iff_eq.1 h.2.2).symm)]; exact Ev.now _
      · simp only [if_neg h0]
        rw [if_neg (fun h => h0 h.2.1)]; exact Ev.now _
  | succ d ih =>
    intro j hd hj he
    have hlt : j < (midL ls).length := by omega
    have hat := midL_at ls j hlt
    have htk := take_at hlt
    have hre := rest_at hlt
    refine Ev.step (f := fun k => (wicketmanref08_Field.f k ((midL ls).getD j ByteArray.empty)).bind fun bt => if bt.2.2 = 0 then wicketmanref10_Parse.l0 k (numsL bs) ls ((1 + (j + 1) : Nat) : Int) st (((midL ls).take j).map fldS ++ [⟨bt.1, bt.2.1⟩]) (numsL (bs.drop m)) else some (0, ([] : List S43), ([] : List Int), 10)) (fun k => ?_) (Ev.bind (refField ((midL ls).getD j ByteArray.empty)) ?_)
    · simp only [wicketmanref10_Parse.l0]
      rw [wrap_id (n := (ls.length : Int) - 1) (by omega) (by omega), if_pos (by omega), if_pos (by omega), if_pos (by omega), hat, wrap_id (n := ((1 + j : Nat) : Int) + 1) (by omega) (by omega)]
      have hl4 : (((midL ls).take j).map fldS).length < 4398046511104 := by rw [List.length_map, List.length_take]; omega
      simp only [if_pos hl4]
      rw [show ((1 + j : Nat) : Int) + 1 = ((1 + (j + 1) : Nat) : Int) by omega]
    · generalize hy : (midL ls).getD j ByteArray.empty = y at *
      by_cases h0 : (fieldS y).2.2 = 0
      · simp only [if_pos h0]
        have e : ((midL ls).take j).map fldS ++ [⟨(fieldS y).1, (fieldS y).2.1⟩] = ((midL ls).take (j + 1)).map fldS := by rw [htk, List.map_append, List.map_singleton]; rfl
        rw [e]
        exact ih (j + 1) (by omega) (by omega) (by rw [htk]; exact fldsE_snoc_ok _ _ he h0)
      · simp only [if_neg h0]
        rw [if_neg (fun h => h0 (by have hb := fldsE_bad _ _ ((midL ls).drop (j + 1)) he h0; rw [← hre, h.1] at hb; exact hb.symm))]
        exact Ev.now _
theorem refP (bs : List UInt8) (hx : bs.length < 4294967281) : Ev (fun k => wicketmanref10_Parse.f k (numsL bs)) (parseR (numsL bs)) := by
  have hcnt := linesK_count (bs.length + 1) bs []
  change (linesS bs).1.length ≤ _ at hcnt
  have hn := linesS_len bs
  have hstr : (strOfNums (numsL bs)).data.toList = bs := by rw [numsL_str]; rfl
  have bad : ∀ (ls : List ByteArray) (x5 : Int), Ev (fun k => wicketmanref10_Parse.j0 k (numsL bs) ls x5 true) noRsp := by
    intro ls x5
    refine Ev.step (f := fun _ => some noRsp) (fun k => ?_) (Ev.now _)
    simp only [wicketmanref10_Parse.j0, if_true]; rfl
  refine Ev.bind (refLines_ev bs (by omega)) ?_
  unfold parseR
  rw [hstr]
  generalize linesS bs = r at *
  obtain ⟨ls, n, ok⟩ := r
  cases ok with
  | false =>
    refine Ev.congr (fun k => ?_) (bad [] 0)
    unfold lnR; simp only [Bool.false_eq_true, if_false]
  | true =>
    simp only [List.length_nil, Nat.zero_add] at hcnt hn
    have hm : (bs.length : Int) - (n : Int) = ((bs.length - n : Nat) : Int) := by omega
    unfold lnR
    simp only [if_true]
    rw [hm, numsL_len]
    unfold parseRL
    by_cases h2 : (ls.length : Int) < 2
    · rw [if_neg (fun hg => by have := hg.1; omega)]
      exact Ev.congr (fun k => by rw [if_pos h2]) (bad ls _)
    · have hrd : rdOf ByteArray.empty ls 0 = ls.getD 0 ByteArray.empty := rfl
      by_cases h12 : ((ls.getD 0 ByteArray.empty).size : Int) < 12
      · rw [if_neg (fun hg => by have := hg.2.1; omega)]
        exact Ev.congr (fun k => by rw [if_neg h2, if_pos (by omega), hrd, decide_eq_true h12]) (bad ls _)
      · have hd : numsL (bs.drop (bs.length - n)) = (numsL bs).drop (bs.length - n) := by unfold numsL; rw [List.map_drop]
        rw [← hd]
        have hl := refP_loop bs ls (stL ls) (bs.length - n) (by omega) (by omega) _ 0 rfl (Nat.zero_le _) rfl
        have e : (if goodR (numsL bs) ls (numsL (bs.drop (bs.length - n))) then (stL ls, fsL ls, numsL (bs.drop (bs.length - n)), (0 : Int)) else noRsp) = (if fldsE (midL ls) = 0 ∧ (prS (stL ls) (fsL ls) (numsL (bs.drop (bs.length - n)))).2 = 0 ∧ ((strOfNums (numsL bs)).toList == (strOfNums (prS (stL ls) (fsL ls) (numsL (bs.drop (bs.length - n)))).1).toList) = true then (stL ls, fsL ls, numsL (bs.drop (bs.length - n)), 0) else noRsp) := by
          by_cases hg : goodR (numsL bs) ls (numsL (bs.drop (bs.length - n)))
          · rw [if_pos hg, if_pos hg.2.2]
          · rw [if_neg hg, if_neg (fun h => hg ⟨by omega, by omega, h⟩)]
        rw [e]
        refine Ev.congr (f := fun k => wicketmanref10_Parse.j0 k (numsL bs) ls ((bs.length - n : Nat) : Int) false) (fun k => by rw [if_neg h2, if_pos (by omega), hrd, decide_eq_false h12]) ?_
        refine Ev.step (f := fun k => (wicketmanref01_Decimal.f k ((ls.getD 0 ByteArray.empty).extract 9 12) 999).bind fun bt => wicketmanref10_Parse.l0 k (numsL bs) ls 1 bt.1 ([] : List S43) ((numsL bs).drop (bs.length - n))) (fun k => ?_) (Ev.bind (refDec10 _ _) ?_)
        · simp only [wicketmanref10_Parse.j0, Bool.false_eq_true, if_false, hrd, numsL_len, Int.toNat_natCast]
          rw [if_pos (by omega), if_pos (by decide), if_pos (by omega)]
          simp only [if_pos (show (0 : Int) ≤ ((bs.length - n : Nat) : Int) by omega), if_pos (show ((bs.length - n : Nat) : Int) ≤ (bs.length : Int) by omega)]
        · rw [← hd]; exact hl
theorem prS_range (st : Int) (fs : List S43) (body : List Int) : 0 ≤ (prS st fs body).2 ∧ (prS st fs body).2 ≤ 12 := by
  have hf : ∀ l : List S43, 0 ≤ fsErr l ∧ fsErr l ≤ 12 := by
    intro l
    induction l with
    | nil => decide
    | cons p l ih =>
      unfold fsErr
      split
      · exact ih
      · exact printS_err _ _
  unfold prS
  split
  · decide
  · split
    · decide
    · split
      · exact hf fs
      · exact ⟨(by show (0 : Int) ≤ 0; decide), (by show (0 : Int) ≤ 12; decide)⟩
theorem prints10_true (st : Int) (fs : List S43) (bs : List UInt8) (hsm : smallF fs = true) : Ev (fun k => wicketmanlaw10_prints.f k st fs (numsL bs)) true := by
  have hs : ∀ p ∈ fs, p.f0.size ≤ 140737488351232 ∧ p.f1.size ≤ 140737488351232 := fun p hp => of_decide_eq_true (List.all_eq_true.1 hsm p hp)
  have hr := prS_range st fs (numsL bs)
  refine Ev.congr (f := fun k => (wicketmanref10_Print.f k st fs (numsL bs)).bind fun bt => if (strOfNums (prS st fs (numsL bs)).1).toList = (strOfNums bt.1).toList then some (wrap64 (prS st fs (numsL bs)).2 == bt.2) else some false) (fun k => ?_) (Ev.bind (refPr st fs bs hs) ?_)
  · unfold wicketmanlaw10_prints.f resp_Print.f
    rw [if_pos hsm, Option.bind_some]
  · rw [if_pos rfl, wrap_id (by omega) (by omega), beq_self_eq_true]; exact Ev.now _
theorem parseR_err (l0 : List Int) : (parseR l0).2.2.2 = 0 ∨ (parseR l0).2.2.2 = 10 := by
  unfold parseR
  generalize linesS (strOfNums l0).data.toList = r
  by_cases h1 : r.2.2 = true
  · rw [if_pos h1]
    unfold parseRL
    by_cases hg : goodR l0 r.1 (l0.drop (l0.length - r.2.1))
    · rw [if_pos hg]; exact .inl rfl
    · rw [if_neg hg]; exact .inr rfl
  · rw [if_neg h1]; exact .inr rfl
theorem parses10_true (bs : List UInt8) (hx : bs.length < 4294967281) (hfl : (parseR (numsL bs)).2.1.length ≤ 9223372036854775806) : Ev (fun k => wicketmanlaw10_parses.f k (numsL bs)) true := by
  refine Ev.congr (f := fun k => (wicketmanref10_Parse.f k (numsL bs)).bind fun bt => (wicketmanref10_Same.f k (parseR (numsL bs)).1 (parseR (numsL bs)).2.1 (parseR (numsL bs)).2.2.1 bt.1 bt.2.1 bt.2.2.1).bind fun t => if t = true then some (wrap64 (parseR (numsL bs)).2.2.2 == bt.2.2.2) else some false) (fun k => ?_) (Ev.bind (refP bs hx) (Ev.bind (same10_true _ _ _ hfl) ?_))
  · unfold wicketmanlaw10_parses.f resp_Parse.f
    rw [if_pos (by rw [numsL_len]; exact hx), Option.bind_some]
  · have h := parseR_err (numsL bs)
    rw [if_pos rfl, wrap_id (by omega) (by omega), beq_self_eq_true]; exact Ev.now _
end Go.Proofs.YtpfbemcoblganaaDoor.Pl

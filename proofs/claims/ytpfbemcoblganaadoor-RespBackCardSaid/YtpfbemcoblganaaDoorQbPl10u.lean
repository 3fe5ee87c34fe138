/-
  What was printed is parsed as it was; cut off, or with more behind, it is none.
-/
import Derived.Test.YtpfbemcoblganaaDoorQbRq
import Derived.Test.YtpfbemcoblganaaDoorQbPl09s
namespace Go.Proofs.YtpfbemcoblganaaDoor.Pl
open Go.RowKit Go.Proofs.YtpfbemcoblganaaDoor.Pall Go.Proofs.YtpfbemcoblganaaDoorW.PrintWords Go.Proofs.YtpfbemcoblganaaDoorW.PrintLast
set_option linter.unusedVariables false
set_option linter.unusedSimpArgs false
/-- lines that are cut off have no end -/
theorem linesK_cut : ∀ (ls : List (List UInt8)) (m k : Nat) (out : List ByteArray), ls.all lineOk = true → m < (joinL ls ++ [13, 10]).length → m < k → linesK k ((joinL ls ++ [13, 10]).take m) out = ([], 0, false)
  | [], m, k, out, _, hm, hk => by
    obtain ⟨q, rfl⟩ : ∃ q, k = q + 1 := ⟨k - 1, by omega⟩
    have hm : m < 2 := hm
    rcases (show m = 0 ∨ m = 1 by omega) with rfl | rfl <;> exact linesK_no q out rfl
  | l :: ls, m, k, out, h, hm, hk => by
    rw [List.all_cons, Bool.and_eq_true] at h
    have h1 := h.1
    unfold lineOk at h1
    rw [Bool.and_eq_true] at h1
    have hl : l ≠ [] := by intro e; rw [e] at h1; simp at h1
    obtain ⟨q, rfl⟩ : ∃ q, k = q + 1 := ⟨k - 1, by omega⟩
    rw [joinL_cons] at hm ⊢
    by_cases hs : m ≤ l.length + 1
    · refine linesK_no q out ?_
      have hno : ∀ j, crlf ((l ++ 13 :: 10 :: (joinL ls ++ [13, 10])).take m) j = false := by
        intro j
        unfold crlf
        by_cases hj : j + 1 < ((l ++ 13 :: 10 :: (joinL ls ++ [13, 10])).take m).length
        · rw [List.length_take] at hj
          have hjl : j < l.length := by omega
          have hx : l.getD j 0 ≠ 13 := by
            have := List.all_eq_true.1 h1.1 (l.getD j 0) (by rw [List.getD, List.getElem?_eq_getElem hjl]; exact List.getElem_mem hjl)
            simpa using this
          have e : ((l ++ 13 :: 10 :: (joinL ls ++ [13, 10])).take m).getD j 0 = l.getD j 0 := by rw [List.getD, List.getD, List.getElem?_take_of_lt (by omega), List.getElem?_append_left hjl]
          rw [e, beq_eq_false_iff_ne.2 hx]; simp
        · rw [decide_eq_false hj]; rfl
      rcases crlf_cut ((l ++ 13 :: 10 :: (joinL ls ++ [13, 10])).take m) with ⟨i, h3, _⟩ | ⟨_, h3⟩
      · rw [hno i] at h3; cases h3
      · exact h3
    · have e : (l ++ 13 :: 10 :: (joinL ls ++ [13, 10])).take m = l ++ 13 :: 10 :: (joinL ls ++ [13, 10]).take (m - (l.length + 2)) := by
        rw [List.take_append, List.take_of_length_le (by omega)]
        obtain ⟨d, hd⟩ : ∃ d, m - l.length = d + 1 + 1 := ⟨m - l.length - 2, by omega⟩
        rw [hd, List.take_succ_cons, List.take_succ_cons, show m - (l.length + 2) = d by omega]
      rw [e, linesK_more q out (cut_line l _ h1.1) hl]
      simp only [List.length_append, List.length_cons, List.length_nil] at hm
      exact linesK_cut ls _ q _ h.2 (by simp only [List.length_append, List.length_cons, List.length_nil]; omega) (by omega)
theorem linesS_cut (ls : List (List UInt8)) (m : Nat) (h : ls.all lineOk = true) (hm : m < (joinL ls ++ [13, 10]).length) : linesS ((joinL ls ++ [13, 10]).take m) = ([], 0, false) :=
  linesK_cut ls m _ [] h hm (by rw [List.length_take]; omega)
/-- a field that may be printed, and read -/
def goodP (p : S43) : Prop := tokL p.f0.data.toList = true ∧ p.f1.data.toList.all pthB = true ∧ p.f0.data.toList.length + 2 + p.f1.data.toList.length ≤ 2000
def flP (p : S43) : List UInt8 := p.f0.data.toList ++ 58 :: 32 :: p.f1.data.toList
theorem goodP_field {p : S43} (h : goodP p) : fieldS (mkB (flP p)) = (p.f0, p.f1, 0) := by
  have := field_vis p.f0.data.toList p.f1.data.toList h.1 h.2.1 h.2.2
  rw [mkB_self, mkB_self] at this
  exact this
theorem vis_valL {E : List UInt8} (hE : E.all pthB = true) : valL E = true :=
  valL_of (all_imp hE (fun c h => (vis_val c h).1)) (fun a ha => (vis_val a (List.all_eq_true.1 hE a (List.mem_of_mem_head? ha))).2.1) (fun a ha => (vis_val a (List.all_eq_true.1 hE a (List.mem_of_mem_getLast? ha))).2.1)
theorem goodP_print {p : S43} (h : goodP p) : printS p.f0 p.f1 = (mkB (flP p), 0) := by
  rw [printS_yes _ _ h.1 (vis_valL h.2.1) (by have := h.2.2; rw [len_data, len_data] at this; omega)]
  exact congrArg (fun x => (x, (0 : Int))) (ba_ext (by simp [mkB, flP]))
theorem goodP_line {p : S43} (h : goodP p) : lineOk (flP p) = true := by
  unfold lineOk plainL flP
  rw [Bool.and_eq_true]
  have h5 : p.f1.data.toList.all (fun c => c != 13) = true := all_imp h.2.1 (fun c hc => (vis_val c hc).2.2)
  have ht : (p.f0.data.toList.all tokB) = true := by have := h.1; unfold tokL at this; rw [Bool.and_eq_true] at this; exact this.1
  have h6 : p.f0.data.toList.all (fun c => c != 13) = true := all_imp ht (fun c hc => by
    have := u8_all (fun c => !tokB c || (c != 13)) (by decide +kernel) c
    rw [hc] at this; simpa using this)
  refine ⟨?_, ?_⟩
  · rw [List.all_append, List.all_cons, List.all_cons, h5, h6]; rfl
  · cases p.f0.data.toList <;> rfl
theorem good_txt {fs : List S43} (h : ∀ p ∈ fs, goodP p) : fsTxt fs = joinL (fs.map flP) := by
  induction fs with
  | nil => rfl
  | cons p l ih =>
    have e : fsTxt (p :: l) = (printS p.f0 p.f1).1.data.toList ++ [13, 10] ++ fsTxt l := by unfold fsTxt; rw [List.flatMap_cons]
    rw [e, ih (fun q hq => h q (List.mem_cons_of_mem _ hq)), goodP_print (h p List.mem_cons_self), List.map_cons]
    unfold joinL; rw [List.flatMap_cons]; rfl
theorem good_err {fs : List S43} (h : ∀ p ∈ fs, goodP p) : fsErr fs = 0 := by
  induction fs with
  | nil => rfl
  | cons p l ih => unfold fsErr; rw [goodP_print (h p List.mem_cons_self), if_pos rfl]; exact ih (fun q hq => h q (List.mem_cons_of_mem _ hq))
def hdR (st : Int) : List UInt8 := [72, 84, 84, 80, 47, 49, 46, 49, 32] ++ Lib.itoa st ++ [32] ++ (reasonS st).data.toList
def clR (n : Nat) : List UInt8 := [67, 111, 110, 116, 101, 110, 116, 45, 76, 101, 110, 103, 116, 104, 58, 32] ++ Lib.itoa n
def stsL : List Int := [200, 303, 400, 401, 403, 404, 405, 409, 413, 429, 431, 503]
theorem sts_all : (stsL.all fun st => lineOk (hdR st) && (decide (12 ≤ (mkB (hdR st)).size) && (decide (reasonS st ≠ ⟨#[]⟩) && decide ((decS ((mkB (hdR st)).extract 9 12) 999).1 = st)))) = true := by decide +kernel
theorem sts_one {st : Int} (h : st ∈ stsL) : lineOk (hdR st) = true ∧ 12 ≤ (mkB (hdR st)).size ∧ reasonS st ≠ ⟨#[]⟩ ∧ (decS ((mkB (hdR st)).extract 9 12) 999).1 = st := by
  have h1 := List.all_eq_true.1 sts_all st h
  simp only [Bool.and_eq_true, decide_eq_true_eq] at h1
  exact ⟨h1.1, h1.2.1, h1.2.2.1, h1.2.2.2⟩
set_option maxRecDepth 100000 in
theorem clR_all : ((List.range 400).all fun n => lineOk (clR n) && decide ((decS (mkB (Lib.itoa n)) 4000).1 = n)) = true := by decide +kernel
theorem clR_one {n : Nat} (h : n < 400) : lineOk (clR n) = true ∧ (decS (mkB (Lib.itoa n)) 4000).1 = n := by
  have h1 := List.all_eq_true.1 clR_all n (List.mem_range.2 h)
  simp only [Bool.and_eq_true, decide_eq_true_eq] at h1
  exact h1
def rLs (st : Int) (fs : List S43) (n : Nat) : List (List UInt8) := hdR st :: (fs.map flP ++ [clR n])
theorem rLs_ok {st : Int} {fs : List S43} {n : Nat} (hst : st ∈ stsL) (hf : ∀ p ∈ fs, goodP p) (hn : n < 400) : (rLs st fs n).all lineOk = true := by
  unfold rLs
  rw [List.all_cons, List.all_append, (sts_one hst).1, List.all_cons, (clR_one hn).1, Bool.true_and, List.all_nil, Bool.and_true, Bool.and_true, List.all_eq_true]
  intro x hx
  obtain ⟨p, hp, rfl⟩ := List.mem_map.1 hx
  exact goodP_line (hf p hp)
theorem rTxt {st : Int} {fs : List S43} (n : Nat) (hf : ∀ p ∈ fs, goodP p) : hdT st ++ fsTxt fs ++ lenT n = joinL (rLs st fs n) ++ [13, 10] := by
  have e1 : hdT st = joinL [hdR st] := by simp [hdT, hdR, joinL]
  have e2 : lenT n = joinL [clR n] ++ [13, 10] := by simp [lenT, clR, joinL]
  rw [e1, e2, good_txt hf]
  unfold rLs
  rw [show hdR st :: (fs.map flP ++ [clR n]) = [hdR st] ++ (fs.map flP ++ [clR n]) from rfl, joinL_app, joinL_app]
  simp [List.append_assoc]
theorem prS_good {st : Int} {fs : List S43} (bs : List UInt8) (hst : st ∈ stsL) (hf : ∀ p ∈ fs, goodP p) (hl : fs.length ≤ 40) (hb : bs.length ≤ 4000) : prS st fs (numsL bs) = (numsL (joinL (rLs st fs bs.length) ++ [13, 10] ++ bs), 0) := by
  unfold prS
  rw [if_neg (sts_one hst).2.2.1, if_neg (by rw [numsL_len]; omega), if_neg (by rw [good_err hf]; simp), numsL_len, rTxt _ hf]
  unfold numsL; simp only [List.map_append]
theorem mid_good (st : Int) (fs : List S43) (n : Nat) : midL ((rLs st fs n).map mkB) = (fs.map flP).map mkB := by
  unfold midL rLs
  rw [List.length_map, List.length_cons, List.length_append, List.length_map, List.length_singleton, show fs.length + 1 + 1 - 1 = fs.length + 1 by omega, List.map_cons, List.map_append, List.take_succ_cons, List.take_left' (by rw [List.length_map, List.length_map])]
  rfl
theorem flds_good {fs : List S43} (hf : ∀ p ∈ fs, goodP p) : fldsE ((fs.map flP).map mkB) = 0 ∧ ((fs.map flP).map mkB).map fldS = fs := by
  refine ⟨fldsE_ok (fun x hx => ?_), ?_⟩
  · obtain ⟨y, hy, rfl⟩ := List.mem_map.1 hx
    obtain ⟨p, hp, rfl⟩ := List.mem_map.1 hy
    rw [goodP_field (hf p hp)]
  · rw [List.map_map, List.map_map]
    refine (List.map_congr_left (fun p hp => ?_)).trans (List.map_id _)
    show fldS (mkB (flP p)) = p
    unfold fldS; rw [goodP_field (hf p hp)]
/-- what is parsed of a head that tells n bytes, with d bytes behind it -/
theorem parse_T {st : Int} {fs : List S43} {n : Nat} (bs : List UInt8) (hst : st ∈ stsL) (hf : ∀ p ∈ fs, goodP p) (hl : fs.length ≤ 40) (hn : n < 400) (hb : bs.length < 400) :
    parseR (numsL (joinL (rLs st fs n) ++ [13, 10] ++ bs)) = if bs.length = n then (st, fs, numsL bs, 0) else noRsp := by
  have hok := rLs_ok hst hf hn
  have hs := sts_one hst
  have hfl := flds_good hf
  have e0 : joinL (rLs st fs n) ++ [13, 10] ++ bs = joinL (rLs st fs n) ++ 13 :: 10 :: bs := by simp
  unfold parseR
  rw [numsL_str, mkB_list, e0, linesS_join _ _ hok, ← e0]
  simp only [if_true]
  have hd : (numsL (joinL (rLs st fs n) ++ [13, 10] ++ bs)).drop ((numsL (joinL (rLs st fs n) ++ [13, 10] ++ bs)).length - bs.length) = numsL bs := by
    rw [numsL_len, List.length_append, Nat.add_sub_cancel]
    unfold numsL
    rw [List.map_append, List.drop_left' (by rw [List.length_map])]
  rw [hd]
  have hst2 : stL ((rLs st fs n).map mkB) = st := hs.2.2.2
  have hfs2 : fsL ((rLs st fs n).map mkB) = fs := by unfold fsL; rw [mid_good, hfl.2]
  have hp := prS_good bs hst hf hl (by omega)
  unfold parseRL
  by_cases h : bs.length = n
  · have hg : goodR (numsL (joinL (rLs st fs n) ++ [13, 10] ++ bs)) ((rLs st fs n).map mkB) (numsL bs) := by
      refine ⟨by unfold rLs; simp, hs.2.1, by rw [mid_good]; exact hfl.1, ?_, ?_⟩
      · rw [hst2, hfs2, hp]
      · rw [hst2, hfs2, hp, h]; exact beq_self_eq_true _
    rw [if_pos hg, if_pos h, hst2, hfs2]
  · have hg : ¬ goodR (numsL (joinL (rLs st fs n) ++ [13, 10] ++ bs)) ((rLs st fs n).map mkB) (numsL bs) := by
      rintro ⟨_, _, _, _, hg⟩
      rw [hst2, hfs2, hp] at hg
      have hg := beq_iff_eq.1 hg
      rw [numsL_str, numsL_str, ByteArray.toList_eq, ByteArray.toList_eq, mkB_list, mkB_list] at hg
      have h1 := List.append_cancel_right hg
      have h1 := List.append_cancel_right h1
      unfold rLs at h1
      rw [show ∀ m : Nat, hdR st :: (fs.map flP ++ [clR m]) = (hdR st :: fs.map flP) ++ [clR m] from fun m => rfl, joinL_app, show ∀ m : Nat, hdR st :: (fs.map flP ++ [clR m]) = (hdR st :: fs.map flP) ++ [clR m] from fun m => rfl, joinL_app] at h1
      have h2 := List.append_cancel_left h1
      have h3 : clR n = clR bs.length := by
        have : ∀ m, joinL [clR m] = clR m ++ [13, 10] := fun m => by simp [joinL]
        rw [this, this] at h2
        exact List.append_cancel_right h2
      unfold clR at h3
      have h4 := List.append_cancel_left h3
      have h5 := (clR_one hn).2
      rw [h4, (clR_one hb).2] at h5
      exact h (by omega)
    rw [if_neg hg, if_neg h]
/-- a response that is printed is parsed as it was; cut off, or with a byte more, it is none -/
theorem back_all {st : Int} {fs : List S43} (bs : List UInt8) (hst : st ∈ stsL) (hf : ∀ p ∈ fs, goodP p) (hl : fs.length ≤ 40) (hb : bs.length < 399) :
    (prS st fs (numsL bs)).2 = 0 ∧ (prS st fs (numsL bs)).1 ≠ [] ∧ parseR (prS st fs (numsL bs)).1 = (st, fs, numsL bs, 0) ∧ (∀ x : UInt8, (parseR ((prS st fs (numsL bs)).1 ++ [(x.toNat : Int)])).2.2.2 = 10) ∧
      ∀ m, m < (prS st fs (numsL bs)).1.length → (parseR ((prS st fs (numsL bs)).1.take m)).2.2.2 = 10 := by
  rw [prS_good bs hst hf hl (by omega)]
  refine ⟨rfl, ?_, ?_, fun x => ?_, fun m hm => ?_⟩
  · intro h
    have := congrArg List.length h
    rw [numsL_len, List.length_append, List.length_append] at this
    simp only [List.length_cons, List.length_nil] at this
    omega
  · rw [parse_T bs hst hf hl (by omega) (by omega), if_pos rfl]
  · have e : numsL (joinL (rLs st fs bs.length) ++ [13, 10] ++ bs) ++ [(x.toNat : Int)] = numsL (joinL (rLs st fs bs.length) ++ [13, 10] ++ (bs ++ [x])) := by
      unfold numsL; simp
    rw [e, parse_T (bs ++ [x]) hst hf hl (by omega) (by rw [List.length_append, List.length_singleton]; omega), if_neg (by rw [List.length_append, List.length_singleton]; omega)]; rfl
  · rw [numsL_len] at hm
    have e : (numsL (joinL (rLs st fs bs.length) ++ [13, 10] ++ bs)).take m = numsL ((joinL (rLs st fs bs.length) ++ [13, 10] ++ bs).take m) := by unfold numsL; rw [List.map_take]
    rw [e]
    by_cases hc : m < (joinL (rLs st fs bs.length) ++ [13, 10]).length
    · rw [List.take_append_of_le_length (by omega)]
      unfold parseR
      rw [numsL_str, mkB_list, linesS_cut _ m (rLs_ok hst hf (by omega)) hc]
      rfl
    · rw [List.take_append, List.take_of_length_le (by omega)]
      rw [List.length_append] at hm
      rw [parse_T _ hst hf hl (by omega) (by rw [List.length_take]; omega), if_neg (by rw [List.length_take]; omega)]; rfl
end Go.Proofs.YtpfbemcoblganaaDoor.Pl

/-
  HttpMost: what requests with many fields are parsed as.
-/
import Derived.Test.YtpfbemcoblganaaDoorQmPl09s
namespace Go.Proofs.YtpfbemcoblganaaDoor.Pl
open Go.RowKit Go.Proofs.YtpfbemcoblganaaDoor.Pall Go.Proofs.YtpfbemcoblganaaDoorW.PrintWords
set_option linter.unusedVariables false
set_option linter.unusedSimpArgs false
def getL : List UInt8 := [71, 69, 84, 32, 47, 32, 72, 84, 84, 80, 47, 49, 46, 49]
def hostA : List UInt8 := [72, 111, 115, 116, 58, 32, 97]
def xOne : List UInt8 := [88, 58, 32, 49]
theorem get_fst : fstE (mkB getL) = 0 := by decide +kernel
theorem many_ok (m : Nat) : (getL :: hostA :: List.replicate m xOne).all lineOk = true := by
  have h1 : lineOk getL = true := by decide
  have h2 : lineOk hostA = true := by decide
  have h3 : lineOk xOne = true := by decide
  rw [List.all_cons, List.all_cons, h1, h2, Bool.true_and, Bool.true_and, List.all_eq_true]
  intro x hx
  rw [(List.mem_replicate.1 hx).2]; exact h3
theorem many_flds (m : Nat) : fldsE ((hostA :: List.replicate m xOne).map mkB) = 0 := by
  refine fldsE_ok (fun x hx => ?_)
  rw [List.map_cons, List.map_replicate] at hx
  rcases List.mem_cons.1 hx with rfl | hx
  · decide +kernel
  · rw [(List.mem_replicate.1 hx).2]; decide +kernel
theorem many_body (m : Nat) : bodyE (((hostA :: List.replicate m xOne).map mkB).map fldS) 0 = 0 := by
  have hx : (fldS (mkB xOne)).f0 = mkB [88] := by decide +kernel
  have key : ∀ n : ByteArray, sameS (mkB [88]) n = false → allS (((hostA :: List.replicate m xOne).map mkB).map fldS) n = allS [fldS (mkB hostA)] n := by
    intro n hn
    rw [List.map_cons, List.map_replicate, List.map_cons, List.map_replicate]
    rw [show fldS (mkB hostA) :: List.replicate m (fldS (mkB xOne)) = [fldS (mkB hostA)] ++ List.replicate m (fldS (mkB xOne)) from rfl, allS_app, allS_rep _ _ _ (by rw [hx]; exact hn), List.append_nil]
  rw [bodyE_same _ [fldS (mkB hostA)] 0 (key hostB (by decide +kernel)) (key teB (by decide +kernel)) (key clB (by decide +kernel))]
  decide +kernel
/-- forty fields may be, and no more -/
theorem many_parse (m : Nat) : (parseQ (numsL (joinL (getL :: hostA :: List.replicate m xOne) ++ [13, 10]))).2.2.2.2 = if m + 1 ≤ 40 then 0 else 3 := by
  rw [parse_req getL (hostA :: List.replicate m xOne) [] (many_ok m)]
  have hlen : ((hostA :: List.replicate m xOne).map mkB).length = m + 1 := by rw [List.length_map, List.length_cons, List.length_replicate]
  unfold parseL
  by_cases h : m + 1 ≤ 40
  · simp only [get_fst, many_flds m, numsL, List.map_nil, List.length_nil, many_body m, if_neg (show ¬ 40 < ((hostA :: List.replicate m xOne).map mkB).length by omega), ne_eq, not_true_eq_false, if_false]
    rw [if_pos h]
  · simp only [get_fst, if_pos (show 40 < ((hostA :: List.replicate m xOne).map mkB).length by omega), ne_eq, not_true_eq_false, if_false]
    rw [if_neg h]; rfl
theorem splitC_one (c : UInt8) : ∀ a : List UInt8, (∀ x ∈ a, x ≠ c) → splitC c a = [a]
  | [], _ => rfl
  | b :: a, h => by
    rw [splitC, if_neg (h b (List.mem_cons_self ..)), splitC_one c a (fun x hx => h x (List.mem_cons_of_mem _ hx))]
theorem splitC_cut (c : UInt8) (r : List UInt8) : ∀ a : List UInt8, (∀ x ∈ a, x ≠ c) → splitC c (a ++ c :: r) = a :: splitC c r
  | [], _ => by rw [List.nil_append, splitC, if_pos rfl]
  | b :: a, h => by
    rw [List.cons_append, splitC, if_neg (h b (List.mem_cons_self ..)), splitC_cut c r a (fun x hx => h x (List.mem_cons_of_mem _ hx))]
def firL (n : Nat) : List UInt8 := [71, 69, 84] ++ 32 :: ((47 :: List.replicate n 97) ++ 32 :: [72, 84, 84, 80, 47, 49, 46, 49])
theorem firL_len (n : Nat) : (firL n).length = n + 14 := by
  unfold firL
  simp only [List.length_append, List.length_cons, List.length_nil, List.length_replicate]
  omega
theorem fir_words (n : Nat) : wordsL (mkB (firL n)) = [mkB [71, 69, 84], mkB (47 :: List.replicate n 97), mkB [72, 84, 84, 80, 47, 49, 46, 49]] := by
  rw [wordsL_mk, mkB_list]
  unfold firL
  rw [splitC_cut 32 _ [71, 69, 84] (by decide), splitC_cut 32 _ (47 :: List.replicate n 97) ?_, splitC_one 32 [72, 84, 84, 80, 47, 49, 46, 49] (by decide)]
  · rfl
  · intro x hx
    rcases List.mem_cons.1 hx with rfl | hx
    · decide
    · rw [(List.mem_replicate.1 hx).2]; decide
theorem fir_fst (n : Nat) : fstE (mkB (firL n)) = if n + 14 ≤ 2000 then 0 else 3 := by
  unfold fstE
  rw [mkB_size, firL_len]
  by_cases h : n + 14 ≤ 2000
  · have hp : pathL (47 :: List.replicate n 97) = true := by
      unfold pathL
      rw [Bool.and_eq_true]
      refine ⟨by simp [Lib.hasPrefix], ?_⟩
      rw [List.all_cons, List.all_eq_true.2 (fun x hx => by rw [(List.mem_replicate.1 hx).2]; decide)]; rfl
    have hw : okW (wordsL (mkB (firL n))) = true := by
      rw [fir_words]
      show (tokL [71, 69, 84] && (pathL (47 :: List.replicate n 97) && ((mkB [72, 84, 84, 80, 47, 49, 46, 49]).toList == [72, 84, 84, 80, 47, 49, 46, 49]))) = true
      rw [hp, ByteArray.toList_eq, mkB_list]; decide +kernel
    rw [if_neg (by omega), if_pos hw, if_pos h]
  · rw [if_pos (by omega), if_neg h]
theorem long_ok (n : Nat) : [firL n, hostA].all lineOk = true := by
  have h2 : lineOk hostA = true := by decide
  have h1 : lineOk (firL n) = true := by
    unfold lineOk plainL firL
    rw [Bool.and_eq_true]
    refine ⟨?_, rfl⟩
    rw [List.all_eq_true]
    intro x hx
    simp only [List.mem_append, List.mem_cons, List.mem_replicate, List.not_mem_nil, or_false] at hx
    rcases hx with (rfl | rfl | rfl) | rfl | (rfl | ⟨_, rfl⟩) | rfl | rfl | rfl | rfl | rfl | rfl | rfl | rfl | rfl <;> decide
  rw [List.all_cons, List.all_cons, h1, h2]; rfl
/-- a first line of more than 2000 bytes is too long -/
theorem long_parse (n : Nat) : (parseQ (numsL (joinL [firL n, hostA] ++ [13, 10]))).2.2.2.2 = if n + 14 ≤ 2000 then 0 else 3 := by
  rw [parse_req (firL n) [hostA] [] (long_ok n)]
  have hf := fir_fst n
  have h1 : fldsE ([hostA].map mkB) = 0 := by decide +kernel
  have h2 : bodyE (([hostA].map mkB).map fldS) 0 = 0 := by decide +kernel
  unfold parseL
  by_cases h : n + 14 ≤ 2000
  · rw [if_pos h] at hf ⊢
    simp only [hf, h1, numsL, List.map_nil, List.length_nil, h2, if_neg (show ¬ 40 < ([hostA].map mkB).length by decide), ne_eq, not_true_eq_false, if_false]
  · rw [if_neg h] at hf ⊢
    simp only [hf, ne_eq, show ¬ (3 : Int) = 0 by decide, not_false_eq_true, if_true]; rfl
def dgt (n : Nat) : UInt8 := UInt8.ofNat (48 + n % 10)
/-- a number's digits, up to four -/
def dgL (n : Nat) : List UInt8 := if n < 10 then [dgt n] else if n < 100 then [dgt (n / 10), dgt n] else if n < 1000 then [dgt (n / 100), dgt (n / 10), dgt n] else [dgt (n / 1000), dgt (n / 100), dgt (n / 10), dgt n]
set_option maxRecDepth 100000 in
theorem dgL_all : ((List.range 5000).all fun n => (decS (mkB (dgL n)) 4000 == (if n ≤ 4000 then ((n : Int), true) else (0, false))) && ((dgL n).all pthB && decide ((dgL n).length ≤ 4))) = true := by decide +kernel
theorem dgL_dec (n : Nat) (h : n < 5000) : decS (mkB (dgL n)) 4000 = (if n ≤ 4000 then ((n : Int), true) else (0, false)) ∧ (dgL n).all pthB = true ∧ (dgL n).length ≤ 4 := by
  have h1 := List.all_eq_true.1 dgL_all n (List.mem_range.2 h)
  rw [Bool.and_eq_true, Bool.and_eq_true] at h1
  exact ⟨beq_iff_eq.1 h1.1, h1.2.1, of_decide_eq_true h1.2.2⟩
def clN : List UInt8 := [67, 111, 110, 116, 101, 110, 116, 45, 76, 101, 110, 103, 116, 104]
def clL (n : Nat) : List UInt8 := clN ++ 58 :: 32 :: dgL n
theorem cl_field (n : Nat) (h : n < 5000) : fieldS (mkB (clL n)) = (mkB clN, mkB (dgL n), 0) := by
  obtain ⟨_, h2, h3⟩ := dgL_dec n h
  exact field_vis clN (dgL n) (by decide +kernel) h2 (by show 14 + 2 + _ ≤ _; omega)
theorem size_ok (n : Nat) (h : n < 5000) : [getL, hostA, clL n].all lineOk = true := by
  obtain ⟨_, h2, h3⟩ := dgL_dec n h
  have h4 : lineOk (clL n) = true := by
    unfold lineOk plainL clL
    rw [Bool.and_eq_true]
    refine ⟨?_, rfl⟩
    have h5 : (dgL n).all (fun c => c != 13) = true := by
      rw [List.all_eq_true] at h2 ⊢
      exact fun x hx => (vis_val x (h2 x hx)).2.2
    have h6 : (58 :: 32 :: dgL n : List UInt8).all (fun c => c != 13) = true := by rw [List.all_cons, List.all_cons, h5]; rfl
    have h7 : clN.all (fun c => c != 13) = true := by decide
    rw [List.all_append]
    exact Bool.and_eq_true_iff.2 ⟨h7, h6⟩
  have h1 : lineOk getL = true := by decide
  have h0 : lineOk hostA = true := by decide
  rw [List.all_cons, List.all_cons, List.all_cons, h1, h0, h4]; rfl
/-- a body has at most 4000 bytes -/
theorem size_parse (n : Nat) (h : n < 5000) (bs : List UInt8) (hb : bs.length = n) : (parseQ (numsL (joinL [getL, hostA, clL n] ++ 13 :: 10 :: bs))).2.2.2.2 = if n ≤ 4000 then 0 else 13 := by
  rw [parse_req getL [hostA, clL n] bs (size_ok n h)]
  obtain ⟨hd, _, _⟩ := dgL_dec n h
  have hf := cl_field n h
  have hcl : fldS (mkB (clL n)) = ⟨mkB clN, mkB (dgL n)⟩ := by unfold fldS; rw [hf]
  have h1 : fldsE ([hostA, clL n].map mkB) = 0 := by
    refine fldsE_ok (fun x hx => ?_)
    rcases List.mem_cons.1 hx with rfl | hx
    · decide +kernel
    · rcases List.mem_cons.1 hx with rfl | hx
      · rw [hf]
      · cases hx
  have hho : fieldS (mkB hostA) = (mkB [72, 111, 115, 116], mkB [97], 0) := by decide +kernel
  have hhf : fldS (mkB hostA) = ⟨mkB [72, 111, 115, 116], mkB [97]⟩ := by unfold fldS; rw [hho]
  have hm : ([hostA, clL n].map mkB).map fldS = [⟨mkB [72, 111, 115, 116], mkB [97]⟩, ⟨mkB clN, mkB (dgL n)⟩] := by
    show fldS (mkB hostA) :: fldS (mkB (clL n)) :: [] = _
    rw [hcl, hhf]
  have s1 : ¬ sameS (mkB clN) hostB = true := by decide +kernel
  have s2 : ¬ sameS (mkB clN) teB = true := by decide +kernel
  have s3 : sameS (mkB clN) clB = true := by decide +kernel
  have z1 : sameS (mkB [72, 111, 115, 116]) hostB = true := by decide +kernel
  have z2 : ¬ sameS (mkB [72, 111, 115, 116]) teB = true := by decide +kernel
  have z3 : ¬ sameS (mkB [72, 111, 115, 116]) clB = true := by decide +kernel
  have ah : allS [⟨mkB [72, 111, 115, 116], mkB [97]⟩, ⟨mkB clN, mkB (dgL n)⟩] hostB = [mkB [97]] := by rw [allS_yes z1, allS_no s1]; rfl
  have at_ : allS [⟨mkB [72, 111, 115, 116], mkB [97]⟩, ⟨mkB clN, mkB (dgL n)⟩] teB = [] := by rw [allS_no z2, allS_no s2]; rfl
  have ac : allS [⟨mkB [72, 111, 115, 116], mkB [97]⟩, ⟨mkB clN, mkB (dgL n)⟩] clB = [mkB (dgL n)] := by rw [allS_no z3, allS_yes s3]; rfl
  have h2 : bodyE (([hostA, clL n].map mkB).map fldS) n = if n ≤ 4000 then 0 else 13 := by
    rw [hm]
    unfold bodyE
    rw [ah, at_, ac, if_pos ⟨rfl, rfl, Nat.le_refl _⟩]
    show (if (decS (mkB (dgL n)) 4000).2 = true ∧ (decS (mkB (dgL n)) 4000).1 = (n : Int) then (0 : Int) else 13) = _
    rw [hd]
    by_cases h4 : n ≤ 4000
    · rw [if_pos h4, if_pos ⟨rfl, rfl⟩, if_pos h4]
    · rw [if_neg h4, if_neg (fun hh => by simp at hh), if_neg h4]
  unfold parseL
  by_cases h4 : n ≤ 4000
  · rw [if_pos h4] at h2 ⊢
    simp only [get_fst, h1, numsL_len, hb, h2, if_neg (show ¬ 40 < ([hostA, clL n].map mkB).length by simp), ne_eq, not_true_eq_false, if_false]
  · rw [if_neg h4] at h2 ⊢
    simp only [get_fst, h1, numsL_len, hb, h2, if_neg (show ¬ 40 < ([hostA, clL n].map mkB).length by simp), ne_eq, not_true_eq_false, if_false, show ¬ (13 : Int) = 0 by decide, not_false_eq_true, if_true]; rfl
end Go.Proofs.YtpfbemcoblganaaDoor.Pl

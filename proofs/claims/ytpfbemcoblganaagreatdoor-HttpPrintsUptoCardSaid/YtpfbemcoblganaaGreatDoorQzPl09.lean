/-
  The document's answer of layer 9: its Parse comes to what http.Parse comes to.
-/
import Derived.Test.YtpfbemcoblganaaGreatDoorQzHp
import Derived.Test.YtpfbemcoblganaaGreatDoorQzPall4
import Derived.Test.YtpfbemcoblganaaGreatDoorQzPall5
import Derived.Test.YtpfbemcoblganaaGreatDoorQzPall6
import Derived.Test.YtpfbemcoblganaaGreatDoorQzPall7
import Derived.Test.YtpfbemcoblganaaGreatDoorQzPall8
import Derived.Test.YtpfbemcoblganaaGreatDoorQzPall9
namespace Go.Proofs.YtpfbemcoblganaaGreatDoor.Pl
open Go.RowKit Go.Proofs.YtpfbemcoblganaaGreatDoor.Pall Go.Proofs.YtpfbemcoblganaaGreatDoorW.PrintWords Go.Proofs.YtpfbemcoblganaaGreatDoorW.PrintLast
set_option linter.unusedVariables false
set_option linter.unusedSimpArgs false
theorem refAll_loop (l : List Pr) (n : ByteArray) (hl : l.length < 8796093022208) (hs : ∀ p ∈ l, p.f0.size ≤ 140737488351232) : ∀ d i (out : List ByteArray), l.length - i = d → i ≤ l.length → out.length ≤ i →
    Ev (fun k => wicketmanref08_All.l0 k l n out (i : Nat)) (out ++ allS (l.drop i) n) := by
  intro d
  induction d with
  | zero =>
    intro i out hd hi ho
    obtain rfl : i = l.length := by omega
    refine Ev.step (f := fun _ => some out) (fun k => ?_) ?_
    · simp only [wicketmanref08_All.l0]; rw [if_neg (by omega)]
    · rw [List.drop_length]; simp only [allS, List.filter_nil, List.map_nil, List.append_nil]; exact Ev.now _
  | succ d ih =>
    intro i out hd hi ho
    have hlt : i < l.length := by omega
    have hm := hs _ (getD_mem l z34 hlt)
    rw [drop_get l z34 hlt]
    refine Ev.step (f := fun k => (wicketmanref08_Same.f k (l.getD i z34).f0 n).bind fun t => if t = true then wicketmanref08_All.l0 k l n (out ++ [(l.getD i z34).f1]) ((i + 1 : Nat) : Int) else wicketmanref08_All.l0 k l n out ((i + 1 : Nat) : Int)) (fun k => ?_) ?_
    · simp only [wicketmanref08_All.l0]
      rw [if_pos (by omega), if_pos (by omega), rdP, wrap_id (by omega) (by omega)]
      simp only [if_pos (show out.length < 8796093022208 by omega)]
      rfl
    · refine Ev.bind (refSame _ n (by omega)) ?_
      by_cases h : sameS (l.getD i z34).f0 n = true
      · simp only [if_pos h]
        have := ih (i + 1) (out ++ [(l.getD i z34).f1]) (by omega) (by omega) (by rw [List.length_append]; simp; omega)
        have e : out ++ allS (l.getD i z34 :: l.drop (i + 1)) n = out ++ [(l.getD i z34).f1] ++ allS (l.drop (i + 1)) n := by
          rw [allS_yes h]; simp
        rw [e]; exact this
      · simp only [if_neg h]
        have := ih (i + 1) out (by omega) (by omega) (by omega)
        have e : allS (l.getD i z34 :: l.drop (i + 1)) n = allS (l.drop (i + 1)) n := allS_no h
        rw [e]; exact this
theorem refAll_ev (l : List Pr) (n : ByteArray) (hl : l.length < 8796093022208) (hs : ∀ p ∈ l, p.f0.size ≤ 140737488351232) : Ev (fun k => wicketmanref08_All.f k l n) (allS l n) := by
  have h := refAll_loop l n hl hs _ 0 [] rfl (by omega) (by simp)
  rw [List.nil_append, List.drop_zero] at h; exact h
theorem rdB (l : List ByteArray) (i : Nat) : rdOf ByteArray.empty l (i : Int) = l.getD i ByteArray.empty := by unfold rdOf; rw [Int.toNat_natCast]
theorem decV_cons (a : UInt8) (l : List UInt8) (z : Int) : (a :: l).foldl (fun n c => 10 * n + ((c.toNat : Int) - 48)) z = l.foldl (fun n c => 10 * n + ((c.toNat : Int) - 48)) (10 * z + ((a.toNat : Int) - 48)) := rfl
theorem refDec_loop (s : ByteArray) (most : Int) (hs : s.size ≤ 9) : ∀ d i (n : Int), s.size - i = d → i ≤ s.size → 0 ≤ n → n < 10 ^ i →
    Ev (fun k => wicketmanref01_Decimal.l0 k s most n (i : Nat)) (if (s.data.toList.drop i).all digB = true then (if (s.data.toList.drop i).foldl (fun n c => 10 * n + ((c.toNat : Int) - 48)) n > most then (0, false) else ((s.data.toList.drop i).foldl (fun n c => 10 * n + ((c.toNat : Int) - 48)) n, true)) else (0, false)) := by
  intro d
  induction d with
  | zero =>
    intro i n hd hi h0 h1
    obtain rfl : i = s.size := by omega
    rw [List.drop_of_length_le (by rw [len_data]; exact Nat.le_refl _)]
    refine Ev.step (f := fun _ => if n > most then some (0, false) else some (n, true)) (fun k => ?_) ?_
    · simp only [wicketmanref01_Decimal.l0]; rw [if_neg (by omega)]
    · rw [if_pos (show (([] : List UInt8).all digB) = true from rfl)]
      show Ev (fun _ => if n > most then some ((0 : Int), false) else some (n, true)) (if n > most then ((0 : Int), false) else (n, true))
      by_cases h : n > most
      · simp only [if_pos h]; exact Ev.now _
      · simp only [if_neg h]; exact Ev.now _
  | succ d ih =>
    intro i n hd hi h0 h1
    have hlt : i < s.size := by omega
    have hdrop : s.data.toList.drop i = s.data.toList.getD i 0 :: s.data.toList.drop (i + 1) := by
      rw [List.drop_eq_getElem_cons (by rw [len_data]; exact hlt), List.getD, List.getElem?_eq_getElem (by rw [len_data]; exact hlt)]; rfl
    have hp : (10 : Int) ^ i ≤ 10 ^ 8 := by
      have : (10 : Nat) ^ i ≤ 10 ^ 8 := Nat.pow_le_pow_right (by omega) (by omega)
      exact_mod_cast this
    have hc := (s.data.toList.getD i 0).toNat_lt
    by_cases ha : ((s.data.toList.getD i 0).toNat : Int) < 48
    · have : digB (s.data.toList.getD i 0) = false := by unfold digB; rw [decide_eq_false (by omega)]; rfl
      rw [hdrop, List.all_cons, this]
      refine Ev.step (f := fun _ => some (0, false)) (fun k => ?_) (Ev.now _)
      simp only [wicketmanref01_Decimal.l0]; rw [if_pos (by omega), if_pos (by omega), bt_nat s i hlt, if_pos ha]
    by_cases hb : ((s.data.toList.getD i 0).toNat : Int) > 57
    · have : digB (s.data.toList.getD i 0) = false := by unfold digB; rw [decide_eq_false (p := _ ≤ 57) (by omega), Bool.and_false]
      rw [hdrop, List.all_cons, this]
      refine Ev.step (f := fun _ => some (0, false)) (fun k => ?_) (Ev.now _)
      simp only [wicketmanref01_Decimal.l0]; rw [if_pos (by omega), if_pos (by omega), bt_nat s i hlt, if_neg ha, if_pos hb]
    have : digB (s.data.toList.getD i 0) = true := by unfold digB; rw [decide_eq_true (by omega), decide_eq_true (by omega)]; rfl
    rw [hdrop, List.all_cons, this, Bool.true_and, decV_cons]
    have h := ih (i + 1) (10 * n + (((s.data.toList.getD i 0).toNat : Int) - 48)) (by omega) (by omega) (by omega) (by rw [Int.pow_succ]; omega)
    refine Ev.step (fun k => ?_) h
    simp only [wicketmanref01_Decimal.l0]
    rw [if_pos (by omega), if_pos (by omega), bt_nat s i hlt, if_neg ha, if_neg hb, wrap_id (n := 10 * n) (by omega) (by omega), show (((s.data.toList.getD i 0).toNat : Int) - 48) % 256 = ((s.data.toList.getD i 0).toNat : Int) - 48 by omega, wrap_id (by omega) (by omega), wrap_id (by omega) (by omega)]
    rfl
theorem refDec (s : ByteArray) (most : Int) : Ev (fun k => wicketmanref01_Decimal.f k s most) (decS s most) := by
  unfold decS
  by_cases h0 : s.size = 0 ∨ 9 < s.size
  · rw [if_pos h0]
    refine Ev.congr (f := fun k => wicketmanref01_Decimal.j0 k s most true) (fun k => ?_) (Ev.step (f := fun _ => some (0, false)) (fun k => ?_) (Ev.now _))
    · unfold wicketmanref01_Decimal.f
      rcases h0 with h0 | h0
      · rw [if_pos (by omega)]
      · rw [if_neg (by omega), decide_eq_true (by omega)]
    · simp only [wicketmanref01_Decimal.j0]; rw [if_pos trivial]
  · rw [if_neg h0]
    refine Ev.congr (f := fun k => wicketmanref01_Decimal.j0 k s most false) (fun k => ?_) (Ev.step (f := fun k => wicketmanref01_Decimal.l0 k s most 0 ((0 : Nat) : Int)) (fun k => ?_) ?_)
    · unfold wicketmanref01_Decimal.f
      rw [if_neg (by omega), decide_eq_false (by omega)]
    · simp only [wicketmanref01_Decimal.j0]; rw [if_neg (by decide)]; rfl
    · have h := refDec_loop s most (by omega) _ 0 0 rfl (by omega) (by omega) (by simp)
      rw [List.drop_zero] at h
      exact h
theorem pairs_same (l : List S34) (hl : l.length ≤ 9223372036854775806) : ∀ d i, l.length - i = d → i ≤ l.length → Ev (fun k => wicketmanref07_Same.l0 k l l (i : Nat)) true := by
  intro d
  induction d with
  | zero =>
    intro i hd hi
    refine Ev.step (f := fun _ => some true) (fun k => ?_) (Ev.now _)
    simp only [wicketmanref07_Same.l0]; rw [if_neg (by omega)]
  | succ d ih =>
    intro i hd hi
    refine Ev.step (fun k => ?_) (ih (i + 1) (by omega) (by omega))
    simp only [wicketmanref07_Same.l0]
    rw [if_pos (by omega), if_pos (by omega), if_pos (by omega), if_neg (by simp), wrap_id (by omega) (by omega)]
    rfl
theorem pairs_same_true (l : List S34) (hl : l.length ≤ 9223372036854775806) : Ev (fun k => wicketmanref07_Same.f k l l) true := by
  refine Ev.congr (f := fun k => wicketmanref07_Same.l0 k l l ((0 : Nat) : Int)) (fun k => ?_) (pairs_same l hl _ 0 rfl (by omega))
  unfold wicketmanref07_Same.f; rw [if_pos rfl]; rfl
def splitC (c : UInt8) : List UInt8 → List (List UInt8)
  | [] => [[]]
  | b :: l => if b = c then [] :: splitC c l else (match splitC c l with | [] => [[b]] | p :: ps => (b :: p) :: ps)
theorem splitC_pos (c : UInt8) : ∀ l, splitC c l = if pos l c = l.length then [l] else l.take (pos l c) :: splitC c (l.drop (pos l c + 1))
  | [] => rfl
  | b :: l => by
    by_cases h : b = c
    · subst h
      have hp : pos (b :: l) b = 0 := by unfold pos; simp
      rw [hp, splitC, if_pos rfl, if_neg (by simp)]; rfl
    · have hp : pos (b :: l) c = pos l c + 1 := by unfold pos; simp [List.takeWhile_cons, h]
      rw [hp, splitC, if_neg h, splitC_pos c l, List.length_cons]
      by_cases e : pos l c = l.length
      · rw [if_pos e, if_pos (by omega)]
      · rw [if_neg e, if_neg (by omega)]; rfl
theorem index_mk (l : List UInt8) : Lib.indexB (mkB l) spB = if pos l 32 = l.length then -1 else (pos l 32 : Int) := by
  have h := Lib.index_one l 32
  rw [indexByte_pos] at h
  exact h
theorem words_split : ∀ (n : Nat) (l : List UInt8), l.length ≤ n → Lib.splitB spB 0 (Lib.countB (mkB l) spB) (mkB l) = (splitC 32 l).map mkB := by
  intro n
  induction n with
  | zero =>
    intro l hl
    obtain rfl := List.eq_nil_of_length_eq_zero (Nat.le_zero.1 hl)
    rfl
  | succ n ih =>
    intro l hl
    have hx := index_mk l
    have hle := pos_le l 32
    rw [splitC_pos]
    by_cases e : pos l 32 = l.length
    · rw [if_pos e] at hx ⊢
      rw [Lib.splitB_miss _ _ _ _ hx]; rfl
    · rw [if_neg e] at hx ⊢
      have hc := Lib.countB_hit (mkB l) spB (pos l 32) (by decide) hx
      rw [hc, Nat.add_comm, Lib.splitB_hit _ _ _ _ _ hx, List.map_cons]
      have e1 : (mkB l).extract 0 (pos l 32 + 0) = mkB (l.take (pos l 32)) := by rw [ext_to]; rfl
      have e2 : (mkB l).extract (pos l 32 + spB.size) (mkB l).size = mkB (l.drop (pos l 32 + 1)) := by rw [ext_from]; rfl
      rw [e1, e2, ih _ (by rw [List.length_drop]; omega)]
theorem wordsL_mk (x : ByteArray) : wordsL x = (splitC 32 x.data.toList).map mkB := by
  have h := words_split _ x.data.toList (Nat.le_refl _)
  rw [mkB_self] at h
  exact h
theorem refSplit_loop (s : ByteArray) (hs : s.size ≤ 4000000) : ∀ d i f (out : List ByteArray), s.size - i = d → f ≤ i → i ≤ s.size → (∀ j, f ≤ j → j < i → s.data.toList.getD j 0 ≠ 32) → out.length ≤ i →
    Ev (fun k => wicketmanref07_Split.l0 k s 32 out (f : Int) (i : Int)) (out ++ (splitC 32 (s.data.toList.drop f)).map mkB) := by
  intro d
  induction d with
  | zero =>
    intro i f out hd hf hi hno ho
    obtain rfl : i = s.size := by omega
    have hp : pos (s.data.toList.drop f) 32 = (s.data.toList.drop f).length := pos_none (fun j hj => by
      rw [List.length_drop, len_data] at hj
      rw [List.getD, List.getElem?_drop]
      exact hno (f + j) (by omega) (by omega))
    rw [splitC_pos, if_pos hp]
    refine Ev.step (f := fun k => wicketmanref07_Split.l0 k s 32 (out ++ [mkB (s.data.toList.drop f)]) ((s.size + 1 : Nat) : Int) ((s.size + 1 : Nat) : Int)) (fun k => ?_) ?_
    · simp only [wicketmanref07_Split.l0]
      rw [if_pos (by omega), if_pos (by trivial), if_pos (by omega), if_pos (by omega), if_pos (by omega), wrap_id (by omega) (by omega), Int.toNat_natCast, Int.toNat_natCast, ext_from]
      rfl
    · refine Ev.step (f := fun _ => some _) (fun k => ?_) (Ev.now _)
      simp only [wicketmanref07_Split.l0]
      rw [if_neg (by omega)]
      rfl
  | succ d ih =>
    intro i f out hd hf hi hno ho
    have hlt : i < s.size := by omega
    by_cases hc : s.data.toList.getD i 0 = 32
    · have hp : pos (s.data.toList.drop f) 32 = i - f := pos_eq (by rw [List.length_drop, len_data]; omega) (by rw [List.getD, List.getElem?_drop, show f + (i - f) = i by omega]; exact hc) (fun j hj => by
        rw [List.getD, List.getElem?_drop]; exact hno (f + j) (by omega) (by omega))
      rw [splitC_pos, hp, if_neg (by rw [List.length_drop, len_data]; omega), List.drop_drop, show f + (i - f + 1) = i + 1 by omega]
      have e1 : s.extract f i = mkB ((s.data.toList.drop f).take (i - f)) := Pall.ba_ext (by rw [Lib.extract_data, mkB_list])
      have h := ih (i + 1) (i + 1) (out ++ [mkB ((s.data.toList.drop f).take (i - f))]) (by omega) (Nat.le_refl _) (by omega) (fun j h1 h2 => by omega) (by rw [List.length_append]; simp only [List.length_cons, List.length_nil]; omega)
      rw [List.append_assoc] at h
      refine Ev.step (fun k => ?_) h
      simp only [wicketmanref07_Split.l0]
      rw [if_pos (by omega), if_neg (by omega), if_pos (by omega), if_pos (by omega), bt_nat s i hlt, hc, if_pos (by rfl), if_pos (by omega), if_pos (by omega), if_pos (by omega), wrap_id (by omega) (by omega), Int.toNat_natCast, Int.toNat_natCast, e1]
      rfl
    · refine Ev.step (fun k => ?_) (ih (i + 1) f out (by omega) (by omega) (by omega) (fun j h1 h2 => by
        by_cases e : j = i
        · rw [e]; exact hc
        · exact hno j h1 (by omega)) (by omega))
      have hne : ¬ ((s.data.toList.getD i 0).toNat : Int) = 32 := fun h => hc (by
        have : (s.data.toList.getD i 0).toNat = 32 := by omega
        exact UInt8.toNat_inj.1 this)
      simp only [wicketmanref07_Split.l0]
      rw [if_pos (by omega), if_neg (by omega), if_pos (by omega), if_pos (by omega), bt_nat s i hlt, if_neg hne, wrap_id (by omega) (by omega)]
      rfl
theorem splitC_mem (c : UInt8) : ∀ l z, z ∈ splitC c l → z.length ≤ l.length
  | [], z, h => by rw [splitC, List.mem_singleton] at h; rw [h]; exact Nat.le_refl _
  | b :: l, z, h => by
    unfold splitC at h
    split at h
    · rcases List.mem_cons.1 h with rfl | h
      · exact Nat.zero_le _
      · have := splitC_mem c l z h; rw [List.length_cons]; omega
    · split at h
      · rename_i e
        rw [List.mem_singleton] at h; rw [h]; simp
      · rename_i p ps e
        rcases List.mem_cons.1 h with rfl | h
        · have := splitC_mem c l p (by rw [e]; exact List.mem_cons_self); simp; omega
        · have := splitC_mem c l z (by rw [e]; exact List.mem_cons_of_mem _ h); rw [List.length_cons]; omega
theorem refSplit (s : ByteArray) (hs : s.size ≤ 4000000) : Ev (fun k => wicketmanref07_Split.f k s 32) (wordsL s) := by
  have h := refSplit_loop s hs _ 0 0 [] rfl (by omega) (by omega) (fun j h1 h2 => by omega) (by simp)
  rw [wordsL_mk]
  exact h
theorem refPath_loop (s : ByteArray) (hs : s.size ≤ 4000000) : ∀ d i, s.size - i = d → i ≤ s.size → Ev (fun k => wicketmanref09_path.l0 k s (i : Int)) ((s.data.toList.drop i).all pthB && Lib.hasPrefix s.data.toList [47]) := by
  intro d
  induction d with
  | zero =>
    intro i hd hi
    obtain rfl : i = s.size := by omega
    refine Ev.step (f := fun _ => some _) (fun k => ?_) (Ev.now _)
    simp only [wicketmanref09_path.l0]
    rw [if_neg (by omega), List.drop_of_length_le (by rw [len_data]; exact Nat.le_refl _), List.all_nil, Bool.true_and]
    by_cases h0 : 0 < s.size
    · rw [if_pos (by omega), if_pos (by omega), bt_0 s h0]
      have e : ∃ a l, s.data.toList = a :: l := by
        cases h : s.data.toList with
        | nil => exfalso; have := congrArg List.length h; rw [len_data, List.length_nil] at this; omega
        | cons a l => exact ⟨a, l, rfl⟩
      obtain ⟨a, l, e⟩ := e
      rw [e]
      congr 1
      show (((a.toNat : Int)) == 47) = ((47 : UInt8) == a && _)
      have := u8_all (fun a => (((a.toNat : Int)) == 47) == ((47 : UInt8) == a)) (by decide +kernel) a
      rw [beq_iff_eq.1 this]
      simp [List.isPrefixOf]
    · have e : s.data.toList = [] := List.eq_nil_of_length_eq_zero (by rw [len_data]; omega)
      rw [if_neg (by omega), e]; rfl
  | succ d ih =>
    intro i hd hi
    have hlt : i < s.size := by omega
    have hdrop : s.data.toList.drop i = s.data.toList.getD i 0 :: s.data.toList.drop (i + 1) := by
      rw [List.drop_eq_getElem_cons (by rw [len_data]; exact hlt), List.getD, List.getElem?_eq_getElem (by rw [len_data]; exact hlt)]; rfl
    rw [hdrop, List.all_cons]
    by_cases h1 : ((s.data.toList.getD i 0).toNat : Int) < 33
    · have : pthB (s.data.toList.getD i 0) = false := by unfold pthB; rw [decide_eq_false (by omega)]; rfl
      rw [this]
      refine Ev.step (f := fun _ => some false) (fun k => ?_) (Ev.now _)
      simp only [wicketmanref09_path.l0]; rw [if_pos (by omega), if_pos (by omega), bt_nat s i hlt, if_pos h1]
    · by_cases h2 : ((s.data.toList.getD i 0).toNat : Int) > 126
      · have : pthB (s.data.toList.getD i 0) = false := by unfold pthB; rw [decide_eq_false (p := _ ≤ 126) (by omega), Bool.and_false]
        rw [this]
        refine Ev.step (f := fun _ => some false) (fun k => ?_) (Ev.now _)
        simp only [wicketmanref09_path.l0]; rw [if_pos (by omega), if_pos (by omega), bt_nat s i hlt, if_neg h1, if_pos h2]
      · have : pthB (s.data.toList.getD i 0) = true := by unfold pthB; rw [decide_eq_true (p := 33 ≤ _) (by omega), decide_eq_true (p := _ ≤ 126) (by omega)]; rfl
        rw [this, Bool.true_and]
        refine Ev.step (fun k => ?_) (ih (i + 1) (by omega) (by omega))
        simp only [wicketmanref09_path.l0]; rw [if_pos (by omega), if_pos (by omega), bt_nat s i hlt, if_neg h1, if_neg h2, wrap_id (by omega) (by omega)]; rfl
theorem refPath (s : ByteArray) (hs : s.size ≤ 4000000) : Ev (fun k => wicketmanref09_path.f k s) (pathL s.data.toList) := by
  have h := refPath_loop s hs _ 0 rfl (by omega)
  rw [List.drop_zero, Bool.and_comm] at h
  exact h
theorem okW_not3 (l : List ByteArray) (h : l.length ≠ 3) : okW l = false := by
  match l, h with
  | [], _ => rfl
  | [_], _ => rfl
  | [_, _], _ => rfl
  | [_, _, _], h => exact absurd rfl h
  | _ :: _ :: _ :: _ :: _, _ => rfl
def fstR (x : ByteArray) : Req := if fstE x = 0 then (fstW x, sndW x, [], [], 0) else noReq (fstE x)
theorem refFirst (x : ByteArray) : Ev (fun k => wicketmanref09_first.f k x) (fstR x) := by
  by_cases hl : 2000 < x.size
  · have he : fstE x = 3 := by unfold fstE; rw [if_pos hl]
    have hr : fstR x = noReq 3 := by unfold fstR; rw [he]; rfl
    rw [hr]
    refine Ev.congr (f := fun _ => some (noReq 3)) (fun k => ?_) (Ev.now _)
    unfold wicketmanref09_first.f
    rw [if_pos (by omega)]; rfl
  · refine Ev.congr (f := fun k => (wicketmanref07_Split.f k x 32).bind _) (fun k => by unfold wicketmanref09_first.f; rw [if_neg (by omega)]) ?_
    refine Ev.bind (refSplit x (by omega)) ?_
    by_cases h3 : (wordsL x).length = 3
    · obtain ⟨a1, a2, a3, hw⟩ : ∃ a1 a2 a3, wordsL x = [a1, a2, a3] := by
        match h : wordsL x, h3 with
        | [a1, a2, a3], _ => exact ⟨a1, a2, a3, rfl⟩
      have he : fstE x = if (tokL a1.data.toList && (pathL a2.data.toList && (a3.toList == [72, 84, 84, 80, 47, 49, 46, 49]))) = true then 0 else 11 := by unfold fstE; rw [if_neg hl, hw]; rfl
      have hf : fstW x = a1 := by unfold fstW; rw [hw]; rfl
      have hs : sndW x = a2 := by unfold sndW; rw [hw]; rfl
      have hsz : a1.size ≤ x.size ∧ a2.size ≤ x.size := by
        have hm : ∀ y ∈ wordsL x, y.size ≤ x.size := by
          intro y hy
          rw [wordsL_mk] at hy
          obtain ⟨z, hz, rfl⟩ := List.mem_map.1 hy
          rw [mkB_size]
          exact splitC_mem 32 _ z hz
        rw [hw] at hm
        exact ⟨hm a1 (by simp), hm a2 (by simp)⟩
      unfold fstR
      rw [hf, hs]
      generalize fstE x = e at *
      rw [hw]
      refine Ev.congr (f := fun k => (wicketmanref08_Token.f k a1).bind fun t189 => (if t189 = true then ((wicketmanref09_path.f k a2).bind fun t191 => (if t191 = true then (if a3.toList = ([72, 84, 84, 80, 47, 49, 46, 49] : List UInt8) then (some (a1, a2, ([] : List S34), ([] : List Int), 0)) else some (noReq 11)) else some (noReq 11))) else some (noReq 11))) (fun k => rfl) ?_
      refine Ev.bind (refToken a1 (by omega)) ?_
      cases h1 : tokL a1.data.toList with
      | false =>
        rw [h1] at he
        rw [he]
        exact Ev.now _
      | true =>
        simp only [if_true]
        refine Ev.bind (refPath a2 (by omega)) ?_
        cases h2 : pathL a2.data.toList with
        | false =>
          rw [h1, h2] at he
          rw [he]
          exact Ev.now _
        | true =>
          simp only [if_true]
          by_cases h4 : a3.toList = ([72, 84, 84, 80, 47, 49, 46, 49] : List UInt8)
          · simp only [if_pos h4]
            rw [h1, h2, h4] at he
            have he : e = 0 := by rw [he]; rfl
            rw [if_pos he]
            exact Ev.now _
          · simp only [if_neg h4]
            have h5 : (a3.toList == ([72, 84, 84, 80, 47, 49, 46, 49] : List UInt8)) = false := beq_eq_false_iff_ne.2 h4
            rw [h1, h2, h5] at he
            rw [he]
            exact Ev.now _
    · have he : fstE x = 11 := by unfold fstE; rw [if_neg hl, okW_not3 _ h3]; rfl
      have hr : fstR x = noReq 11 := by unfold fstR; rw [he]; rfl
      rw [hr]
      simp only [if_neg (show ¬ (((wordsL x).length : Int) = 3) by omega)]
      exact Ev.now _
def fldsR (l : List ByteArray) : List S34 × Int := if fldsE l = 0 then (l.map fldS, 0) else ([], fldsE l)
theorem refFields_loop (l : List ByteArray) (hl : l.length ≤ 40) : ∀ d i (out : List S34), l.length - i = d → i ≤ l.length → out.length ≤ i →
    Ev (fun k => wicketmanref09_fields.l0 k l out (i : Int)) (if fldsE (l.drop i) = 0 then (out ++ (l.drop i).map fldS, 0) else ([], fldsE (l.drop i))) := by
  intro d
  induction d with
  | zero =>
    intro i out hd hi ho
    obtain rfl : i = l.length := by omega
    rw [List.drop_length, if_pos (show fldsE [] = 0 from rfl), List.map_nil, List.append_nil]
    refine Ev.step (f := fun _ => some _) (fun k => ?_) (Ev.now _)
    simp only [wicketmanref09_fields.l0]
    rw [if_neg (by omega)]
  | succ d ih =>
    intro i out hd hi ho
    have hlt : i < l.length := by omega
    rw [drop_get l ByteArray.empty hlt, fldsE, List.map_cons]
    refine Ev.step (f := fun k => (wicketmanref08_Field.f k (l.getD i ByteArray.empty)).bind fun bt => if bt.2.2 = 0 then wicketmanref09_fields.l0 k l (out ++ [(⟨bt.1, bt.2.1⟩ : S34)]) ((i + 1 : Nat) : Int) else some (([] : List S34), bt.2.2)) (fun k => ?_) ?_
    · simp only [wicketmanref09_fields.l0]
      rw [if_pos (by omega), if_pos (by omega), rdB, wrap_id (by omega) (by omega)]
      simp only [if_pos (show out.length < 4398046511104 by omega)]
      rfl
    · refine Ev.bind (refField _) ?_
      by_cases h : (fieldS (l.getD i ByteArray.empty)).2.2 = 0
      · simp only [if_pos h]
        have h2 := ih (i + 1) (out ++ [fldS (l.getD i ByteArray.empty)]) (by omega) (by omega) (by rw [List.length_append]; simp only [List.length_cons, List.length_nil]; omega)
        rw [List.append_assoc] at h2
        exact h2
      · simp only [if_neg h]
        exact Ev.now _
theorem refFields (l : List ByteArray) (hl : l.length ≤ 40) : Ev (fun k => wicketmanref09_fields.f k l) (fldsR l) := by
  have h := refFields_loop l hl _ 0 [] rfl (by omega) (by simp)
  rw [List.drop_zero, List.nil_append] at h
  refine Ev.congr (fun k => ?_) h
  unfold wicketmanref09_fields.f
  rw [if_neg (by omega)]; rfl
theorem refBody (fs : List S34) (n : Nat) (hl : fs.length < 8796093022208) (hs : ∀ p ∈ fs, p.f0.size ≤ 140737488351232) : Ev (fun k => wicketmanref09_body.f k fs (n : Int)) (bodyE fs n) := by
  unfold wicketmanref09_body.f bodyE
  refine Ev.bind (refAll_ev fs clB hl hs) ?_
  refine Ev.bind (refAll_ev fs hostB hl hs) ?_
  have hT := refAll_ev fs teB hl hs
  generalize allS fs clB = cl at *
  generalize allS fs hostB = ho at *
  generalize allS fs teB = te at *
  have bad : ∀ g : Nat → Option Int, (∀ k, g k = wicketmanref09_body.j0 k (n : Int) cl true) → Ev g (14 : Int) := fun g hg => Ev.congr hg (Ev.step (f := fun _ => some 14) (fun k => by simp only [wicketmanref09_body.j0, if_true]) (Ev.now _))
  by_cases h1 : ho.length = 1
  · simp only [if_pos (show ((ho.length : Int) = 1) by omega)]
    refine Ev.bind hT ?_
    by_cases h2 : te.length = 0
    · simp only [if_neg (show ¬ ((te.length : Int) > 0) by omega)]
      by_cases h3 : cl.length ≤ 1
      · rw [if_pos ⟨h1, h2, h3⟩]
        simp only [decide_eq_false (show ¬ ((cl.length : Int) > 1) by omega)]
        match cl, h3 with
        | [], _ =>
          refine Ev.step (f := fun _ => some (if n = 0 then 0 else 13)) (fun k => ?_) (Ev.now _)
          simp only [wicketmanref09_body.j0]
          rw [if_neg (by decide), if_neg (by simp)]
          by_cases hn : n = 0
          · rw [if_pos (by omega), if_pos hn]
          · rw [if_neg (by omega), if_neg hn]
        | [s], _ =>
          refine Ev.step (f := fun k => (wicketmanref01_Decimal.f k s 4000).bind fun bt231 => (if bt231.2 = true then (if bt231.1 = (n : Int) then (some 0) else (some 13)) else (some 13))) (fun k => ?_) ?_
          · simp only [wicketmanref09_body.j0]
            rw [if_neg (by decide), if_pos (by simp), if_pos (by simp)]; rfl
          · refine Ev.bind (refDec s 4000) ?_
            show Ev (fun _ => if (decS s 4000).2 = true then (if (decS s 4000).1 = (n : Int) then some (0 : Int) else some 13) else some 13) (if (decS s 4000).2 = true ∧ (decS s 4000).1 = (n : Int) then 0 else 13)
            by_cases ha : (decS s 4000).2 = true
            · by_cases hb : (decS s 4000).1 = (n : Int)
              · simp only [if_pos ha, if_pos hb, if_pos (And.intro ha hb)]; exact Ev.now _
              · simp only [if_pos ha, if_neg hb, if_neg (fun h : _ ∧ _ => hb h.2)]; exact Ev.now _
            · simp only [if_neg ha, if_neg (fun h : _ ∧ _ => ha h.1)]; exact Ev.now _
        | _ :: _ :: _, h3 => exact absurd h3 (by simp)
      · rw [if_neg (fun h => h3 h.2.2)]
        simp only [decide_eq_true (show ((cl.length : Int) > 1) by omega)]
        exact bad _ (fun _ => rfl)
    · rw [if_neg (fun h => h2 h.2.1)]
      simp only [if_pos (show ((te.length : Int) > 0) by omega)]
      exact bad _ (fun _ => rfl)
  · rw [if_neg (fun h => h1 h.1)]
    simp only [if_neg (show ¬ ((ho.length : Int) = 1) by omega)]
    exact bad _ (fun _ => rfl)
theorem refParse (bs : List UInt8) (hb : bs.length ≤ 4000000) : Ev (fun k => wicketmanref09_Parse.f k (numsL bs)) (parseQ (numsL bs)) := by
  have hlen := linesS_len bs
  unfold wicketmanref09_Parse.f parseQ
  rw [numsL_str, mkB_list, numsL_len]
  refine Ev.bind (refLines_ev bs (by omega)) ?_
  generalize linesS bs = r at *
  obtain ⟨ls, n, ok⟩ := r
  have bad : ∀ g : Nat → Option Req, ∀ l x5, (∀ k, g k = wicketmanref09_Parse.j0 k (numsL bs) l x5 true) → Ev g (noReq 10) := fun g l x5 hg => Ev.congr hg (Ev.step (f := fun _ => some (noReq 10)) (fun k => by simp only [wicketmanref09_Parse.j0, if_true]; rfl) (Ev.now _))
  cases ok with
  | false =>
    simp only [lnR, Bool.false_eq_true, if_false]
    exact bad _ [] 0 (fun _ => rfl)
  | true =>
    simp only [lnR, if_true]
    have hlen : n ≤ bs.length := hlen
    cases ls with
    | nil => exact bad _ [] ((bs.length : Int) - (n : Int)) (fun k => by rfl)
    | cons x rest =>
      have hx5 : ((bs.length : Int) - (n : Int)) = ((bs.length - n : Nat) : Int) := by omega
      rw [hx5]
      have hn0 : (((x :: rest).length : Int) == 0) = false := by rw [beq_eq_false_iff_ne]; simp; omega
      rw [hn0]
      refine Ev.step (f := fun k => (wicketmanref09_first.f k x).bind fun bt240 => (if bt240.2.2.2.2 = 0 then ((wicketmanref09_fields.f k rest).bind fun bt254 => (if bt254.2 = 0 then ((wicketmanref09_body.f k bt254.1 (n : Int)).bind fun t258 => (if t258 = 0 then (some (bt240.1, bt240.2.1, bt254.1, ((numsL bs).drop (bs.length - n)), 0)) else (some (noReq t258)))) else (some (noReq bt254.2)))) else (some (noReq bt240.2.2.2.2)))) (fun k => ?_) ?_
      · simp only [wicketmanref09_Parse.j0, numsL_len]
        rw [if_neg (by decide), if_pos (show (0 : Int) < ((x :: rest).length : Int) by rw [List.length_cons]; omega)]
        simp only [if_pos (show (1 : Int) ≤ ((x :: rest).length : Int) by rw [List.length_cons]; omega), if_pos (show (0 : Int) ≤ ((bs.length - n : Nat) : Int) by omega), if_pos (show ((bs.length - n : Nat) : Int) ≤ (bs.length : Int) by omega), Int.toNat_natCast]
        rw [wrap_id (by omega) (by omega), show (bs.length : Int) - ((bs.length - n : Nat) : Int) = (n : Int) by omega]
        rfl
      · unfold parseL
        refine Ev.bind (refFirst x) ?_
        unfold fstR
        by_cases h1 : fstE x = 0
        · simp only [if_pos h1, h1, if_neg (show ¬ ((0 : Int) ≠ 0) by simp), if_true]
          by_cases h2 : 40 < rest.length
          · refine Ev.congr (f := fun _ => some (noReq 3)) (fun k => ?_) ?_
            · unfold wicketmanref09_fields.f
              rw [if_pos (by omega)]; rfl
            · simp only [if_pos h2]; exact Ev.now _
          · simp only [if_neg h2]
            refine Ev.bind (refFields rest (by omega)) ?_
            unfold fldsR
            by_cases h3 : fldsE rest = 0
            · have hdl : ((numsL bs).drop (bs.length - n)).length = n := by rw [List.length_drop, numsL_len]; omega
              rw [hdl]
              simp only [if_pos h3, h3, if_neg (show ¬ ((0 : Int) ≠ 0) by simp), if_true]
              refine Ev.bind (refBody (rest.map fldS) n (by rw [List.length_map]; omega) (flds_size rest h3)) ?_
              by_cases h4 : bodyE (rest.map fldS) n = 0
              · simp only [if_pos h4, if_neg (show ¬ (bodyE (rest.map fldS) n ≠ 0) from fun h => h h4)]; exact Ev.now _
              · simp only [if_neg h4, if_pos (show bodyE (rest.map fldS) n ≠ 0 from h4)]; exact Ev.now _
            · simp only [if_neg h3, if_pos (show fldsE rest ≠ 0 from h3)]; exact Ev.now _
        · simp only [if_neg h1, if_pos (show fstE x ≠ 0 from h1)]
          show Ev (fun k => if fstE x = 0 then _ else some (noReq (fstE x))) (noReq (fstE x))
          simp only [if_neg h1]; exact Ev.now _
end Go.Proofs.YtpfbemcoblganaaGreatDoor.Pl

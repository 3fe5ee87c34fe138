/-
  What the document's answer of layer 11 (wicketmanref11) computes is what the program computes.
  What the laws of layer 11 are made of: values by choices, sums of sizes.
-/
import Derived.Test.YtipbgnhhmgljnaaDoorP11
import Derived.Test.YtipbgnhhmgljnaaDoorPall8
import Derived.Test.YtipbgnhhmgljnaaDoorPall10
import Derived.Test.YtipbgnhhmgljnaaDoorPall4
import Derived.Test.YtipbgnhhmgljnaaDoorPall2
namespace Go.Proofs.YtipbgnhhmgljnaaDoor.Pl
open Go.RowKit Go.Proofs.YtipbgnhhmgljnaaDoor.Pall Go.Proofs.YtipbgnhhmgljnaaDoor.Split Go.Proofs.YtipbgnhhmgljnaaDoorW.PrintWords Go.Proofs.YtipbgnhhmgljnaaDoorW.PrintLast Go.Proofs.YtipbgnhhmgljnaaDoorW.PrintMore
set_option linter.unusedVariables false
set_option linter.unusedSimpArgs false

/-! ### pieces -/
theorem at_i (s : ByteArray) (i : Nat) (hi : i < s.size) : s.data.toList[i]? = some (s.data.toList.getD i 0) := by
  rw [List.getD, List.getElem?_eq_getElem (by rw [len_data]; exact hi)]; rfl
theorem occ_at (s : ByteArray) (f i : Nat) (hf : f ≤ i) (hi : i + 1 < s.size) : Lib.occAt (s.data.toList.drop f) [59, 32] (i - f) = (decide (bt s (i : Int) = 59) && decide (bt s ((i + 1 : Nat) : Int) = 32)) := by
  rw [occ_semi, List.getElem?_drop, List.getElem?_drop, show f + (i - f) = i by omega, show f + (i - f + 1) = i + 1 by omega, at_i s i (by omega), at_i s (i + 1) hi, bt_nat s i (by omega), bt_nat s (i + 1) hi]
  generalize s.data.toList.getD i 0 = a
  generalize s.data.toList.getD (i + 1) 0 = b
  have h : ∀ (x : UInt8) (c : UInt8), decide (some x = some c) = decide ((x.toNat : Int) = (c.toNat : Int)) := fun x c => by
    rw [decide_eq_decide]
    constructor
    · intro h; injection h with h; rw [h]
    · intro h; exact congrArg some (UInt8.toNat_inj.1 (by omega))
  have h1 := h a 59; have h2 := h b 32
  rw [h1, h2]; rfl
theorem occ_end (s : ByteArray) (f j : Nat) (hj : s.size ≤ f + j + 1) : Lib.occAt (s.data.toList.drop f) [59, 32] j = false := by
  rw [occ_semi, List.getElem?_drop, List.getElem?_drop, show s.data.toList[f + (j + 1)]? = none from List.getElem?_eq_none (by rw [len_data]; omega)]
  simp
theorem refPieces_loop (s : ByteArray) (hs : s.size ≤ 4000000000) : ∀ d (i f : Nat) (out : List ByteArray) (K : Nat), s.size - i = d → i ≤ s.size → f ≤ i → out.length ≤ i → s.size - f ≤ K →
    (∀ j, j < i - f → Lib.occAt (s.data.toList.drop f) [59, 32] j = false) →
    Ev (fun k => wicketmanref11_pieces.l0 k s out (f : Nat) (i : Nat)) (out ++ (splitK [59, 32] K (s.data.toList.drop f)).map mkS) := by
  intro d
  induction d using Nat.strongRecOn with
  | ind d ih =>
    intro i f out K hd hi hf hout hK hno
    have hnone : ∀ (h : s.size ≤ i + 1) , splitK [59, 32] K (s.data.toList.drop f) = [s.data.toList.drop f] := by
      intro h
      have hx : Lib.index (s.data.toList.drop f) [59, 32] = -1 := Lib.index_none (fun j hj => by
        by_cases hj2 : j < i - f
        · exact hno j hj2
        · exact occ_end s f j (by omega))
      cases K with
      | zero => rfl
      | succ K => unfold splitK; rw [hx, if_pos (by decide)]
    by_cases he : i = s.size
    · subst he
      rw [hnone (by omega)]
      refine Ev.step (f := fun k => wicketmanref11_pieces.l0 k s (out ++ [s.extract f s.size]) (s.size + 2 : Nat) (s.size + 1 : Nat)) (fun k => ?_) (Ev.step (f := fun _ => some (out ++ [s.extract f s.size])) (fun k => ?_) ?_)
      · simp only [wicketmanref11_pieces.l0]
        rw [if_pos (by omega), if_pos trivial, if_pos (by omega), if_pos (by omega), if_pos (by omega), wrap_id (by omega) (by omega), wrap_id (by omega) (by omega), Int.toNat_natCast, Int.toNat_natCast]
        rfl
      · simp only [wicketmanref11_pieces.l0]
        rw [if_neg (by omega)]
      · rw [Pall.ext_from]; exact Ev.now _
    · have hlt : i < s.size := by omega
      by_cases h1 : i + 1 < s.size
      · have hocc := occ_at s f i hf h1
        by_cases hm : bt s (i : Int) = 59 ∧ bt s ((i + 1 : Nat) : Int) = 32
        · have hmatch : Lib.occAt (s.data.toList.drop f) [59, 32] (i - f) = true := by rw [hocc, decide_eq_true hm.1, decide_eq_true hm.2]; rfl
          have hx : Lib.index (s.data.toList.drop f) [59, 32] = ((i - f : Nat) : Int) := Lib.index_first (by rw [List.length_drop, len_data]; omega) hmatch hno
          obtain ⟨K, rfl⟩ : ∃ K', K = K' + 1 := ⟨K - 1, by omega⟩
          have hsp : splitK [59, 32] (K + 1) (s.data.toList.drop f) = (s.data.toList.drop f).take (i - f) :: splitK [59, 32] K (s.data.toList.drop (i + 2)) := by
            conv => lhs; unfold splitK
            rw [hx, if_neg (by omega), Int.toNat_natCast, List.drop_drop]
            congr 3
            show f + (i - f + 2) = i + 2
            omega
          rw [hsp]
          have hnext := ih (s.size - (i + 2)) (by omega) (i + 2) (i + 2) (out ++ [s.extract f i]) K rfl (by omega) (Nat.le_refl _) (by rw [List.length_append, List.length_singleton]; omega) (by omega) (fun j hj => by omega)
          refine Ev.step (f := fun k => wicketmanref11_pieces.l0 k s (out ++ [s.extract f i]) (i + 2 : Nat) (i + 1 : Nat)) (fun k => ?_) (Ev.step (f := fun k => wicketmanref11_pieces.l0 k s (out ++ [s.extract f i]) (i + 2 : Nat) (i + 2 : Nat)) (fun k => ?_) ?_)
          · simp only [wicketmanref11_pieces.l0]
            rw [if_pos (by omega), if_neg (by omega), wrap_id (n := (i : Int) + 1) (by omega) (by omega), wrap_id (n := (i : Int) + 2) (by omega) (by omega), if_pos (by omega), if_pos (by omega), if_pos (by omega), if_pos hm.1, if_pos (by omega), if_pos (show bt s ((i : Int) + 1) = 32 from hm.2), if_pos (by omega), if_pos (by omega), if_pos (by omega), if_pos (by omega), Int.toNat_natCast, Int.toNat_natCast]
            rfl
          · simp only [wicketmanref11_pieces.l0]
            rw [if_pos (by omega), if_neg (by omega), show wrap64 (((i + 1 : Nat) : Int) + 1) = ((i + 2 : Nat) : Int) from by rw [wrap_id (by omega) (by omega)]; omega]
            have hge : ¬ ((i + 1 : Nat) : Int) ≥ ((i + 2 : Nat) : Int) := by omega
            by_cases h2 : ((i + 2 : Nat) : Int) < (s.size : Int)
            · rw [if_pos h2, if_pos (by omega), if_pos (by omega), if_pos (show (0 : Int) ≤ ((i + 2 : Nat) : Int) by omega), if_neg hge]
              simp only [ite_self]
            · rw [if_neg h2]
          · have e : out ++ ((s.data.toList.drop f).take (i - f) :: splitK [59, 32] K (s.data.toList.drop (i + 2))).map mkS = (out ++ [s.extract f i]) ++ (splitK [59, 32] K (s.data.toList.drop (i + 2))).map mkS := by
              rw [ext_mid, List.map_cons, List.append_assoc]; rfl
            rw [e]; exact hnext
        · have hnomatch : Lib.occAt (s.data.toList.drop f) [59, 32] (i - f) = false := by
            rw [hocc, Bool.and_eq_false_iff]
            by_cases ha : bt s (i : Int) = 59
            · exact .inr (decide_eq_false (fun hb => hm ⟨ha, hb⟩))
            · exact .inl (decide_eq_false ha)
          refine Ev.step (f := fun k => wicketmanref11_pieces.l0 k s out (f : Nat) (i + 1 : Nat)) (fun k => ?_) (ih (s.size - (i + 1)) (by omega) (i + 1) f out K rfl (by omega) (by omega) (by omega) hK (fun j hj => ?_))
          · simp only [wicketmanref11_pieces.l0]
            rw [if_pos (by omega), if_neg (by omega), wrap_id (n := (i : Int) + 1) (by omega) (by omega), if_pos (by omega), if_pos (by omega), if_pos (by omega)]
            by_cases ha : bt s (i : Int) = 59
            · rw [if_pos ha, if_pos (by omega), if_neg (show ¬ bt s ((i : Int) + 1) = 32 from fun hb => hm ⟨ha, hb⟩)]; rfl
            · rw [if_neg ha]; rfl
          · by_cases e : j = i - f
            · rw [e]; exact hnomatch
            · exact hno j (by omega)
      · refine Ev.step (f := fun k => wicketmanref11_pieces.l0 k s out (f : Nat) (i + 1 : Nat)) (fun k => ?_) (ih (s.size - (i + 1)) (by omega) (i + 1) f out K rfl (by omega) (by omega) (by omega) hK (fun j hj => ?_))
        · simp only [wicketmanref11_pieces.l0]
          rw [if_pos (by omega), if_neg (by omega), wrap_id (n := (i : Int) + 1) (by omega) (by omega), if_neg (by omega)]
          rfl
        · by_cases e : j < i - f
          · exact hno j e
          · exact occ_end s f j (by omega)
theorem refPieces (s : ByteArray) (hs : s.size ≤ 4000000000) : Ev (fun k => wicketmanref11_pieces.f k s) (piecesS s) := by
  have h := refPieces_loop s hs _ 0 0 [] s.size rfl (by omega) (by omega) (by simp) (by omega) (fun j hj => by omega)
  rw [List.drop_zero, List.nil_append] at h
  exact h

/-! ### values -/
theorem octB_ref (c : UInt8) (x : Bool) : (if (c.toNat : Int) < 33 then some false else if (c.toNat : Int) > 126 then some false else if (c.toNat : Int) = 34 then some false else if (c.toNat : Int) = 44 then some false else if (c.toNat : Int) = 59 then some false else if (c.toNat : Int) = 92 then some false else some x) = some (octB c && x) := by
  have h := u8_all (fun c => (if (c.toNat : Int) < 33 then some false else if (c.toNat : Int) > 126 then some false else if (c.toNat : Int) = 34 then some false else if (c.toNat : Int) = 44 then some false else if (c.toNat : Int) = 59 then some false else if (c.toNat : Int) = 92 then some false else some true) == some (octB c)) (by decide +kernel) c
  have h := beq_iff_eq.1 h
  cases x
  · simp
  · rw [h, Bool.and_true]
theorem refOct_loop (s : ByteArray) (hs : s.size ≤ 9223372036854775806) : ∀ d i, s.size - i = d → i ≤ s.size → Ev (fun k => wicketmanref11_Octets.l0 k s (i : Nat)) (octL (s.data.toList.drop i)) := by
  intro d
  induction d with
  | zero =>
    intro i hd hi
    obtain rfl : i = s.size := by omega
    refine Ev.step (f := fun _ => some true) (fun k => ?_) ?_
    · simp only [wicketmanref11_Octets.l0]; rw [if_neg (by omega)]
    · rw [List.drop_of_length_le (by rw [len_data]; exact Nat.le_refl _)]; exact Ev.now _
  | succ d ih =>
    intro i hd hi
    have hlt : i < s.size := by omega
    have hdrop : s.data.toList.drop i = s.data.toList.getD i 0 :: s.data.toList.drop (i + 1) := by
      rw [List.drop_eq_getElem_cons (by rw [len_data]; exact hlt), List.getD, List.getElem?_eq_getElem (by rw [len_data]; exact hlt)]; rfl
    obtain ⟨K, hK⟩ := ih (i + 1) (by omega) (by omega)
    refine ⟨K + 1, fun k hk => ?_⟩
    obtain ⟨k, rfl⟩ : ∃ m, k = m + 1 := ⟨k - 1, by omega⟩
    have hk2 : wicketmanref11_Octets.l0 k s ((i + 1 : Nat) : Int) = some (octL (s.data.toList.drop (i + 1))) := hK k (by omega)
    simp only [wicketmanref11_Octets.l0]
    rw [if_pos (by omega), if_pos (by omega), bt_nat s i hlt, wrap_id (by omega) (by omega), show ((i : Int) + 1) = ((i + 1 : Nat) : Int) by omega, hk2, hdrop, octB_ref]
    unfold octL
    rw [List.all_cons]
theorem refOct (s : ByteArray) (hs : s.size ≤ 9223372036854775806) : Ev (fun k => wicketmanref11_Octets.f k s) (octL s.data.toList) := by
  have h := refOct_loop s hs _ 0 rfl (by omega)
  rw [List.drop_zero] at h; exact h

/-! ### one cookie -/
def oneR (x : ByteArray) : ByteArray × ByteArray × Bool :=
  if pos x.data.toList 61 = x.size ∨ tokL (x.data.toList.take (pos x.data.toList 61)) = false then (⟨#[]⟩, ⟨#[]⟩, false)
  else (mkS (x.data.toList.take (pos x.data.toList 61)), bareS (mkS (x.data.toList.drop (pos x.data.toList 61 + 1))), octL (bareS (mkS (x.data.toList.drop (pos x.data.toList 61 + 1)))).data.toList)
theorem pre_one (v : ByteArray) (h : 0 < v.size) : Lib.hasPrefix v.data.toList [34] = decide (bt v 0 = 34) := by
  rw [bt_0 v h]
  have : v.data.toList ≠ [] := fun e => by have := len_data v; rw [e] at this; simp at this; omega
  generalize v.data.toList = l at *
  cases l with
  | nil => exact absurd rfl this
  | cons a l =>
    show ((34 : UInt8) == a && true) = _
    rw [Bool.and_true]
    show ((34 : UInt8) == a) = decide ((a.toNat : Int) = 34)
    exact beq_iff_eq.1 (u8_all (fun a => ((34 : UInt8) == a) == decide ((a.toNat : Int) = 34)) (by decide +kernel) a)
theorem suf_one (v : ByteArray) (h : 0 < v.size) : Lib.hasSuffix v.data.toList [34] = decide (bt v ((v.size - 1 : Nat) : Int) = 34) := by
  rw [bt_nat v _ (by omega)]
  rcases List.eq_nil_or_concat v.data.toList with e | ⟨m, a, e⟩
  · exfalso; have := len_data v; rw [e] at this; simp at this; omega
  · have hl : v.size - 1 = m.length := by have := len_data v; rw [e] at this; simp at this; omega
    rw [e, hl, List.concat_eq_append]
    have e2 : (m ++ [a]).getD m.length 0 = a := by simp
    rw [e2]
    have h3 : Lib.hasSuffix (m ++ [a]) [34] = ((34 : UInt8) == a) := by
      rw [Bool.eq_iff_iff]
      constructor
      · intro h
        obtain ⟨t, ht⟩ := List.isSuffixOf_iff_suffix.1 h
        have := List.append_inj_right' ht rfl
        injection this with h1 _
        rw [h1]; exact beq_self_eq_true _
      · intro h
        rw [← beq_iff_eq.1 h]
        exact List.isSuffixOf_iff_suffix.2 ⟨m, rfl⟩
    rw [h3]
    exact beq_iff_eq.1 (u8_all (fun a => ((34 : UInt8) == a) == decide ((a.toNat : Int) = 34)) (by decide +kernel) a)
theorem bare_ref (v : ByteArray) : bareS v = if (v.size : Int) ≥ 2 then (if bt v 0 = 34 then (if bt v ((v.size - 1 : Nat) : Int) = 34 then v.extract 1 (v.size - 1) else v) else v) else v := by
  unfold bareS
  by_cases h2 : (v.size : Int) ≥ 2
  · rw [if_pos h2, pre_one v (by omega), suf_one v (by omega)]
    by_cases h3 : bt v 0 = 34
    · rw [if_pos h3]
      by_cases h4 : bt v ((v.size - 1 : Nat) : Int) = 34
      · rw [if_pos h4, if_pos ⟨by omega, decide_eq_true h3, decide_eq_true h4⟩]
      · rw [if_neg h4, if_neg (fun h => h4 (of_decide_eq_true h.2.2))]
    · rw [if_neg h3, if_neg (fun h => h3 (of_decide_eq_true h.2.1))]
  · rw [if_neg h2, if_neg (fun h => h2 (by omega))]
theorem refOne_j2 (s : ByteArray) (p : Nat) (hp : p < s.size) (hs : s.size ≤ 4000000000) : Ev (fun k => wicketmanref11_one.j2 k s (p : Nat) false) (mkS (s.data.toList.take p), bareS (mkS (s.data.toList.drop (p + 1))), octL (bareS (mkS (s.data.toList.drop (p + 1)))).data.toList) := by
  have hv : s.extract (p + 1) s.size = mkS (s.data.toList.drop (p + 1)) := Pall.ext_from s (p + 1)
  have hn : s.extract 0 p = mkS (s.data.toList.take p) := Pall.ext_to s p
  have hz : (mkS (s.data.toList.drop (p + 1))).size ≤ 4000000000 := by rw [mkS_size, List.length_drop, len_data]; omega
  have hb : (bareS (mkS (s.data.toList.drop (p + 1)))).size ≤ 9223372036854775806 := by
    unfold bareS; split
    · rw [ByteArray.size_extract]; omega
    · omega
  obtain ⟨K, hK⟩ := refOct _ hb
  refine ⟨K + 1, fun k hk => ?_⟩
  obtain ⟨k, rfl⟩ : ∃ m, k = m + 1 := ⟨k - 1, by omega⟩
  have hk2 := hK k (by omega)
  simp only at hk2
  simp only [wicketmanref11_one.j2]
  rw [wrap_id (n := (p : Int) + 1) (by omega) (by omega), show ((p : Int) + 1).toNat = p + 1 by omega, Int.toNat_natCast, hv, hn]
  have hbr := bare_ref (mkS (s.data.toList.drop (p + 1)))
  generalize mkS (s.data.toList.drop (p + 1)) = v at *
  rw [if_neg (by decide), if_pos (by omega), if_pos (by omega)]
  by_cases h2 : (v.size : Int) ≥ 2
  · rw [if_pos h2] at hbr
    have hw : wrap64 ((v.size : Int) - 1) = ((v.size - 1 : Nat) : Int) := by rw [wrap_id (by omega) (by omega)]; omega
    rw [if_pos h2, if_pos (by omega), hw]
    by_cases h3 : bt v 0 = 34
    · rw [if_pos h3] at hbr
      rw [if_pos h3, if_pos (by omega), if_pos (by omega)]
      by_cases h4 : bt v ((v.size - 1 : Nat) : Int) = 34
      · rw [if_pos h4] at hbr
        rw [if_pos h4, if_pos (by omega), if_pos (by omega), if_pos (by omega), if_pos (by omega), Int.toNat_natCast, ← hbr, hk2]
        rfl
      · rw [if_neg h4] at hbr
        rw [hbr] at hk2
        rw [if_neg h4, if_pos (by omega), if_pos (by omega), hbr, hk2]
        rfl
    · rw [if_neg h3] at hbr
      rw [hbr] at hk2
      rw [if_neg h3, if_pos (by omega), if_pos (by omega), hbr, hk2]
      rfl
  · rw [if_neg h2] at hbr
    rw [hbr] at hk2
    rw [if_neg h2, if_pos (by omega), if_pos (by omega), hbr, hk2]
    rfl
theorem refOne_j1 (s : ByteArray) (hs : s.size ≤ 4000000000) : Ev (fun k => wicketmanref11_one.j1 k s (pos s.data.toList 61 : Nat)) (oneR s) := by
  have hle := pos_le s.data.toList 61
  rw [len_data] at hle
  unfold oneR
  by_cases he : pos s.data.toList 61 = s.size
  · rw [if_pos (.inl he)]
    refine Ev.step (f := fun k => wicketmanref11_one.j2 k s (pos s.data.toList 61 : Nat) true) (fun k => ?_) (Ev.step (f := fun _ => some (⟨#[]⟩, ⟨#[]⟩, false)) (fun k => ?_) (Ev.now _))
    · simp only [wicketmanref11_one.j1]; rw [if_pos (by omega)]
    · simp only [wicketmanref11_one.j2]; rw [if_pos trivial]
  · refine Ev.step (f := fun k => (wicketmanref08_Token.f k (s.extract 0 (pos s.data.toList 61))).bind fun t => wicketmanref11_one.j2 k s (pos s.data.toList 61 : Nat) (!t)) (fun k => ?_) ?_
    · simp only [wicketmanref11_one.j1]; rw [if_neg (by omega), if_pos (by omega), if_pos (by omega), Int.toNat_natCast]
    · have ht := refToken (s.extract 0 (pos s.data.toList 61)) (by rw [ByteArray.size_extract]; omega)
      rw [Pall.ext_to] at ht ⊢
      refine Ev.bind ht ?_
      show Ev (fun k => wicketmanref11_one.j2 k s (pos s.data.toList 61 : Nat) (!tokL (s.data.toList.take (pos s.data.toList 61)))) _
      cases h : tokL (s.data.toList.take (pos s.data.toList 61)) with
      | false =>
        rw [if_pos (.inr rfl)]
        refine Ev.step (f := fun _ => some (⟨#[]⟩, ⟨#[]⟩, false)) (fun k => ?_) (Ev.now _)
        simp only [wicketmanref11_one.j2]; rw [if_pos (show (!false) = true from rfl)]
      | true =>
        rw [if_neg (fun h => h.elim he (fun h => by cases h))]
        exact refOne_j2 s _ (by omega) hs
theorem refOne_l (s : ByteArray) (hs : s.size ≤ 4000000000) : ∀ d i, pos s.data.toList 61 - i = d → i ≤ pos s.data.toList 61 → Ev (fun k => wicketmanref11_one.l0 k s (i : Nat)) (oneR s) := by
  have hle := pos_le s.data.toList 61
  rw [len_data] at hle
  intro d
  induction d with
  | zero =>
    intro i hd hi
    obtain rfl : i = pos s.data.toList 61 := by omega
    refine Ev.step (f := fun k => wicketmanref11_one.j1 k s (pos s.data.toList 61 : Nat)) (fun k => ?_) (refOne_j1 s hs)
    simp only [wicketmanref11_one.l0]
    by_cases h : pos s.data.toList 61 = s.size
    · rw [if_neg (by omega)]
    · have hat := pos_at (l := s.data.toList) (c := 61) (by rw [len_data]; omega)
      rw [if_pos (by omega), if_pos (by omega), bt_nat s _ (by omega), hat, if_pos (by decide)]
  | succ d ih =>
    intro i hd hi
    refine Ev.step (f := fun k => wicketmanref11_one.l0 k s (i + 1 : Nat)) (fun k => ?_) (ih (i + 1) (by omega) (by omega))
    have hb := pos_before (l := s.data.toList) (c := 61) i (by omega)
    simp only [wicketmanref11_one.l0]
    rw [if_pos (by omega), if_pos (by omega), bt_nat s i (by omega), if_neg (fun h => hb (UInt8.toNat_inj.1 (by rw [show (61 : UInt8).toNat = 61 from rfl]; omega))), wrap_id (by omega) (by omega)]
    rfl
theorem refOne (s : ByteArray) (hs : s.size ≤ 4000000000) : Ev (fun k => wicketmanref11_one.f k s) (oneR s) := refOne_l s hs _ 0 rfl (by omega)
theorem oneR_ok (s : ByteArray) : (oneR s).2.2 = okS s ∧ (okS s = true → (oneR s).1 = (pairS s).f0 ∧ (oneR s).2.1 = (pairS s).f1) := by
  have hle := pos_le s.data.toList 61
  unfold oneR okS pairS oneS
  rw [cut_one, len_data]
  by_cases he : pos s.data.toList 61 = s.size
  · rw [if_pos (.inl he), if_pos he]; exact ⟨rfl, fun h => by cases h⟩
  · rw [if_neg he]
    cases ht : tokL (s.data.toList.take (pos s.data.toList 61)) with
    | false => rw [if_pos (.inr rfl)]; exact ⟨by simp, fun h => by simp at h⟩
    | true => rw [if_neg (fun h => h.elim he (fun h => by cases h))]; exact ⟨by simp, fun _ => ⟨rfl, rfl⟩⟩

/-! ### cookies -/
theorem refParse_loop (l : List ByteArray) (hl : l.length ≤ 4000000001) (hs : ∀ x ∈ l, x.size ≤ 4000000000) : ∀ d i (out : List S38), l.length - i = d → i ≤ l.length → out.length ≤ i →
    Ev (fun k => wicketmanref11_Parse.l0 k l out (i : Nat)) (if (l.drop i).all okS = true then (out ++ (l.drop i).map pairS, true) else ([], false)) := by
  intro d
  induction d with
  | zero =>
    intro i out hd hi ho
    obtain rfl : i = l.length := by omega
    rw [List.drop_of_length_le (Nat.le_refl _)]
    refine Ev.step (f := fun _ => some (out, true)) (fun k => ?_) ?_
    · simp only [wicketmanref11_Parse.l0]; rw [if_neg (by omega)]
    · rw [if_pos (by rfl), List.map_nil, List.append_nil]; exact Ev.now _
  | succ d ih =>
    intro i out hd hi ho
    have hlt : i < l.length := by omega
    have hx := hs _ (getD_in l ByteArray.empty hlt)
    refine Ev.step (f := fun k => (wicketmanref11_one.f k (l.getD i ByteArray.empty)).bind fun b => if b.2.2 = true then (wicketmanref11_Parse.l0 k l (out ++ [(⟨b.1, b.2.1⟩ : S38)]) (i + 1 : Nat)) else some ([], false)) (fun k => ?_) ?_
    · simp only [wicketmanref11_Parse.l0]
      rw [if_pos (by omega), if_pos (by omega), rdB, wrap_id (by omega) (by omega)]
      simp only [if_pos (show out.length < 4398046511104 by omega)]
      rfl
    · refine Ev.bind (refOne _ hx) ?_
      rw [drop_get l ByteArray.empty hlt, List.all_cons, List.map_cons]
      obtain ⟨h1, h2⟩ := oneR_ok (l.getD i ByteArray.empty)
      generalize l.getD i ByteArray.empty = x at *
      cases ho2 : okS x with
      | false =>
        rw [ho2] at h1
        simp only [h1, Bool.false_and, Bool.false_eq_true, if_false]
        exact Ev.now _
      | true =>
        rw [ho2] at h1
        obtain ⟨h3, h4⟩ := h2 ho2
        simp only [h1, h3, h4, Bool.true_and, if_true]
        have := ih (i + 1) (out ++ [pairS x]) (by omega) (by omega) (by rw [List.length_append, List.length_singleton]; omega)
        rw [List.append_assoc] at this
        exact this
theorem refParse (s : ByteArray) (hs : s.size ≤ 4000000000) : Ev (fun k => wicketmanref11_Parse.f k s) (parseS s) := by
  unfold parseS
  by_cases h : s.toList = []
  · rw [if_pos h]
    refine Ev.congr (f := fun _ => some ([], true)) (fun k => ?_) (Ev.now _)
    unfold wicketmanref11_Parse.f; rw [if_pos h]
  · rw [if_neg h]
    refine Ev.congr (f := fun k => (wicketmanref11_pieces.f k s).bind fun t => wicketmanref11_Parse.l0 k t [] 0) (fun k => ?_) ?_
    · unfold wicketmanref11_Parse.f; rw [if_neg h]
    · refine Ev.bind (refPieces s hs) ?_
      have hlen : (piecesS s).length ≤ 4000000001 := by unfold piecesS; rw [List.length_map]; exact Nat.le_trans (pieces_len _ _ _) (by omega)
      have hsz : ∀ x ∈ piecesS s, x.size ≤ 4000000000 := fun x hx => by
        unfold piecesS at hx
        obtain ⟨y, hy, rfl⟩ := List.mem_map.1 hx
        rw [mkS_size]
        exact Nat.le_trans (piece_le _ _ _ _ hy) (by rw [len_data]; exact hs)
      have := refParse_loop (piecesS s) hlen hsz _ 0 [] rfl (by omega) (by simp)
      rw [List.drop_zero, List.nil_append] at this
      exact this
theorem pairs_same (l : List S38) (hl : l.length ≤ 9223372036854775806) : ∀ d i, l.length - i = d → i ≤ l.length → Ev (fun k => wicketmanref07_Same.l0 k l l (i : Nat)) true := by
  intro d
  induction d with
  | zero =>
    intro i hd hi
    refine Ev.step (f := fun _ => some true) (fun k => ?_) (Ev.now _)
    simp only [wicketmanref07_Same.l0]; rw [if_neg (by omega)]
  | succ d ih =>
    intro i hd hi
    refine Ev.step (fun k => ?_) (ih (i + 1) (by omega) (by omega))
    simp only [wicketmanref07_Same.l0]
    rw [if_pos (by omega), if_pos (by omega), if_pos (by omega), if_neg (by simp), wrap_id (by omega) (by omega)]
    rfl
theorem pairs_same_true (l : List S38) (hl : l.length ≤ 9223372036854775806) : Ev (fun k => wicketmanref07_Same.f k l l) true := by
  refine Ev.congr (f := fun k => wicketmanref07_Same.l0 k l l ((0 : Nat) : Int)) (fun k => ?_) (pairs_same l hl _ 0 rfl (by omega))
  unfold wicketmanref07_Same.f; rw [if_pos rfl]; rfl
theorem parses_true (s : ByteArray) (hs : s.size ≤ 1000000) : Ev (fun k => wicketmanlaw11_parses.f k s) true := by
  have hl := parse_len s
  refine Ev.congr (f := fun k => (wicketmanref11_Parse.f k s).bind fun b => (wicketmanref07_Same.f k (parseS s).1 b.1).bind fun t => if t = true then some ((parseS s).2 == b.2) else some false) (fun k => ?_) ?_
  · unfold wicketmanlaw11_parses.f; rw [parse_f s hs]; rfl
  · refine Ev.bind (refParse s (by omega)) ?_
    refine Ev.bind (pairs_same_true _ (by omega)) ?_
    simp only [if_true, beq_self_eq_true]
    exact Ev.now _

/-! ### the session's cookie -/
theorem sess_eq (c : S38) : c.f0.toList = ([95, 95, 72, 111, 115, 116, 45, 105, 100] : List UInt8) ↔ c.f0 = nameB := by
  constructor
  · intro h; rw [ByteArray.toList_eq] at h; exact Split.ba_ext h
  · intro h; rw [h, ByteArray.toList_eq]; rfl
theorem rdP2 (l : List S38) (i : Nat) : rd_T38 l (i : Int) = l.getD i z38 := by unfold rd_T38; rw [Int.toNat_natCast]
theorem refSess_l1 (vs : List ByteArray) (i : Nat) (cs : List S38) (r : ByteArray × Bool) (hcs : cs.length ≤ 4000000001) : ∀ d j (st : Nat × ByteArray), cs.length - j = d → j ≤ cs.length → st.1 + cs.length ≤ 9000000000000000000 + j → i ≤ 9000000000000000000 →
    Ev (fun k => wicketmanref11_Session.l0 k vs (((cs.drop j).foldl sess1 st).1 : Nat) ((cs.drop j).foldl sess1 st).2 (i + 1 : Nat)) r →
    Ev (fun k => wicketmanref11_Session.l1 k vs (st.1 : Nat) st.2 (i : Nat) cs (j : Nat)) r := by
  intro d
  induction d with
  | zero =>
    intro j st hd hj hn hi h
    obtain rfl : j = cs.length := by omega
    rw [List.drop_of_length_le (Nat.le_refl _)] at h
    refine Ev.step (fun k => ?_) h
    simp only [wicketmanref11_Session.l1]
    rw [if_neg (by omega), wrap_id (by omega) (by omega)]
    rfl
  | succ d ih =>
    intro j st hd hj hn hi h
    have hlt : j < cs.length := by omega
    rw [drop_get cs z38 hlt, List.foldl_cons] at h
    have hs1 : (sess1 st (cs.getD j z38)).1 ≤ st.1 + 1 := by unfold sess1; split <;> simp
    refine Ev.step (fun k => ?_) (ih (j + 1) (sess1 st (cs.getD j z38)) (by omega) (by omega) (by omega) hi h)
    simp only [wicketmanref11_Session.l1]
    rw [if_pos (by omega), if_pos (by omega), rdP2, wrap_id (n := (j : Int) + 1) (by omega) (by omega), wrap_id (n := (st.1 : Int) + 1) (by omega) (by omega)]
    unfold sess1
    by_cases hc : (cs.getD j z38).f0 = nameB
    · rw [if_pos ((sess_eq _).2 hc), if_pos hc]; rfl
    · rw [if_neg (fun h => hc ((sess_eq _).1 h)), if_neg hc]; rfl
def sessEnd (st : Nat × ByteArray) : ByteArray × Bool := if 1 < st.1 then (⟨#[]⟩, false) else (st.2, true)
theorem refSess_l0 (vs : List ByteArray) (hl : vs.length ≤ 1000000) (hs : ∀ v ∈ vs, v.size ≤ 1000000) : ∀ d i (st : Nat × ByteArray), vs.length - i = d → i ≤ vs.length → st.1 ≤ i * 2000000 →
    Ev (fun k => wicketmanref11_Session.l0 k vs (st.1 : Nat) st.2 (i : Nat)) (if (vs.drop i).all (fun v => (parseS v).2) = true then sessEnd ((vs.drop i).foldl sessF st) else (⟨#[]⟩, false)) := by
  intro d
  induction d with
  | zero =>
    intro i st hd hi hn
    obtain rfl : i = vs.length := by omega
    rw [List.drop_of_length_le (Nat.le_refl _)]
    refine Ev.step (f := fun _ => some (sessEnd st)) (fun k => ?_) ?_
    · simp only [wicketmanref11_Session.l0]
      rw [if_neg (by omega)]
      unfold sessEnd
      by_cases h : 1 < st.1
      · rw [if_pos h, if_pos (by omega)]
      · rw [if_neg h, if_neg (by omega)]
    · rw [if_pos (by rfl)]; exact Ev.now _
  | succ d ih =>
    intro i st hd hi hn
    have hlt : i < vs.length := by omega
    have hv := hs _ (getD_in vs ByteArray.empty hlt)
    have hpl := parse_len (vs.getD i ByteArray.empty)
    refine Ev.step (f := fun k => (wicketmanref11_Parse.f k (vs.getD i ByteArray.empty)).bind fun b => if b.2 = true then wicketmanref11_Session.l1 k vs (st.1 : Nat) st.2 (i : Nat) b.1 ((0 : Nat) : Int) else some (⟨#[]⟩, false)) (fun k => ?_) ?_
    · simp only [wicketmanref11_Session.l0]
      rw [if_pos (by omega), if_pos (by omega), rdB]
      rfl
    · refine Ev.bind (refParse _ (by omega)) ?_
      rw [drop_get vs ByteArray.empty hlt, List.all_cons, List.foldl_cons]
      cases hok : (parseS (vs.getD i ByteArray.empty)).2 with
      | false => simp only [Bool.false_and, Bool.false_eq_true, if_false]; exact Ev.now _
      | true =>
        simp only [Bool.true_and, if_true]
        have hle := sess1_le (parseS (vs.getD i ByteArray.empty)).1 st
        refine refSess_l1 vs i _ _ (by omega) _ 0 st rfl (by omega) (by omega) (by omega) ?_
        rw [List.drop_zero]
        exact ih (i + 1) (sessF st (vs.getD i ByteArray.empty)) (by omega) (by omega) (by unfold sessF; omega)
theorem refSess (vs : List ByteArray) (hl : vs.length ≤ 1000000) (hs : ∀ v ∈ vs, v.size ≤ 1000000) : Ev (fun k => wicketmanref11_Session.f k vs) (sessS vs) := by
  have h := refSess_l0 vs hl hs _ 0 (0, ⟨#[]⟩) rfl (by omega) (by omega)
  rw [List.drop_zero] at h
  exact h
theorem session_true (vs : List ByteArray) (hl : vs.length ≤ 1000000) (hs : ∀ v ∈ vs, v.size ≤ 1000000) : Ev (fun k => wicketmanlaw11_session.f k vs) true := by
  refine Ev.congr (f := fun k => (wicketmanref11_Session.f k vs).bind fun b => if (sessS vs).1.toList = b.1.toList then some ((sessS vs).2 == b.2) else some false) (fun k => ?_) ?_
  · unfold wicketmanlaw11_session.f; rw [session_f vs hl hs]; rfl
  · refine Ev.bind (refSess vs hl hs) ?_
    simp only [if_true, beq_self_eq_true]; exact Ev.now _
end Go.Proofs.YtipbgnhhmgljnaaDoor.Pl
namespace Go.Proofs.YtipbgnhhmgljnaaDoor.Pl
open Go.RowKit Go.Proofs.YtipbgnhhmgljnaaDoor.Pall Go.Proofs.YtipbgnhhmgljnaaDoor.Split Go.Proofs.YtipbgnhhmgljnaaDoorW.PrintWords Go.Proofs.YtipbgnhhmgljnaaDoorW.PrintLast Go.Proofs.YtipbgnhhmgljnaaDoorW.PrintMore
set_option linter.unusedVariables false
set_option linter.unusedSimpArgs false
def tab11 : List ByteArray := [(⟨#[97, 61, 49]⟩ : ByteArray), (⟨#[95, 95, 72, 111, 115, 116, 45, 105, 100, 61]⟩ : ByteArray), (⟨#[53]⟩ : ByteArray), (⟨#[59, 32]⟩ : ByteArray), (⟨#[59, 32]⟩ : ByteArray), (⟨#[61]⟩ : ByteArray), (⟨#[34]⟩ : ByteArray), (⟨#[98]⟩ : ByteArray), (⟨#[95, 95, 72, 111, 115, 116, 45, 73, 68, 61, 120]⟩ : ByteArray), (⟨#[59]⟩ : ByteArray), (⟨#[32]⟩ : ByteArray), (⟨#[44]⟩ : ByteArray), (⟨#[92]⟩ : ByteArray), (⟨#[95, 95, 72, 111, 115, 116, 45, 105, 100, 61, 55]⟩ : ByteArray), (⟨#[59, 32, 97, 61, 34, 113, 34]⟩ : ByteArray), (⟨#[40, 61, 49]⟩ : ByteArray)]
def pc11 (n : Int) : List UInt8 := (rdOf ByteArray.empty tab11 (n % 16)).data.toList
theorem pc11_len (n : Int) (h : 0 ≤ n ∧ n ≤ 255) : (pc11 n).length ≤ 11 := by
  have hall : ((List.range 256).all fun k => decide ((pc11 (k : Int)).length ≤ 11)) = true := by decide +kernel
  obtain ⟨k, rfl⟩ : ∃ k : Nat, n = k := ⟨n.toNat, by omega⟩
  simpa using List.all_eq_true.1 hall k (List.mem_range.2 (by omega))
def valueS (l : List Int) : ByteArray := mkB ((l.take 20).flatMap pc11)
theorem valueS_size (l : List Int) (hb : ∀ x ∈ l, 0 ≤ x ∧ x ≤ 255) : (valueS l).size ≤ 220 := by
  unfold valueS; rw [mkB_size]
  have h1 := flat_le pc11 11 (l.take 20) (fun x hx => pc11_len x (hb x (List.mem_of_mem_take hx)))
  rw [List.length_take] at h1; omega
theorem value_ev (l : List Int) (hb : ∀ x ∈ l, 0 ≤ x ∧ x ≤ 255) (hl : l.length ≤ 9223372036854775806) : Ev (fun k => wicketmanlaw11_Value.f k l) (valueS l) := by
  refine ev_build (fun k s i => wicketmanlaw11_Value.l0 k l tab11 s (i : Nat)) (fun _ s => some s) l 20 11 pc11 (fun x hx => pc11_len x (hb x hx)) ?_ ?_ (Ev.now _)
  · intro k s i hi h20 hs
    have hx := hb _ (getD_mem0 l 0 hi)
    have hm : Int.tmod (rd l (i : Nat)) 16 = l.getD i 0 % 16 := by rw [rd_at, tmod_pos _ hx.1]
    have hp : rdOf ByteArray.empty tab11 (l.getD i 0 % 16) = mkB (pc11 (l.getD i 0)) := Pall.ba_ext rfl
    have hpl := pc11_len _ hx
    simp only [wicketmanlaw11_Value.l0]
    rw [if_pos (by omega), if_pos (by omega), if_pos (by omega), hm, if_pos (by omega), if_pos (by show _ < (16 : Int); omega), hp, if_pos (by rw [mkB_size]; omega), wrap_id (by omega) (by omega)]
    rfl
  · intro k s i hil hi hstop hs
    simp only [wicketmanlaw11_Value.l0]
    by_cases h : (i : Int) < (l.length : Int)
    · rw [if_pos h, if_neg (by omega)]
    · rw [if_neg h]
/-- a sum of sizes -/
def sumS (l : List ByteArray) : Nat := (l.map (·.size)).sum
theorem size_le_sum (l : List ByteArray) : ∀ x ∈ l, x.size ≤ sumS l := by
  unfold sumS
  induction l with
  | nil => intro x hx; cases hx
  | cons a l ih =>
    intro x hx
    rw [List.map_cons, List.sum_cons]
    rcases List.mem_cons.1 hx with rfl | h
    · omega
    · have := ih x h; omega
theorem long_ev (l : List ByteArray) (hl : l.length ≤ 10) (hs : ∀ x ∈ l, x.size ≤ 140737488351232) : Ev (fun k => wicketmanlaw11_long.f k l) (decide (400 < sumS l)) := by
  have main : ∀ d i (n : Nat), l.length - i = d → i ≤ l.length → n ≤ i * 140737488351232 → Ev (fun k => wicketmanlaw11_long.l0 k l (n : Nat) (i : Nat)) (decide (400 < n + sumS (l.drop i))) := by
    intro d
    induction d with
    | zero =>
      intro i n hd hi hn
      rw [List.drop_of_length_le (by omega)]
      refine Ev.step (f := fun _ => some (decide (400 < n + sumS []))) (fun k => ?_) (Ev.now _)
      simp only [wicketmanlaw11_long.l0]
      rw [if_neg (by omega)]
      congr 1
      rw [decide_eq_decide]
      show (n : Int) > 400 ↔ 400 < n + 0
      omega
    | succ d ih =>
      intro i n hd hi hn
      have hlt : i < l.length := by omega
      have hx := hs _ (getD_in l ByteArray.empty hlt)
      have h := ih (i + 1) (n + (l.getD i ByteArray.empty).size) (by omega) (by omega) (by omega)
      have e : n + (l.getD i ByteArray.empty).size + sumS (l.drop (i + 1)) = n + sumS (l.drop i) := by
        rw [drop_get l ByteArray.empty hlt]; unfold sumS; rw [List.map_cons, List.sum_cons]; omega
      rw [e] at h
      refine Ev.step (fun k => ?_) h
      simp only [wicketmanlaw11_long.l0]
      rw [if_pos (by omega), if_pos (by omega), rdB, wrap_id (n := (i : Int) + 1) (by omega) (by omega), wrap_id (by omega) (by omega)]
      rfl
  have h := main _ 0 0 rfl (by omega) (by omega)
  rw [List.drop_zero, Nat.zero_add] at h
  exact h
end Go.Proofs.YtipbgnhhmgljnaaDoor.Pl

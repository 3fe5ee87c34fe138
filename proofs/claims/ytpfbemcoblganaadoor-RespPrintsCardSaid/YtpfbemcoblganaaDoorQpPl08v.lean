/-
  The plain laws of layer 8, the rest: values, fields, names that are the same, lines.
-/
import Derived.Test.YtpfbemcoblganaaDoorQpPlb
import Derived.Test.YtpfbemcoblganaaDoorQpPall6
import Derived.Test.YtpfbemcoblganaaDoorQpPall7
import Derived.Test.YtpfbemcoblganaaDoorQpPall28
import Derived.Test.YtpfbemcoblganaaDoorQpPall8
import Derived.Test.YtpfbemcoblganaaDoorQpPall35
import Derived.Test.YtpfbemcoblganaaDoorQpPall2
import Derived.Test.YtpfbemcoblganaaDoorQpPall14
namespace Go.Proofs.YtpfbemcoblganaaDoor.Pall
open Go.RowKit Go.Proofs.YtpfbemcoblganaaDoorW.PrintWords Go.Proofs.YtpfbemcoblganaaDoorW.PrintLast Go.Proofs.YtpfbemcoblganaaDoor.Pl
set_option linter.unusedVariables false
set_option linter.unusedSimpArgs false
def blk (c : UInt8) : Bool := [(32 : UInt8), 9].contains c
theorem refBlank (c : UInt8) : wicketmanref08_blank.f c.toNat = some (blk c) := by
  have h := u8_all (fun c => wicketmanref08_blank.f c.toNat == some (blk c)) (by decide +kernel) c
  simpa using h
theorem trimL_tRL (l : List UInt8) : trimL l = tR blk (tL blk l) := by rw [← tLR]; rfl
theorem refTrim1 : ∀ (n : Nat) (s : ByteArray), s.size = n → n ≤ 9223372036854775806 → Ev (fun k => wicketmanref08_trim.l1 k s) (mkB (tR blk s.data.toList)) := by
  intro n
  induction n with
  | zero =>
    intro s hs _
    refine Ev.step (f := fun _ => some s) (fun k => ?_) ?_
    · simp only [wicketmanref08_trim.l1]; rw [if_neg (by omega)]
    · have : s.data.toList = [] := List.eq_nil_of_length_eq_zero hs
      rw [this, tR_nil]
      have : s = mkB [] := ba_ext this
      rw [this]; exact Ev.now _
  | succ n ih =>
    intro s hs hn
    obtain ⟨m, a, hl⟩ : ∃ m a, s.data.toList = m ++ [a] := by
      rcases List.eq_nil_or_concat s.data.toList with h | ⟨m, a, h⟩
      · rw [← len_data, h] at hs; simp at hs
      · exact ⟨m, a, by rw [h, List.concat_eq_append]⟩
    have hm : m.length = n := by have := len_data s; rw [hl] at this; simp at this; omega
    have hb : bt s n = (a.toNat : Int) := by rw [bt_nat s n (by omega), hl, ← hm]; simp
    refine Ev.step (f := fun k => (wicketmanref08_blank.f (bt s n)).bind fun t => if t = true then wicketmanref08_trim.l1 k (s.extract 0 n) else some s) (fun k => ?_) ?_
    · simp only [wicketmanref08_trim.l1]
      rw [if_pos (by omega), wrap_id (by omega) (by omega), show ((s.size : Int) - 1) = (n : Int) by omega, if_pos (by omega), if_pos (by omega), if_pos (by omega : (n : Int) ≤ s.size), Int.toNat_natCast]
    · rw [hb, refBlank, hl, tR_last]
      simp only [Option.bind_some]
      cases blk a with
      | true =>
        rw [ext_to, hl, ← hm, List.take_left]
        have := ih (mkB m) (by rw [mkB_size, hm]) (by omega)
        rw [mkB_list] at this
        simpa using this
      | false => rw [← hl]; simp only [Bool.false_eq_true, if_false]; rw [mkB_self]; exact Ev.now _
theorem refTrim : ∀ (n : Nat) (s : ByteArray), s.size = n → n ≤ 9223372036854775806 → Ev (fun k => wicketmanref08_trim.l0 k s) (mkB (trimL s.data.toList)) := by
  intro n
  induction n with
  | zero =>
    intro s hs hn
    rw [trimL_tRL]
    have e : s.data.toList = [] := List.eq_nil_of_length_eq_zero hs
    refine Ev.step (f := fun k => wicketmanref08_trim.j1 k s) (fun k => ?_) (Ev.step (f := fun k => wicketmanref08_trim.l1 k s) (fun k => by simp only [wicketmanref08_trim.j1]) ?_)
    · simp only [wicketmanref08_trim.l0]; rw [if_neg (by omega)]
    · have := refTrim1 0 s hs (by omega)
      rw [e] at this ⊢; exact this
  | succ n ih =>
    intro s hs hn
    obtain ⟨a, m, hl⟩ : ∃ a m, s.data.toList = a :: m := by
      cases h : s.data.toList with
      | nil => rw [← len_data, h] at hs; simp at hs
      | cons a m => exact ⟨a, m, rfl⟩
    have hb : bt s 0 = (a.toNat : Int) := by rw [bt_0 s (by omega), hl]; rfl
    refine Ev.step (f := fun k => (wicketmanref08_blank.f (bt s 0)).bind fun t => if t = true then wicketmanref08_trim.l0 k (s.extract 1 s.size) else wicketmanref08_trim.j1 k s) (fun k => ?_) ?_
    · simp only [wicketmanref08_trim.l0]
      rw [if_pos (by omega), if_pos (by omega), if_pos (by omega : (1 : Int) ≤ s.size)]
    · rw [hb, refBlank]
      simp only [Option.bind_some]
      cases h : blk a with
      | true =>
        simp only [if_true]
        rw [ext_from, hl]
        have := ih (mkB m) (by rw [mkB_size]; have := len_data s; rw [hl] at this; simp at this; omega) (by omega)
        rw [mkB_list] at this
        have e : trimL (a :: m) = trimL m := by rw [trimL_tRL, trimL_tRL]; congr 1; exact List.dropWhile_cons_of_pos h
        rw [e]; exact this
      | false =>
        simp only [Bool.false_eq_true, if_false]
        refine Ev.step (f := fun k => wicketmanref08_trim.l1 k s) (fun k => by simp only [wicketmanref08_trim.j1]) ?_
        have := refTrim1 (n + 1) s hs hn
        have e : trimL s.data.toList = tR blk s.data.toList := by rw [trimL_tRL, hl]; congr 1; exact List.dropWhile_cons_of_neg (by rw [h]; decide)
        rw [e]; exact this
def valEnd (l : List UInt8) : Bool := l.isEmpty || (!blk (l.getD 0 0) && !blk (l.getD (l.length - 1) 0))
theorem refVal_byte (c : UInt8) : (if blk c = true then true else if (c.toNat : Int) < 33 then false else if (c.toNat : Int) = 127 then false else true) = valB c := by
  have h := u8_all (fun c => (if blk c = true then true else if (c.toNat : Int) < 33 then false else if (c.toNat : Int) = 127 then false else true) == valB c) (by decide +kernel) c
  simpa using h
theorem refVal_end (s : ByteArray) (hs : s.size ≤ 9223372036854775806) : (if (s.size : Int) = 0 then some true else if 0 < (s.size : Int) then (wicketmanref08_blank.f (bt s 0)).bind fun t230 => (if t230 = true then (some false) else (if 0 ≤ (wrap64 ((s.size : Int) - 1)) then (if (wrap64 ((s.size : Int) - 1)) < (s.size : Int) then ((wicketmanref08_blank.f (bt s (wrap64 ((s.size : Int) - 1)))).bind fun t231 => (some (!t231))) else (none)) else (none))) else none) = some (valEnd s.data.toList) := by
  by_cases h0 : s.size = 0
  · rw [if_pos (by omega)]
    have : s.data.toList = [] := List.eq_nil_of_length_eq_zero h0
    simp [valEnd, this]
  · rw [if_neg (by omega), if_pos (by omega), bt_0 s (by omega), refBlank]
    simp only [Option.bind_some]
    have he : s.data.toList.isEmpty = false := by
      cases h : s.data.toList with
      | nil => rw [← len_data, h] at h0; simp at h0
      | cons _ _ => rfl
    unfold valEnd
    rw [he, len_data, Bool.false_or]
    cases blk (s.data.toList.getD 0 0) with
    | true => rw [if_pos rfl]; rfl
    | false =>
      rw [if_neg (by decide), wrap_id (by omega) (by omega), if_pos (by omega), if_pos (by omega), show ((s.size : Int) - 1) = ((s.size - 1 : Nat) : Int) by omega, bt_nat s _ (by omega), refBlank]
      rfl
theorem refValue_loop (s : ByteArray) (hs : s.size ≤ 9223372036854775806) : ∀ d i, s.size - i = d → i ≤ s.size →
    Ev (fun k => wicketmanref08_Value.l0 k s i) (((s.data.toList.drop i).all valB) && valEnd s.data.toList) := by
  intro d
  induction d with
  | zero =>
    intro i hd hi
    obtain rfl : i = s.size := by omega
    refine Ev.step (f := fun _ => some (valEnd s.data.toList)) (fun k => ?_) ?_
    · simp only [wicketmanref08_Value.l0]
      rw [if_neg (by omega), refVal_end s hs]
    · rw [List.drop_of_length_le (by rw [len_data]; exact Nat.le_refl _)]; exact Ev.now _
  | succ d ih =>
    intro i hd hi
    have hlt : i < s.size := by omega
    have hdrop : s.data.toList.drop i = s.data.toList.getD i 0 :: s.data.toList.drop (i + 1) := by
      rw [List.drop_eq_getElem_cons (by rw [len_data]; exact hlt), List.getD, List.getElem?_eq_getElem (by rw [len_data]; exact hlt)]; rfl
    rw [hdrop, List.all_cons, ← refVal_byte]
    refine Ev.step (f := fun k => (wicketmanref08_blank.f (bt s i)).bind fun t => if t = true then wicketmanref08_Value.l0 k s (wrap64 (i + 1)) else if (bt s i) < 33 then some false else if (bt s i) = 127 then some false else wicketmanref08_Value.l0 k s (wrap64 (i + 1))) (fun k => ?_) ?_
    · simp only [wicketmanref08_Value.l0]; rw [if_pos (by omega), if_pos (by omega)]
    · rw [bt_nat s i hlt, refBlank, wrap_id (by omega) (by omega)]
      simp only [Option.bind_some]
      have := ih (i + 1) (by omega) (by omega)
      by_cases h1 : blk (s.data.toList.getD i 0) = true
      · simp only [if_pos h1, Bool.true_and]; exact this
      · simp only [if_neg h1]
        by_cases h2 : ((s.data.toList.getD i 0).toNat : Int) < 33
        · simp only [if_pos h2, Bool.false_and]; exact Ev.now _
        · simp only [if_neg h2]
          by_cases h3 : ((s.data.toList.getD i 0).toNat : Int) = 127
          · simp only [if_pos h3, Bool.false_and]; exact Ev.now _
          · simp only [if_neg h3, Bool.true_and]; exact this
theorem valEnd_trim (l : List UInt8) : valEnd l = (l == trimL l) := by
  have h := trim_same blk l
  have e : trimL l = tL blk (tR blk l) := rfl
  rw [Bool.eq_iff_iff, beq_iff_eq, e]
  constructor
  · intro hv
    apply Eq.symm; apply h.2
    cases l with
    | nil => exact ⟨(fun _ ha => by cases ha), (fun _ ha => by cases ha)⟩
    | cons a l =>
      simp only [valEnd, List.isEmpty_cons, Bool.false_or, Bool.and_eq_true, Bool.not_eq_true'] at hv
      refine ⟨fun b hb => ?_, fun b hb => ?_⟩
      · injection hb with hb; subst hb; exact hv.1
      · have h2 := hv.2
        rw [List.getLast?_eq_getElem?] at hb
        rw [List.getD, hb] at h2; exact h2
  · intro he
    obtain ⟨h1, h2⟩ := h.1 he.symm
    cases l with
    | nil => rfl
    | cons a l =>
      simp only [valEnd, List.isEmpty_cons, Bool.false_or, Bool.and_eq_true, Bool.not_eq_true']
      refine ⟨h1 a rfl, ?_⟩
      apply h2
      rw [List.getLast?_eq_getElem?, List.getD]
      have : (a :: l).length - 1 < (a :: l).length := by simp
      rw [List.getElem?_eq_getElem this]; rfl
theorem refValue (s : ByteArray) (hs : s.size ≤ 9223372036854775806) : Ev (fun k => wicketmanref08_Value.f k s) (valL s.data.toList) := by
  have h := refValue_loop s hs s.size 0 (by omega) (by omega)
  rw [List.drop_zero, valEnd_trim] at h
  exact h
def none3 (e : Int) : ByteArray × ByteArray × Int := (⟨#[]⟩, ⟨#[]⟩, e)
def fieldS (s : ByteArray) : ByteArray × ByteArray × Int :=
  if (s.size : Int) > 2000 then none3 3
  else if pos s.data.toList 58 = s.data.toList.length then none3 12
  else if (tokL (s.data.toList.take (pos s.data.toList 58)) && valL (trimL (s.data.toList.drop (pos s.data.toList 58 + 1)))) = true then
    (mkB (s.data.toList.take (pos s.data.toList 58)), mkB (trimL (s.data.toList.drop (pos s.data.toList 58 + 1))), 0)
  else none3 12
theorem trimL_le (l : List UInt8) : (trimL l).length ≤ l.length := by
  rw [trimL_tRL]; exact Nat.le_trans (tR_le _ _) (tL_le _ _)
theorem headField (s : ByteArray) : head_Field.f s = some (fieldS s) := by
  unfold head_Field.f fieldS
  by_cases hl : (s.size : Int) > 2000
  · rw [if_pos hl, if_pos hl]; rfl
  · rw [if_neg hl, if_neg hl]
    have hc : strings_Cut.f s (⟨#[58]⟩ : ByteArray) = some (⟨(Lib.cut s.data.toList [58]).1.toArray⟩, ⟨(Lib.cut s.data.toList [58]).2.1.toArray⟩, (Lib.cut s.data.toList [58]).2.2) := by
      unfold strings_Cut.f; rw [if_pos (by omega)]
    rw [hc]
    simp only [Option.bind_some]
    rw [cut_one]
    by_cases hp : pos s.data.toList 58 = s.data.toList.length
    · simp only [if_pos hp]
      have ht : strings_Trim.f (⟨([] : List UInt8).toArray⟩ : ByteArray) (⟨#[32, 9]⟩ : ByteArray) = some ⟨(Lib.trimS [] [32, 9]).toArray⟩ := by
        unfold strings_Trim.f; rw [if_pos (by decide)]
      rw [ht]
      simp [none3]
    · simp only [if_neg hp]
      have hle : (s.data.toList.drop (pos s.data.toList 58 + 1)).length ≤ 2000 := by rw [List.length_drop, len_data]; omega
      have ht : strings_Trim.f (⟨(s.data.toList.drop (pos s.data.toList 58 + 1)).toArray⟩ : ByteArray) (⟨#[32, 9]⟩ : ByteArray) = some (mkB (trimL (s.data.toList.drop (pos s.data.toList 58 + 1)))) := by
        unfold strings_Trim.f; rw [if_pos ⟨by have := mkB_size (s.data.toList.drop (pos s.data.toList 58 + 1)); show (mkB _).size ≤ _; omega, by decide, by decide⟩]; rfl
      rw [ht]
      simp only [Option.bind_some, if_true]
      have h1 : head_Token.f (⟨(s.data.toList.take (pos s.data.toList 58)).toArray⟩ : ByteArray) = some (tokL (s.data.toList.take (pos s.data.toList 58))) := rfl
      have h2 : head_Value.f (mkB (trimL (s.data.toList.drop (pos s.data.toList 58 + 1)))) = some (valL (trimL (s.data.toList.drop (pos s.data.toList 58 + 1)))) := by
        unfold head_Value.f; rw [if_pos (by rw [mkB_size]; have := trimL_le (s.data.toList.drop (pos s.data.toList 58 + 1)); omega)]; rfl
      rw [h1, h2]
      simp only [Option.bind_some]
      cases tokL (s.data.toList.take (pos s.data.toList 58)) <;> cases valL (trimL (s.data.toList.drop (pos s.data.toList 58 + 1))) <;> simp [none3, mkB]
theorem refField_j (s : ByteArray) (hs : s.size ≤ 2000) : Ev (fun k => wicketmanref08_Field.j1 k s (pos s.data.toList 58 : Nat)) (fieldS s) := by
  have hle := pos_le s.data.toList 58
  rw [len_data] at hle
  unfold fieldS
  rw [if_neg (by omega)]
  by_cases hp : pos s.data.toList 58 = s.data.toList.length
  · rw [if_pos hp]
    refine Ev.step (f := fun _ => some (none3 12)) (fun k => ?_) (Ev.now _)
    simp only [wicketmanref08_Field.j1]
    rw [if_pos (by rw [hp, len_data])]; rfl
  · rw [if_neg hp]
    rw [len_data] at hp
    generalize hpp : pos s.data.toList 58 = p at *
    have hd := trimL_le (s.data.toList.drop (p + 1))
    rw [List.length_drop, len_data] at hd
    have htk : (s.data.toList.take p).length ≤ s.size := by rw [List.length_take, len_data]; omega
    refine Ev.step (f := fun k => (wicketmanref08_trim.f k (mkB (s.data.toList.drop (p + 1)))).bind fun t235 => ((wicketmanref08_Token.f k (mkB (s.data.toList.take p))).bind fun t237 => (if t237 = true then ((wicketmanref08_Value.f k t235).bind fun t238 => (if t238 = true then some (mkB (s.data.toList.take p), t235, 0) else some (none3 12))) else some (none3 12)))) (fun k => ?_) ?_
    · simp only [wicketmanref08_Field.j1]
      rw [if_neg (by omega), if_pos (by omega), if_pos (by omega : (p : Int) ≤ s.size), wrap_id (by omega) (by omega), if_pos (by omega), if_pos (by omega : (p : Int) + 1 ≤ s.size), show ((p : Int) + 1).toNat = p + 1 by omega, ext_from, Int.toNat_natCast, ext_to]
      rfl
    · have h1 := refTrim _ (mkB (s.data.toList.drop (p + 1))) rfl (by rw [mkB_size, List.length_drop, len_data]; omega)
      refine Ev.bind h1 ?_
      have h2 := refToken (mkB (s.data.toList.take p)) (by rw [mkB_size]; omega)
      refine Ev.bind h2 ?_
      rw [mkB_list, mkB_list]
      cases tokL (s.data.toList.take p) with
      | false => simp only [Bool.false_eq_true, if_false, Bool.false_and]; exact Ev.now _
      | true =>
        simp only [if_true, Bool.true_and]
        have h3 := refValue (mkB (trimL (s.data.toList.drop (p + 1)))) (by rw [mkB_size]; omega)
        rw [mkB_list] at h3
        refine Ev.bind h3 ?_
        cases valL (trimL (s.data.toList.drop (p + 1))) with
        | false => simp only [Bool.false_eq_true, if_false]; exact Ev.now _
        | true => simp only [if_true]; exact Ev.now _
theorem refField_l (s : ByteArray) (hs : s.size ≤ 2000) : ∀ d i, pos s.data.toList 58 - i = d → i ≤ pos s.data.toList 58 → Ev (fun k => wicketmanref08_Field.l0 k s (i : Nat)) (fieldS s) := by
  have hle := pos_le s.data.toList 58
  rw [len_data] at hle
  intro d
  induction d with
  | zero =>
    intro i hd hi
    obtain rfl : i = pos s.data.toList 58 := by omega
    refine Ev.step (f := fun k => wicketmanref08_Field.j1 k s (pos s.data.toList 58 : Nat)) (fun k => ?_) (refField_j s hs)
    simp only [wicketmanref08_Field.l0]
    by_cases hlt : pos s.data.toList 58 < s.size
    · rw [if_pos (by omega), if_pos (by omega), bt_nat s _ hlt, pos_at (by rw [len_data]; exact hlt), if_pos (by decide)]
    · rw [if_neg (by omega)]
  | succ d ih =>
    intro i hd hi
    refine Ev.step (f := fun k => wicketmanref08_Field.l0 k s ((i + 1 : Nat) : Int)) (fun k => ?_) (ih (i + 1) (by omega) (by omega))
    have hne := pos_before (l := s.data.toList) (c := 58) i (by omega)
    simp only [wicketmanref08_Field.l0]
    rw [if_pos (by omega), if_pos (by omega), bt_nat s _ (by omega), if_neg (by intro h; apply hne; apply UInt8.toNat_inj.1; exact Int.ofNat.inj h), wrap_id (by omega) (by omega)]
    rfl
theorem refField (s : ByteArray) : Ev (fun k => wicketmanref08_Field.f k s) (fieldS s) := by
  by_cases hl : (s.size : Int) > 2000
  · refine Ev.congr (f := fun _ => some (fieldS s)) (fun k => ?_) (Ev.now _)
    unfold wicketmanref08_Field.f fieldS; rw [if_pos hl, if_pos hl]; rfl
  · refine Ev.congr (f := fun k => wicketmanref08_Field.l0 k s ((0 : Nat) : Int)) (fun k => ?_) (refField_l s (by omega) _ 0 rfl (by omega))
    unfold wicketmanref08_Field.f; rw [if_neg hl]; rfl
theorem refPrint (n v : ByteArray) (hn : n.size ≤ 140737488351232) (hv : v.size ≤ 140737488351232) : Ev (fun k => wicketmanref08_Print.f k n v) (printS n v) := by
  refine Ev.congr (f := fun k => (wicketmanref08_Token.f k n).bind fun t => if t = true then (wicketmanref08_Value.f k v).bind fun t => wicketmanref08_Print.j0 k (!t) n v else wicketmanref08_Print.j0 k true n v) (fun k => rfl) ?_
  refine Ev.bind (refToken n (by omega)) ?_
  cases ht : tokL n.data.toList with
  | false =>
    simp only [Bool.false_eq_true, if_false]
    rw [printS_no n v (by rw [ht]; rfl)]
    refine Ev.step (f := fun _ => some (⟨#[]⟩, 12)) (fun k => ?_) (Ev.now _)
    simp only [wicketmanref08_Print.j0]; rfl
  | true =>
    simp only [if_true]
    refine Ev.bind (refValue v (by omega)) ?_
    cases hl : valL v.data.toList with
    | false =>
      rw [printS_no n v (by rw [hl]; simp)]
      refine Ev.step (f := fun _ => some (⟨#[]⟩, 12)) (fun k => ?_) (Ev.now _)
      simp only [wicketmanref08_Print.j0]; rfl
    | true =>
      have hsz := printS_size n v
      refine Ev.step (f := fun _ => some (printS n v)) (fun k => ?_) (Ev.now _)
      simp only [wicketmanref08_Print.j0]
      rw [if_neg (by decide), if_pos (by omega), if_pos (by rw [ByteArray.size_append]; show n.size + 2 + v.size ≤ _; omega)]
      by_cases h20 : (2000 : Int) < n.size + 2 + v.size
      · rw [printS_long n v ht hl h20, if_pos (by rw [hsz]; omega)]
      · rw [printS_yes n v ht hl h20, if_neg (by rw [hsz]; omega)]
def sameS (a b : ByteArray) : Bool := smallL a.data.toList == smallL b.data.toList
theorem headSame (a b : ByteArray) (ha : a.size ≤ 140737488351232) (hb : b.size ≤ 140737488351232) : head_Same.f a b = some (sameS a b) := by
  unfold head_Same.f head_small.f
  rw [if_pos ha, if_pos hb]
  simp only [Option.bind_some]
  rw [ByteArray.toList_eq, ByteArray.toList_eq]
  rfl
theorem field_any (s : ByteArray) (w : World) (hS : Sh w) : Calls Tryd.prog 59 #[.string s] w fun e w' => e = .returned (.tuple #[.agg #[.string (fieldS s).1, .string (fieldS s).2.1], .int .u16 (fieldS s).2.2]) ∧ Below w.heap.size w w' :=
  head_Field.calls s _ _ _ w hS (headField s)
theorem printS_err (n v : ByteArray) : 0 ≤ (printS n v).2 ∧ (printS n v).2 ≤ 12 := by
  unfold printS
  repeat' split
  all_goals first | decide | exact ⟨Int.le_refl 0, (by decide : (0 : Int) ≤ 12)⟩
/-- the pieces of a line, as choices say -/
def tab08 : List ByteArray := [⟨#[72, 111, 115, 116]⟩, ⟨#[67, 111, 111, 107, 105, 101]⟩, ⟨#[58]⟩, ⟨#[58, 32]⟩, ⟨#[32]⟩, ⟨#[9]⟩, ⟨#[97]⟩, ⟨#[67, 111, 110, 116, 101, 110, 116, 45, 76, 101, 110, 103, 116, 104]⟩, ⟨#[53]⟩, ⟨#[95, 95, 72, 111, 115, 116, 45, 105, 100, 61]⟩, ⟨#[59, 32]⟩, ⟨#[0]⟩, ⟨#[127]⟩, ⟨#[233]⟩, ⟨#[40]⟩, ⟨#[120, 61, 49]⟩, ⟨#[34]⟩, ⟨#[44]⟩]
def pc08 (n : Int) : List UInt8 := (rdOf ByteArray.empty tab08 (n % 18)).data.toList
theorem pc08_len (n : Int) (h : 0 ≤ n ∧ n ≤ 255) : (pc08 n).length ≤ 14 := by
  have hall : ((List.range 256).all fun k => decide ((pc08 (k : Int)).length ≤ 14)) = true := by decide +kernel
  obtain ⟨k, rfl⟩ : ∃ k : Nat, n = k := ⟨n.toNat, by omega⟩
  simpa using List.all_eq_true.1 hall k (List.mem_range.2 (by omega))
def lineS (l : List Int) : ByteArray := mkB ((l.take 30).flatMap pc08)
theorem flat_len (l : List Int) (hb : ∀ x ∈ l, 0 ≤ x ∧ x ≤ 255) : (l.flatMap pc08).length ≤ 14 * l.length := by
  induction l with
  | nil => simp
  | cons a l ih =>
    have h1 := pc08_len a (hb a (List.mem_cons_self ..))
    have h2 := ih (fun x hx => hb x (List.mem_cons_of_mem _ hx))
    rw [List.flatMap_cons, List.length_append, List.length_cons]; omega
theorem lineS_size (l : List Int) (hb : ∀ x ∈ l, 0 ≤ x ∧ x ≤ 255) : (lineS l).size ≤ 420 := by
  unfold lineS; rw [mkB_size]
  have := flat_len (l.take 30) (fun x hx => hb x (List.mem_of_mem_take hx))
  rw [List.length_take] at this; omega
theorem line_loop (l : List Int) (hb : ∀ x ∈ l, 0 ≤ x ∧ x ≤ 255) (hl : l.length ≤ 9223372036854775806) : ∀ d i (s : ByteArray), 30 - i = d → i ≤ 30 → i ≤ l.length → s.size ≤ 14 * i →
    Ev (fun k => wicketmanlaw08_Line.l0 k l tab08 s (i : Nat)) (s ++ mkB (((l.take 30).drop i).flatMap pc08)) := by
  intro d
  induction d with
  | zero =>
    intro i s hd hi hil hs
    obtain rfl : i = 30 := by omega
    refine Ev.step (f := fun _ => some s) (fun k => ?_) ?_
    · simp only [wicketmanlaw08_Line.l0]
      by_cases h : ((30 : Nat) : Int) < (l.length : Int)
      · rw [if_pos h, if_neg (by decide)]
      · rw [if_neg h]
    · rw [List.drop_of_length_le (by rw [List.length_take]; omega)]
      have : s ++ mkB (List.flatMap pc08 []) = s := ba_ext (by simp [mkB])
      rw [this]; exact Ev.now _
  | succ d ih =>
    intro i s hd hi hil hs
    by_cases hlt : i < l.length
    · have hx := hb (l.getD i 0) (by rw [List.getD, List.getElem?_eq_getElem hlt]; exact List.getElem_mem hlt)
      have hdrop : (l.take 30).drop i = l.getD i 0 :: (l.take 30).drop (i + 1) := by
        rw [List.drop_eq_getElem_cons (by rw [List.length_take]; omega), List.getElem_take, List.getD, List.getElem?_eq_getElem hlt]; rfl
      have hm : Int.tmod (wrap64 (rd l (i : Nat))) (tab08.length : Int) = l.getD i 0 % 18 := by
        unfold rd; rw [Int.toNat_natCast, wrap_small _ hx.1 (by omega), Int.tmod_eq_emod_of_nonneg hx.1]; rfl
      have hpl := pc08_len (l.getD i 0) hx
      have hp : rdOf ByteArray.empty tab08 (l.getD i 0 % 18) = mkB (pc08 (l.getD i 0)) := ba_ext rfl
      refine Ev.step (f := fun k => wicketmanlaw08_Line.l0 k l tab08 (s ++ mkB (pc08 (l.getD i 0))) ((i + 1 : Nat) : Int)) (fun k => ?_) ?_
      · simp only [wicketmanlaw08_Line.l0]
        rw [if_pos (by omega), if_pos (by omega), if_pos (by omega), if_neg (by decide), hm, if_pos (by omega), if_pos (by show _ < (18 : Int); omega), hp, if_pos (by rw [mkB_size]; omega), wrap_id (by omega) (by omega)]
        rfl
      · have := ih (i + 1) (s ++ mkB (pc08 (l.getD i 0))) (by omega) (by omega) (by omega) (by rw [ByteArray.size_append, mkB_size]; omega)
        rw [hdrop, List.flatMap_cons]
        have e : s ++ mkB (pc08 (l.getD i 0) ++ List.flatMap pc08 ((l.take 30).drop (i + 1))) = s ++ mkB (pc08 (l.getD i 0)) ++ mkB (List.flatMap pc08 ((l.take 30).drop (i + 1))) := ba_ext (by simp [mkB])
        rw [e]; exact this
    · refine Ev.step (f := fun _ => some s) (fun k => ?_) ?_
      · simp only [wicketmanlaw08_Line.l0]; rw [if_neg (by omega)]
      · rw [List.drop_of_length_le (by rw [List.length_take]; omega)]
        have : s ++ mkB (List.flatMap pc08 []) = s := ba_ext (by simp [mkB])
        rw [this]; exact Ev.now _
theorem line_ev (l : List Int) (hb : ∀ x ∈ l, 0 ≤ x ∧ x ≤ 255) (hl : l.length ≤ 9223372036854775806) : Ev (fun k => wicketmanlaw08_Line.f k l) (lineS l) := by
  have h := line_loop l hb hl 30 0 (⟨#[]⟩ : ByteArray) rfl (by omega) (by omega) (Nat.le_refl _)
  have e : (⟨#[]⟩ : ByteArray) ++ mkB (((l.take 30).drop 0).flatMap pc08) = lineS l := ba_ext (by simp [mkB, lineS])
  rw [e] at h; exact h
end Go.Proofs.YtpfbemcoblganaaDoor.Pall

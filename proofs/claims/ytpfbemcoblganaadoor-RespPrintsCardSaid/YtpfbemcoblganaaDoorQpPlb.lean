/-
  Plain facts on lists of bytes: what is cut off at both ends, and where a text is cut.
  The plain laws of layer 8: what the document's answer (wicketmanref08) computes, and what the program computes, are the same plain functions on bytes.
  Loops that build a text out of choices: one plain law.
-/
import Derived.Lib.SlTrimSet
import Derived.Lib.IndexLaws
import Derived.Lib.IndexMore
import Derived.Lib.IndexBytes
import Derived.Test.YtpfbemcoblganaaDoorQpPall5
namespace Go.Proofs.YtpfbemcoblganaaDoor.Pl
set_option linter.unusedVariables false
set_option linter.unusedSimpArgs false
section
variable {α : Type} (p : α → Bool)
def tL (l : List α) : List α := l.dropWhile p
def tR (l : List α) : List α := (l.reverse.dropWhile p).reverse
theorem tR_nil : tR p ([] : List α) = [] := rfl
theorem dropWhile_all {l : List α} (h : l.all p = true) : l.dropWhile p = [] := by
  induction l with
  | nil => rfl
  | cons a l ih =>
    simp only [List.all_cons, Bool.and_eq_true] at h
    rw [List.dropWhile_cons_of_pos h.1, ih h.2]
theorem dropWhile_append_all {l m : List α} (h : l.all p = true) : (l ++ m).dropWhile p = m.dropWhile p := by
  induction l with
  | nil => rfl
  | cons a l ih =>
    simp only [List.all_cons, Bool.and_eq_true] at h
    rw [List.cons_append, List.dropWhile_cons_of_pos h.1, ih h.2]
theorem dropWhile_append_not {l m : List α} (h : l.all p = false) : (l ++ m).dropWhile p = l.dropWhile p ++ m := by
  induction l with
  | nil => simp at h
  | cons a l ih =>
    by_cases ha : p a = true
    · rw [List.cons_append, List.dropWhile_cons_of_pos ha, List.dropWhile_cons_of_pos ha]
      apply ih; simpa [ha] using h
    · rw [List.cons_append, List.dropWhile_cons_of_neg ha, List.dropWhile_cons_of_neg ha]; rfl
theorem tR_cons (a : α) (l : List α) : tR p (a :: l) = if l.all p then (if p a then [] else [a]) else a :: tR p l := by
  unfold tR
  rw [List.reverse_cons]
  cases h : l.all p with
  | true =>
    rw [dropWhile_append_all p (by rw [List.all_reverse]; exact h)]
    by_cases ha : p a = true
    · rw [List.dropWhile_cons_of_pos ha, if_pos rfl, if_pos ha]; rfl
    · rw [List.dropWhile_cons_of_neg ha, if_pos rfl, if_neg ha]; rfl
  | false =>
    rw [dropWhile_append_not p (by rw [List.all_reverse]; exact h), if_neg (by decide)]
    simp
theorem tR_all {l : List α} (h : l.all p = true) : tR p l = [] := by
  unfold tR; rw [dropWhile_all p (by rw [List.all_reverse]; exact h)]; rfl
theorem tLR (l : List α) : tL p (tR p l) = tR p (tL p l) := by
  induction l with
  | nil => rfl
  | cons a l ih =>
    by_cases ha : p a = true
    · have e : tL p (a :: l) = tL p l := List.dropWhile_cons_of_pos ha
      rw [e, ← ih, tR_cons]
      cases h : l.all p with
      | true => rw [if_pos rfl, if_pos ha, tR_all p h]
      | false => rw [if_neg (by decide)]; exact List.dropWhile_cons_of_pos ha
    · have e : tL p (a :: l) = a :: l := List.dropWhile_cons_of_neg ha
      rw [e, tR_cons]
      cases h : l.all p with
      | true => rw [if_pos rfl, if_neg ha]; exact List.dropWhile_cons_of_neg ha
      | false => rw [if_neg (by decide)]; exact List.dropWhile_cons_of_neg ha
theorem tL_le (l : List α) : (tL p l).length ≤ l.length := (List.dropWhile_suffix p).length_le
theorem tR_le (l : List α) : (tR p l).length ≤ l.length := by
  unfold tR; rw [List.length_reverse]; have := (List.dropWhile_suffix (l := l.reverse) p).length_le; simpa using this
theorem tR_last {l : List α} (a : α) : tR p (l ++ [a]) = if p a then tR p l else l ++ [a] := by
  unfold tR
  rw [List.reverse_append]
  by_cases ha : p a = true
  · rw [if_pos ha]; show ((a :: l.reverse).dropWhile p).reverse = _; rw [List.dropWhile_cons_of_pos ha]
  · rw [if_neg ha]; show ((a :: l.reverse).dropWhile p).reverse = _; rw [List.dropWhile_cons_of_neg ha]; simp
/-- Nothing is cut off just where neither end is such a thing. -/
theorem trim_same (l : List α) : (tL p (tR p l) = l) ↔ (∀ a, l.head? = some a → p a = false) ∧ (∀ a, l.getLast? = some a → p a = false) := by
  constructor
  · intro h
    constructor
    · intro a ha
      cases l with
      | nil => cases ha
      | cons b l =>
        injection ha with e; subst e
        cases hb : p b with
        | false => rfl
        | true =>
          exfalso
          rw [tLR] at h
          have e : tL p (b :: l) = tL p l := List.dropWhile_cons_of_pos hb
          rw [e] at h
          have h1 := tR_le p (tL p l); have h2 := tL_le p l
          rw [h] at h1; simp at h1; omega
    · intro a ha
      rcases List.eq_nil_or_concat l with rfl | ⟨m, b, rfl⟩
      · cases ha
      · rw [List.concat_eq_append] at h ha
        rw [List.getLast?_append] at ha
        simp at ha; subst ha
        cases hb : p b with
        | false => rfl
        | true =>
          exfalso
          rw [tR_last, if_pos hb] at h
          have h1 := tL_le p (tR p m); have h2 := tR_le p m
          rw [h] at h1; simp at h1; omega
  · intro ⟨h1, h2⟩
    have e : tR p l = l := by
      rcases List.eq_nil_or_concat l with rfl | ⟨m, b, rfl⟩
      · rfl
      · rw [List.concat_eq_append] at h2 ⊢
        rw [tR_last, h2 b (by simp), if_neg (by decide)]
    rw [e]
    cases l with
    | nil => rfl
    | cons a l => exact List.dropWhile_cons_of_neg (by rw [h1 a rfl]; decide)
end
/-- where a byte stands first, or the length -/
def pos (l : List UInt8) (c : UInt8) : Nat := (l.takeWhile (· != c)).length
theorem pos_le (l : List UInt8) (c : UInt8) : pos l c ≤ l.length := by
  unfold pos; exact (List.takeWhile_prefix _).length_le
theorem indexByte_pos : ∀ (l : List UInt8) (c : UInt8), Lib.indexByte l c = if pos l c = l.length then -1 else (pos l c : Int)
  | [], c => rfl
  | b :: l, c => by
    unfold Lib.indexByte pos
    by_cases h : b = c
    · subst h; simp
    · have h' : (b == c) = false := by simpa using h
      have h2 : (b != c) = true := by simpa using h
      have ih := indexByte_pos l c
      have hp : (List.takeWhile (fun x => x != c) (b :: l)).length = pos l c + 1 := by unfold pos; simp [List.takeWhile_cons, h]
      rw [hp, h', ih, List.length_cons]
      simp only [Bool.false_eq_true, if_false]
      by_cases e : pos l c = l.length
      · rw [if_pos e, if_pos (by omega : pos l c + 1 = l.length + 1)]; rfl
      · rw [if_neg e, if_neg (by omega : ¬ pos l c + 1 = l.length + 1)]
        have : ¬ (((pos l c : Int)) == -1) = true := by first | (simp; done) | (simp; omega)
        rw [if_neg this]; try omega
theorem cut_one (l : List UInt8) (c : UInt8) : Lib.cut l [c] = if pos l c = l.length then (l, [], false) else (l.take (pos l c), l.drop (pos l c + 1), true) := by
  unfold Lib.cut
  rw [Lib.index_one, indexByte_pos]
  by_cases e : pos l c = l.length
  · rw [if_pos e, if_pos e]; rfl
  · rw [if_neg e, if_neg e, if_pos (by omega)]; rfl
theorem pos_at {l : List UInt8} {c : UInt8} (h : pos l c < l.length) : l.getD (pos l c) 0 = c := by
  induction l with
  | nil => simp at h
  | cons b l ih =>
    by_cases e : b = c
    · subst e
      have : pos (b :: l) b = 0 := by unfold pos; simp
      rw [this]; rfl
    · have hp : pos (b :: l) c = pos l c + 1 := by unfold pos; simp [List.takeWhile_cons, e]
      rw [hp] at h ⊢
      exact ih (by simpa using h)
theorem pos_before {l : List UInt8} {c : UInt8} : ∀ (i : Nat), i < pos l c → l.getD i 0 ≠ c := by
  induction l with
  | nil => intro i h; simp [pos] at h
  | cons b l ih =>
    intro i h
    by_cases e : b = c
    · subst e; have : pos (b :: l) b = 0 := by unfold pos; simp
      omega
    · have hp : pos (b :: l) c = pos l c + 1 := by unfold pos; simp [List.takeWhile_cons, e]
      cases i with
      | zero => exact e
      | succ i => exact ih i (by omega)
end Go.Proofs.YtpfbemcoblganaaDoor.Pl
namespace Go.Proofs.YtpfbemcoblganaaDoor.Pall
open Go.RowKit Go.Proofs.YtpfbemcoblganaaDoorW.PrintWords Go.Proofs.YtpfbemcoblganaaDoorW.PrintLast Go.Proofs.YtpfbemcoblganaaDoor.Pl
set_option linter.unusedVariables false
set_option linter.unusedSimpArgs false
theorem wrap_id {n : Int} (h0 : -9223372036854775808 ≤ n) (h1 : n ≤ 9223372036854775807) : wrap64 n = n := by unfold wrap64; omega
theorem bt_nat (s : ByteArray) (i : Nat) (h : i < s.size) : bt s (i : Int) = ((s.data.toList.getD i 0).toNat : Int) := by
  unfold bt; rw [Int.toNat_natCast, dif_pos h, data_at s i h]
theorem bt_0 (s : ByteArray) (h : 0 < s.size) : bt s 0 = ((s.data.toList.getD 0 0).toNat : Int) := bt_nat s 0 h
theorem len_data (s : ByteArray) : s.data.toList.length = s.size := rfl
theorem refSign (c : UInt8) : Ev (fun k => wicketmanref08_sign.f k c.toNat) (tokB c) := by
  have h := u8_all (fun c => wicketmanref08_sign.f 20 c.toNat == some (tokB c)) (by decide +kernel) c
  exact Ev.of (fun k => wicketmanref08_sign.mono _ k) (by simpa using h)
theorem refToken_loop (s : ByteArray) (hs : s.size ≤ 9223372036854775806) : ∀ d i, s.size - i = d → i ≤ s.size →
    Ev (fun k => wicketmanref08_Token.l0 k s i) (((s.data.toList.drop i).all tokB) && decide (0 < s.size)) := by
  intro d
  induction d with
  | zero =>
    intro i hd hi
    obtain rfl : i = s.size := by omega
    refine Ev.step (f := fun _ => some _) (fun k => ?_) (Ev.now _)
    simp only [wicketmanref08_Token.l0]
    rw [if_neg (by omega), List.drop_of_length_le (by rw [len_data]; exact Nat.le_refl _)]
    simp
  | succ d ih =>
    intro i hd hi
    have hlt : i < s.size := by omega
    have hdrop : s.data.toList.drop i = s.data.toList.getD i 0 :: s.data.toList.drop (i + 1) := by
      rw [List.drop_eq_getElem_cons (by rw [len_data]; exact hlt), List.getD, List.getElem?_eq_getElem (by rw [len_data]; exact hlt)]; rfl
    rw [hdrop, List.all_cons]
    refine Ev.step (f := fun k => (wicketmanref08_sign.f k (bt s i)).bind fun t => if t = true then wicketmanref08_Token.l0 k s (wrap64 (i + 1)) else some false) (fun k => ?_) ?_
    · simp only [wicketmanref08_Token.l0]; rw [if_pos (by omega), if_pos (by omega)]
    · rw [bt_nat s i hlt]
      refine Ev.bind (refSign _) ?_
      cases hb : tokB (s.data.toList.getD i 0) with
      | false => exact Ev.now _
      | true =>
        rw [wrap_id (by omega) (by omega)]
        have := ih (i + 1) (by omega) (by omega)
        simpa using this
theorem refToken (s : ByteArray) (hs : s.size ≤ 9223372036854775806) : Ev (fun k => wicketmanref08_Token.f k s) (tokL s.data.toList) := by
  have h := refToken_loop s hs s.size 0 (by omega) (by omega)
  have e : (((s.data.toList.drop 0).all tokB) && decide (0 < s.size)) = tokL s.data.toList := by
    unfold tokL
    rw [List.drop_zero]
    congr 1
    rw [← len_data s]
    cases s.data.toList <;> simp
  rw [e] at h
  exact h
def mkB (l : List UInt8) : ByteArray := ⟨l.toArray⟩
theorem mkB_list (l : List UInt8) : (mkB l).data.toList = l := rfl
theorem mkB_size (l : List UInt8) : (mkB l).size = l.length := by simp [mkB, ByteArray.size]
theorem ba_ext {a b : ByteArray} (h : a.data.toList = b.data.toList) : a = b := by
  obtain ⟨⟨a⟩⟩ := a; obtain ⟨⟨b⟩⟩ := b
  have h : a = b := h
  rw [h]
theorem mkB_self (s : ByteArray) : mkB s.data.toList = s := ba_ext rfl
theorem ext_to (s : ByteArray) (n : Nat) : s.extract 0 n = mkB (s.data.toList.take n) := ba_ext (by rw [Lib.extract_data, mkB_list]; simp)
theorem ext_from (s : ByteArray) (n : Nat) : s.extract n s.size = mkB (s.data.toList.drop n) := ba_ext (Lib.extract_to_end s n)
theorem u8s_of_wf {l : List Int} (h : ∀ x ∈ l, (Lit.int .u8 x).wf = true) : ∀ x ∈ l, 0 ≤ x ∧ x ≤ 255 := by
  intro x hx
  have := h x hx
  simp [Lit.wf, IntKind.min, IntKind.max, IntKind.signed, IntKind.bits] at this
  omega
theorem wrap_small (n : Int) (h0 : 0 ≤ n) (h1 : n ≤ 9223372036854775807) : wrap64 n = n := wrap_id (by omega) h1
end Go.Proofs.YtpfbemcoblganaaDoor.Pall
namespace Go.Proofs.YtpfbemcoblganaaDoor.Pl
open Go.RowKit Go.Proofs.YtpfbemcoblganaaDoor.Pall Go.Proofs.YtpfbemcoblganaaDoorW.PrintWords Go.Proofs.YtpfbemcoblganaaDoorW.PrintLast
set_option linter.unusedVariables false
set_option linter.unusedSimpArgs false
theorem tmod_pos (a : Int) (h : 0 ≤ a) (n : Int) : Int.tmod a n = a % n := Int.tmod_eq_emod_of_nonneg h
end Go.Proofs.YtpfbemcoblganaaDoor.Pl

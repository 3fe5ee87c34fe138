/-
  The plain laws of layer 8, the rest: values, fields, names that are the same, lines.
-/
import Derived.Test.YtpfbemcoblganaaDoorQmPlb
import Derived.Test.YtpfbemcoblganaaDoorQmPall6
import Derived.Test.YtpfbemcoblganaaDoorQmPall7
import Derived.Test.YtpfbemcoblganaaDoorQmPall28
import Derived.Test.YtpfbemcoblganaaDoorQmPall8
import Derived.Test.YtpfbemcoblganaaDoorQmPall35
import Derived.Test.YtpfbemcoblganaaDoorQmPall2
import Derived.Test.YtpfbemcoblganaaDoorQmPall14
namespace Go.Proofs.YtpfbemcoblganaaDoor.Pall
open Go.RowKit Go.Proofs.YtpfbemcoblganaaDoorW.PrintWords Go.Proofs.YtpfbemcoblganaaDoorW.PrintLast Go.Proofs.YtpfbemcoblganaaDoor.Pl
set_option linter.unusedVariables false
set_option linter.unusedSimpArgs false
def blk (c : UInt8) : Bool := [(32 : UInt8), 9].contains c
theorem trimL_tRL (l : List UInt8) : trimL l = tR blk (tL blk l) := by rw [← tLR]; rfl
def valEnd (l : List UInt8) : Bool := l.isEmpty || (!blk (l.getD 0 0) && !blk (l.getD (l.length - 1) 0))
theorem valEnd_trim (l : List UInt8) : valEnd l = (l == trimL l) := by
  have h := trim_same blk l
  have e : trimL l = tL blk (tR blk l) := rfl
  rw [Bool.eq_iff_iff, beq_iff_eq, e]
  constructor
  · intro hv
    apply Eq.symm; apply h.2
    cases l with
    | nil => exact ⟨(fun _ ha => by cases ha), (fun _ ha => by cases ha)⟩
    | cons a l =>
      simp only [valEnd, List.isEmpty_cons, Bool.false_or, Bool.and_eq_true, Bool.not_eq_true'] at hv
      refine ⟨fun b hb => ?_, fun b hb => ?_⟩
      · injection hb with hb; subst hb; exact hv.1
      · have h2 := hv.2
        rw [List.getLast?_eq_getElem?] at hb
        rw [List.getD, hb] at h2; exact h2
  · intro he
    obtain ⟨h1, h2⟩ := h.1 he.symm
    cases l with
    | nil => rfl
    | cons a l =>
      simp only [valEnd, List.isEmpty_cons, Bool.false_or, Bool.and_eq_true, Bool.not_eq_true']
      refine ⟨h1 a rfl, ?_⟩
      apply h2
      rw [List.getLast?_eq_getElem?, List.getD]
      have : (a :: l).length - 1 < (a :: l).length := by simp
      rw [List.getElem?_eq_getElem this]; rfl
def none3 (e : Int) : ByteArray × ByteArray × Int := (⟨#[]⟩, ⟨#[]⟩, e)
def fieldS (s : ByteArray) : ByteArray × ByteArray × Int :=
  if (s.size : Int) > 2000 then none3 3
  else if pos s.data.toList 58 = s.data.toList.length then none3 12
  else if (tokL (s.data.toList.take (pos s.data.toList 58)) && valL (trimL (s.data.toList.drop (pos s.data.toList 58 + 1)))) = true then
    (mkB (s.data.toList.take (pos s.data.toList 58)), mkB (trimL (s.data.toList.drop (pos s.data.toList 58 + 1))), 0)
  else none3 12
theorem trimL_le (l : List UInt8) : (trimL l).length ≤ l.length := by
  rw [trimL_tRL]; exact Nat.le_trans (tR_le _ _) (tL_le _ _)
theorem headField (s : ByteArray) : head_Field.f s = some (fieldS s) := by
  unfold head_Field.f fieldS
  by_cases hl : (s.size : Int) > 2000
  · rw [if_pos hl, if_pos hl]; rfl
  · rw [if_neg hl, if_neg hl]
    have hc : strings_Cut.f s (⟨#[58]⟩ : ByteArray) = some (⟨(Lib.cut s.data.toList [58]).1.toArray⟩, ⟨(Lib.cut s.data.toList [58]).2.1.toArray⟩, (Lib.cut s.data.toList [58]).2.2) := by
      unfold strings_Cut.f; rw [if_pos (by omega)]
    rw [hc]
    simp only [Option.bind_some]
    rw [cut_one]
    by_cases hp : pos s.data.toList 58 = s.data.toList.length
    · simp only [if_pos hp]
      have ht : strings_Trim.f (⟨([] : List UInt8).toArray⟩ : ByteArray) (⟨#[32, 9]⟩ : ByteArray) = some ⟨(Lib.trimS [] [32, 9]).toArray⟩ := by
        unfold strings_Trim.f; rw [if_pos (by decide)]
      rw [ht]
      simp [none3]
    · simp only [if_neg hp]
      have hle : (s.data.toList.drop (pos s.data.toList 58 + 1)).length ≤ 2000 := by rw [List.length_drop, len_data]; omega
      have ht : strings_Trim.f (⟨(s.data.toList.drop (pos s.data.toList 58 + 1)).toArray⟩ : ByteArray) (⟨#[32, 9]⟩ : ByteArray) = some (mkB (trimL (s.data.toList.drop (pos s.data.toList 58 + 1)))) := by
        unfold strings_Trim.f; rw [if_pos ⟨by have := mkB_size (s.data.toList.drop (pos s.data.toList 58 + 1)); show (mkB _).size ≤ _; omega, by decide, by decide⟩]; rfl
      rw [ht]
      simp only [Option.bind_some, if_true]
      have h1 : head_Token.f (⟨(s.data.toList.take (pos s.data.toList 58)).toArray⟩ : ByteArray) = some (tokL (s.data.toList.take (pos s.data.toList 58))) := rfl
      have h2 : head_Value.f (mkB (trimL (s.data.toList.drop (pos s.data.toList 58 + 1)))) = some (valL (trimL (s.data.toList.drop (pos s.data.toList 58 + 1)))) := by
        unfold head_Value.f; rw [if_pos (by rw [mkB_size]; have := trimL_le (s.data.toList.drop (pos s.data.toList 58 + 1)); omega)]; rfl
      rw [h1, h2]
      simp only [Option.bind_some]
      cases tokL (s.data.toList.take (pos s.data.toList 58)) <;> cases valL (trimL (s.data.toList.drop (pos s.data.toList 58 + 1))) <;> simp [none3, mkB]
def sameS (a b : ByteArray) : Bool := smallL a.data.toList == smallL b.data.toList
theorem headSame (a b : ByteArray) (ha : a.size ≤ 140737488351232) (hb : b.size ≤ 140737488351232) : head_Same.f a b = some (sameS a b) := by
  unfold head_Same.f head_small.f
  rw [if_pos ha, if_pos hb]
  simp only [Option.bind_some]
  rw [ByteArray.toList_eq, ByteArray.toList_eq]
  rfl
theorem field_any (s : ByteArray) (w : World) (hS : Sh w) : Calls Tryd.prog 59 #[.string s] w fun e w' => e = .returned (.tuple #[.agg #[.string (fieldS s).1, .string (fieldS s).2.1], .int .u16 (fieldS s).2.2]) ∧ Below w.heap.size w w' :=
  head_Field.calls s _ _ _ w hS (headField s)
theorem all_imp {l : List UInt8} {p q : UInt8 → Bool} (h : l.all p = true) (hi : ∀ c, p c = true → q c = true) : l.all q = true := by
  rw [List.all_eq_true] at h ⊢; exact fun x hx => hi x (h x hx)
/-- a value of good bytes, whose ends are no blanks -/
theorem valL_of {l : List UInt8} (h : l.all valB = true) (h1 : ∀ a, l.head? = some a → blk a = false) (h2 : ∀ a, l.getLast? = some a → blk a = false) : valL l = true := by
  unfold valL; rw [h, ← valEnd_trim, valEnd_trim]
  have := (trim_same blk l).2 ⟨h1, h2⟩
  have e : trimL l = tL blk (tR blk l) := rfl
  rw [e, this]; simp
theorem trimL_same {l : List UInt8} (h1 : ∀ a, l.head? = some a → blk a = false) (h2 : ∀ a, l.getLast? = some a → blk a = false) : trimL l = l :=
  (trim_same blk l).2 ⟨h1, h2⟩
theorem trimL_cons {a : UInt8} {l : List UInt8} (h : blk a = true) : trimL (a :: l) = trimL l := by
  rw [trimL_tRL, trimL_tRL]; congr 1; exact List.dropWhile_cons_of_pos h
end Go.Proofs.YtpfbemcoblganaaDoor.Pall

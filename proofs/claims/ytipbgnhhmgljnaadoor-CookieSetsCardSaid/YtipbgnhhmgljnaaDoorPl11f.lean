/-
  cookie.Read: what was set is read as it was; what was not is none.
-/
import Derived.Test.YtipbgnhhmgljnaaDoorP11
import Derived.Test.YtipbgnhhmgljnaaDoorPall16
import Derived.Test.YtipbgnhhmgljnaaDoorPall2
namespace Go.Proofs.YtipbgnhhmgljnaaDoor.Pl
open Go.RowKit Go.Proofs.YtipbgnhhmgljnaaDoor.Pall Go.Proofs.YtipbgnhhmgljnaaDoor.Split Go.Proofs.YtipbgnhhmgljnaaDoorW.PrintWords Go.Proofs.YtipbgnhhmgljnaaDoorW.PrintLast Go.Proofs.YtipbgnhhmgljnaaDoorW.PrintMore
set_option linter.unusedVariables false
set_option linter.unusedSimpArgs false
/-! ### numerals -/
theorem decV_app (l : List UInt8) (c : UInt8) : decV (l ++ [c]) = 10 * decV l + ((c.toNat : Int) - 48) := decV_snoc l c
theorem dd_dig (m : Nat) (h : m < 10) : (UInt8.ofNat (48 + m)).toNat = 48 + m := by rw [UInt8.toNat_ofNat']; omega
theorem dd_all (u : Nat) : (Lib.decDigits u).all digB = true ∧ decV (Lib.decDigits u) = (u : Int) := by
  induction u using Nat.strongRecOn with
  | ind u ih =>
    rw [Lib.decDigits]
    by_cases h : u < 10
    · rw [dif_pos h]
      constructor
      · simp only [List.all_cons, List.all_nil, Bool.and_true, digB, dd_dig u h, Bool.and_eq_true, decide_eq_true_eq]; omega
      · show 10 * 0 + (((UInt8.ofNat (48 + u)).toNat : Int) - 48) = _
        rw [dd_dig u h]; omega
    · rw [dif_neg h]
      obtain ⟨h1, h2⟩ := ih (u / 10) (by omega)
      constructor
      · rw [List.all_append, h1]
        simp only [List.all_cons, List.all_nil, Bool.and_true, Bool.true_and, digB, dd_dig (u % 10) (by omega), Bool.and_eq_true, decide_eq_true_eq]; omega
      · rw [decV_app, h2, dd_dig (u % 10) (by omega)]; omega
theorem dd_len : ∀ (k u : Nat), 1 ≤ k → u < 10 ^ k → 1 ≤ (Lib.decDigits u).length ∧ (Lib.decDigits u).length ≤ k
  | 0, u, h, _ => by omega
  | k + 1, u, _, h => by
    rw [Lib.decDigits]
    by_cases h10 : u < 10
    · rw [dif_pos h10]; simp
    · rw [dif_neg h10, List.length_append, List.length_singleton]
      rw [Nat.pow_succ] at h
      by_cases hk : k = 0
      · subst hk; simp at h; omega
      · have := dd_len k (u / 10) (by omega) (by omega)
        omega
theorem itoa_nat (u : Nat) : Lib.itoa (u : Int) = Lib.decDigits u := by unfold Lib.itoa; rw [if_neg (by omega), Int.toNat_natCast]
theorem decS_itoa (u : Nat) (h : u ≤ 999999999) : decS (mkS (Lib.decDigits u)) 999999999 = ((u : Int), true) := by
  have h1 := dd_len 9 u (by omega) (by omega)
  obtain ⟨h2, h3⟩ := dd_all u
  unfold decS
  have e : (mkS (Lib.decDigits u)).data.toList = Lib.decDigits u := rfl
  rw [if_neg (by rw [mkS_size]; omega), e, if_pos h2, h3, if_neg (by omega)]
theorem dd_no (u : Nat) (c : UInt8) (hc : digB c = false) : c ∉ Lib.decDigits u := by
  intro hm
  have := List.all_eq_true.1 (dd_all u).1 c hm
  rw [this] at hc; cases hc

/-! ### where a text is cut -/
theorem index_app (a b tl : List UInt8) (c : UInt8) (h : c ∉ a) : Lib.index (a ++ (c :: tl) ++ b) (c :: tl) = (a.length : Nat) := by
  refine Lib.index_first (by simp) ?_ ?_
  · unfold Lib.occAt
    rw [List.append_assoc, List.drop_left]
    exact List.isPrefixOf_iff_prefix.2 ⟨b, rfl⟩
  · intro j hj
    unfold Lib.occAt
    have hd : (a ++ (c :: tl) ++ b).drop j = a[j] :: (a ++ (c :: tl) ++ b).drop (j + 1) := by
      rw [List.drop_eq_getElem_cons (by simp; omega)]
      congr 1
      rw [List.getElem_append_left (by simp; omega), List.getElem_append_left hj]
    rw [hd]
    show ((c == a[j]) && _) = false
    have : (c == a[j]) = false := beq_eq_false_iff_ne.2 (fun e => h (e ▸ List.getElem_mem hj))
    rw [this]; rfl
theorem cut_app (a b tl : List UInt8) (c : UInt8) (h : c ∉ a) : Lib.cut (a ++ (c :: tl) ++ b) (c :: tl) = (a, b, true) := by
  unfold Lib.cut
  rw [index_app a b tl c h, if_pos (by omega), Int.toNat_natCast]
  have h1 : (a ++ (c :: tl) ++ b).take a.length = a := by rw [List.append_assoc, List.take_left]
  have h2 : (a ++ (c :: tl) ++ b).drop (a.length + (c :: tl).length) = b := by
    rw [← List.length_append, List.drop_left]
  rw [h1, h2]
theorem strCut (s sep : ByteArray) (hs : s.size ≤ 1000000000) : strings_Cut.f s sep = some (mkS (Lib.cut s.data.toList sep.data.toList).1, mkS (Lib.cut s.data.toList sep.data.toList).2.1, (Lib.cut s.data.toList sep.data.toList).2.2) := by
  unfold strings_Cut.f; rw [if_pos (by omega)]; rfl

/-! ### what was set -/
def restL : List UInt8 := [59, 32, 80, 97, 116, 104, 61, 47, 59, 32, 83, 101, 99, 117, 114, 101, 59, 32, 72, 116, 116, 112, 79, 110, 108, 121, 59, 32, 83, 97, 109, 101, 83, 105, 116, 101, 61, 83, 116, 114, 105, 99, 116]
def maxL : List UInt8 := [59, 32, 77, 97, 120, 45, 65, 103, 101, 61]
def setL (n v : List UInt8) (u : Nat) : List UInt8 := (n ++ 61 :: v) ++ maxL ++ (Lib.decDigits u ++ restL)
theorem setT_mk (n v : List UInt8) (u : Nat) : setT (mkS n) (mkS v) (u : Int) = mkS (setL n v u) := by
  apply Split.ba_ext
  unfold setT restB setL restL maxL
  rw [itoa_nat]
  simp [mkS]
def none4 : ByteArray × ByteArray × Int × Bool := (⟨#[]⟩, ⟨#[]⟩, 0, false)
theorem setS_good (n v : List UInt8) (u : Nat) (hn : tokL n = true) (hv : octL v = true) (hu : u ≤ 999999999) : setS (mkS n) (mkS v) (u : Int) = (mkS (setL n v u), 0) := by
  unfold setS; rw [if_pos ⟨hn, hv, by omega, by omega⟩, setT_mk]
theorem setL_len (n v : List UInt8) (u : Nat) (hu : u ≤ 999999999) : (setL n v u).length ≤ n.length + v.length + 63 := by
  have := dd_len 9 u (by omega) (by omega)
  unfold setL maxL restL; simp; omega
theorem read_good (k : Nat) (n v : List UInt8) (u : Nat) (hn : tokL n = true) (hv : octL v = true) (hu : u ≤ 999999999) (hl : n.length + v.length ≤ 1000000) :
    cookie_Read.f (k + 1) (mkS (setL n v u)) = some (mkS n, mkS v, (u : Int), true) := by
  have hlen := setL_len n v u hu
  have c1 : Lib.cut (setL n v u) maxL = (n ++ 61 :: v, Lib.decDigits u ++ restL, true) := cut_app _ _ _ 59 (by
    simp only [List.mem_append, List.mem_cons, not_or]
    exact ⟨tok_no _ hn _ (by decide +kernel), by decide, oct_no _ hv _ (by decide +kernel)⟩)
  have c2 : Lib.cut (Lib.decDigits u ++ restL) [59, 32] = (Lib.decDigits u, restL.drop 2, true) := by
    have := cut_app (Lib.decDigits u) (restL.drop 2) [32] 59 (dd_no u _ (by decide +kernel))
    rw [List.append_assoc] at this
    exact this
  have c3 : Lib.cut (n ++ 61 :: v) [61] = (n, v, true) := one_mk n v (tok_no _ hn _ (by decide +kernel))
  have hd := dd_len 9 u (by omega) (by omega)
  unfold cookie_Read.f
  rw [strCut _ _ (by rw [mkS_size]; omega)]
  have e1 : (mkS (setL n v u)).data.toList = setL n v u := rfl
  have e2 : (⟨#[59, 32, 77, 97, 120, 45, 65, 103, 101, 61]⟩ : ByteArray).data.toList = maxL := rfl
  rw [e1, e2, c1]
  simp only [Option.bind_some]
  have e3 : ∀ l, (mkS l).data.toList = l := fun _ => rfl
  have e4 : (⟨#[59, 32]⟩ : ByteArray).data.toList = [59, 32] := rfl
  have e5 : (⟨#[61]⟩ : ByteArray).data.toList = [61] := rfl
  rw [strCut _ _ (by rw [mkS_size, List.length_append]; show _ + 43 ≤ _; omega), e3, e4, c2]
  simp only [Option.bind_some]
  rw [strCut _ _ (by rw [mkS_size, List.length_append, List.length_cons]; omega), e3, e5, c3]
  simp only [Option.bind_some]
  rw [if_pos trivial, if_pos trivial]
  simp only [cookie_Read.j0]
  rw [if_neg (by decide)]
  unfold num_Decimal.f
  simp only [Option.bind_some]
  rw [decS_itoa u hu, set_ev _ _ _ (by rw [mkS_size]; omega) (by rw [mkS_size]; omega), setS_good n v u hn hv hu]
  simp
/-- a text that was set -/
def WasSet (s : ByteArray) : Prop := ∃ n v u, tokL n = true ∧ octL v = true ∧ u ≤ 999999999 ∧ s = mkS (setL n v u)
theorem wasSet_of {s a b : ByteArray} {t : Int} (h : (setS a b t).2 = 0) (he : (setS a b t).1 = s) : WasSet s := by
  unfold setS at h he
  split at h
  · rename_i hc
    rw [if_pos hc] at he
    obtain ⟨u, rfl⟩ := Int.eq_ofNat_of_zero_le hc.2.2.1
    refine ⟨a.data.toList, b.data.toList, u, hc.1, hc.2.1, by omega, ?_⟩
    rw [← he, ← setT_mk, mkS_list, mkS_list]
  · exact absurd h (by decide)
theorem str_eq {a b : ByteArray} (h : a.toList = b.toList) : a = b := Split.ba_ext (by rw [ByteArray.toList_eq, ByteArray.toList_eq] at h; exact h)
theorem cut_le (l s : List UInt8) : (Lib.cut l s).1.length ≤ l.length ∧ (Lib.cut l s).2.1.length ≤ l.length := by
  unfold Lib.cut; split
  · exact ⟨by rw [List.length_take]; omega, by rw [List.length_drop]; omega⟩
  · exact ⟨Nat.le_refl _, by simp⟩
theorem read_bad (k : Nat) (s : ByteArray) (hs : s.size ≤ 1000000) (h : ¬ WasSet s) : cookie_Read.f (k + 1) s = some none4 := by
  unfold cookie_Read.f
  have l1 := cut_le s.data.toList (⟨#[59, 32, 77, 97, 120, 45, 65, 103, 101, 61]⟩ : ByteArray).data.toList
  rw [len_data] at l1
  rw [strCut _ _ (by omega)]
  generalize Lib.cut s.data.toList (⟨#[59, 32, 77, 97, 120, 45, 65, 103, 101, 61]⟩ : ByteArray).data.toList = x1 at *
  simp only [Option.bind_some]
  have l2 := cut_le (mkS x1.2.1).data.toList (⟨#[59, 32]⟩ : ByteArray).data.toList
  rw [len_data, mkS_size] at l2
  rw [strCut _ _ (by rw [mkS_size]; omega)]
  generalize Lib.cut (mkS x1.2.1).data.toList (⟨#[59, 32]⟩ : ByteArray).data.toList = x2 at *
  simp only [Option.bind_some]
  have l3 := cut_le (mkS x1.1).data.toList (⟨#[61]⟩ : ByteArray).data.toList
  rw [len_data, mkS_size] at l3
  rw [strCut _ _ (by rw [mkS_size]; omega)]
  generalize Lib.cut (mkS x1.1).data.toList (⟨#[61]⟩ : ByteArray).data.toList = x3 at *
  simp only [Option.bind_some]
  have hj : ∀ b, cookie_Read.j0 (k + 1) s (mkS x2.1) (mkS x3.1) (mkS x3.2.1) b = some none4 := by
    intro b
    simp only [cookie_Read.j0]
    cases b with
    | true => rw [if_pos rfl]; rfl
    | false =>
      rw [if_neg (by decide)]
      unfold num_Decimal.f
      simp only [Option.bind_some]
      rw [set_ev _ _ _ (by rw [mkS_size]; omega) (by rw [mkS_size]; omega)]
      simp only [Option.bind_some]
      by_cases h1 : (setS (mkS x3.1) (mkS x3.2.1) (decS (mkS x2.1) 999999999).1).2 = 0
      · rw [if_pos h1]
        by_cases h2 : (setS (mkS x3.1) (mkS x3.2.1) (decS (mkS x2.1) 999999999).1).1.toList = s.toList
        · exact absurd (wasSet_of h1 (str_eq h2)) h
        · rw [if_neg h2]; rfl
      · rw [if_neg h1]; rfl
  split
  · split
    · exact hj _
    · exact hj _
  · exact hj _
end Go.Proofs.YtipbgnhhmgljnaaDoor.Pl

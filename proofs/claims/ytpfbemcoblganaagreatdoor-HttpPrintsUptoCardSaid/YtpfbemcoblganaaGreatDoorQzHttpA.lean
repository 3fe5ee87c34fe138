/-
  Package http: what is needed, and what a path may be.
-/
import Derived.Test.YtpfbemcoblganaaGreatDoorQzExt
import Derived.Test.YtpfbemcoblganaaGreatDoorQzPlb
import Derived.Recover
import Derived.Defers
import Derived.Tactics2
import Derived.WalkLawsBesides
namespace Go.Proofs.YtpfbemcoblganaaGreatDoor.Pl
open Go.RowKit Go.Proofs.YtpfbemcoblganaaGreatDoor.Pall Go.Proofs.YtpfbemcoblganaaGreatDoorW.PrintWords Go.Proofs.YtpfbemcoblganaaGreatDoorW.PrintLast
set_option linter.unusedVariables false
set_option linter.unusedSimpArgs false
/-- what a panic bears -/
def wrongV (n : Int) : List PanicEntry := [{ v := .iface 54 (.agg #[.int .u16 n]), recovered := false }]
theorem need_yes (n : Int) (w : World) : Calls Tryz.prog 24 #[.bool true, .int .u16 n] w fun e w' => e = .returned (.tuple #[]) ∧ w' = w := by
  go_enter Tryz.func24, Tryz.ntmps24
  go_wp2
  go_end0
  exact ⟨rfl, rfl⟩
theorem need_no (n : Int) (w : World) : Calls Tryz.prog 24 #[.bool false, .int .u16 n] w fun e w' => e = .panicked (wrongV n) ∧ w' = w := by
  go_enter Tryz.func24, Tryz.ntmps24
  go_wp2
  exact ⟨rfl, rfl, rfl⟩
def pthB (c : UInt8) : Bool := decide (33 ≤ c.toNat) && decide (c.toNat ≤ 126)
def pathL (l : List UInt8) : Bool := Lib.hasPrefix l [47] && l.all pthB
def pthR (r : Nat) : Bool := decide (r < 33) || decide (126 < r)
theorem path_pred (w : World) : PredAt Tryz.prog 63 #[] encR pthR w := fun W r _ => by
  unfold FnGives
  by_cases h1 : r < 33 <;> by_cases h2 : 126 < r
  all_goals
    have z1 : (r : Int) < 33 ↔ r < 33 := by omega
    have z2 : (126 : Int) < (r : Int) ↔ 126 < r := by omega
    go_enter Tryz.func63, Tryz.ntmps63
    go_wp2
    all_goals first | (exfalso; omega) | (go_ret; exact ⟨by simp [h1, h2, pthR], 0, rfl⟩)
theorem idx_path (s : ByteArray) : ∀ (f pos : Nat), s.size - pos ≤ f → pos ≤ s.size → decide (0 ≤ Lib.idxFuncFrom pthR true s f pos) = !((s.data.toList.drop pos).all pthB) := by
  intro f
  induction f with
  | zero =>
    intro pos h1 h2
    rw [List.drop_of_length_le (by show s.size ≤ pos; omega)]
    rfl
  | succ f ih =>
    intro pos h1 h2
    unfold Lib.idxFuncFrom
    by_cases hp : pos < s.size
    · rw [if_pos hp]
      have hdrop : s.data.toList.drop pos = s.data.toList.getD pos 0 :: s.data.toList.drop (pos + 1) := by
        rw [List.drop_eq_getElem_cons (show pos < s.data.toList.length from hp), List.getD, List.getElem?_eq_getElem (show pos < s.data.toList.length from hp)]; rfl
      rw [hdrop, List.all_cons, data_at s pos hp]
      by_cases ha : (s[pos]'hp).toNat < 128
      · rw [decode_ascii s pos hp ha]
        by_cases hb : pthB (s[pos]'hp) = true
        · have : ¬ pthR (s[pos]'hp).toNat = true := by
            unfold pthB at hb
            simp only [Bool.and_eq_true, decide_eq_true_eq] at hb
            unfold pthR
            simp only [Bool.or_eq_true, decide_eq_true_eq]
            omega
          rw [if_neg this, hb, Bool.true_and]
          exact ih (pos + 1) (by omega) (by omega)
        · have : pthR (s[pos]'hp).toNat = true := by
            unfold pthB at hb
            simp only [Bool.and_eq_true, decide_eq_true_eq] at hb
            unfold pthR
            simp only [Bool.or_eq_true, decide_eq_true_eq]
            omega
          rw [if_pos this, Bool.eq_false_iff.2 hb, Bool.false_and, decide_eq_true (by omega)]; rfl
      · obtain ⟨hr, hw⟩ := decode_high s pos hp (by omega)
        have hb : pthB (s[pos]'hp) = false := by unfold pthB; rw [decide_eq_false (p := _ ≤ 126) (by omega), Bool.and_false]
        have : pthR (Utf8.decode s pos).1 = true := by unfold pthR; rw [decide_eq_true (p := 126 < _) (by omega), Bool.or_true]
        rw [if_pos this, hb, Bool.false_and, decide_eq_true (by omega)]; rfl
    · rw [if_neg hp, List.drop_of_length_le (by show s.size ≤ pos; omega)]
      rfl
theorem path_any (s : ByteArray) (w : World) : Calls Tryz.prog 43 #[.string s] w fun e w' => e = .returned (.bool (pathL s.data.toList)) ∧ Below w.heap.size w w' := by
  have hC := fun W : World => Tryz.strings_ContainsFunc 63 #[] (enters_of Tryz.func63 (by kernel_rfl) rfl) pthR s W (path_pred W)
  have hi := idx_path s s.size 0 (by omega) (by omega)
  rw [List.drop_zero] at hi
  have hi : decide (0 ≤ Lib.idxFunc pthR true s) = !(s.data.toList.all pthB) := hi
  rw [hi] at hC
  have HC := hid hC
  clear hC
  have HP := hid (show pathL s.data.toList = (Lib.hasPrefix s.data.toList [47] && s.data.toList.all pthB) from rfl)
  generalize s.data.toList.all pthB = b at *
  clear hi
  cases hp : Lib.hasPrefix s.data.toList [47] with
  | false =>
    have HF := hid (show pathL s.data.toList = false by rw [HP.out, hp]; rfl)
    have HQ := hid hp
    clear HP hp
    go_enter Tryz.func43, Tryz.ntmps43
    go_wp2_with (go_at_call 64; refine (Tryz.strings_HasPrefix _ _ _).mono ?_; rintro e w1 ⟨rfl, rfl⟩; rw [show Lib.hasPrefix s.data.toList (⟨#[47]⟩ : ByteArray).data.toList = false from HQ.out])
    go_ret
    exact ⟨by rw [HF.out]; rfl, Below.refl _ _⟩
  | true =>
    have HF := hid (show pathL s.data.toList = b by rw [HP.out, hp]; rfl)
    have HQ := hid hp
    clear HP hp
    go_enter Tryz.func43, Tryz.ntmps43
    go_wp2_with first
      | (go_at_call 64; refine (Tryz.strings_HasPrefix _ _ _).mono ?_; rintro e w1 ⟨rfl, rfl⟩; rw [show Lib.hasPrefix s.data.toList (⟨#[47]⟩ : ByteArray).data.toList = true from HQ.out])
      | (go_at_call 65; refine (HC.out _).mono ?_; rintro e w1 ⟨rfl, hb⟩; have HB := hid hb; clear hb)
    go_ret
    exact ⟨by rw [HF.out]; simp, HB.out⟩
end Go.Proofs.YtpfbemcoblganaaGreatDoor.Pl

/-
resp.Parse, as a walk.
resp.Parse: its contract in the printed form.
Package http: what is needed, and what a path may be.
-/
import Derived.Test.YtpfbemcoblganaaDoorQkRp
import Derived.Test.YtpfbemcoblganaaDoorQkFlds
import Derived.Test.YtpfbemcoblganaaDoorQkPall19
import Derived.Deep.RegionLaw
import Derived.Test.YtpfbemcoblganaaDoorQkExt
import Derived.Test.YtpfbemcoblganaaDoorQkPlb
import Derived.Recover
import Derived.Defers
import Derived.Tactics2
import Derived.WalkLawsBesides
section
namespace Go.Proofs.YtpfbemcoblganaaDoor.Pl
open Go.RowKit Go.Proofs.YtpfbemcoblganaaDoor.Pall Go.Proofs.YtpfbemcoblganaaDoorW.PrintWords Go.Proofs.YtpfbemcoblganaaDoorW.PrintLast
set_option linter.unusedVariables false
set_option linter.unusedSimpArgs false
/-- what stands while a response is parsed: the result's box, and the response's own -/
structure Pw (w W0 W : World) (st : Int) (fv bv : Value) (fs : List S43) : Prop where
  q : Bx w W0 #[.int .i64 0, .slice none 0 0, .slice none 0 0]
  bel : Below W0.heap.size W0 W
  lt : W0.heap.size < W.heap.size
  box : W.heap[W0.heap.size]? = some (.cells #[.int .i64 st, fv, bv] 51 (0, 0))
  row : Kd.R k43 43 W (W0.heap.size + 1) (fun _ => True) fv fs
theorem Pw.all {w W0 W : World} {st : Int} {fv bv : Value} {fs : List S43} (h : Pw w W0 W st fv bv fs) : Bx w W #[.int .i64 0, .slice none 0 0, .slice none 0 0] :=
  h.q.below h.bel
theorem Pw.below {w W0 W W' : World} {st : Int} {fv bv : Value} {fs : List S43} (h : Pw w W0 W st fv bv fs) (hb : Below W.heap.size W W') : Pw w W0 W' st fv bv fs :=
  ⟨h.q, h.bel.trans (hb.mono h.bel.size), Nat.lt_of_lt_of_le h.lt hb.size, blk_below h.box hb, Kd.R_below h.row hb⟩
theorem Pw.cells {w W0 W : World} {st : Int} {fv bv : Value} {fs : List S43} (h : Pw w W0 W st fv bv fs) : W.cell? ⟨W0.heap.size, 0, none⟩ = some (.int .i64 st) ∧ W.cell? ⟨W0.heap.size, 1, none⟩ = some fv ∧ W.cell? ⟨W0.heap.size, 2, none⟩ = some bv := ⟨blk_cell h.box 0, blk_cell h.box 1, blk_cell h.box 2⟩
def midL (lines : List ByteArray) : List ByteArray := (lines.take (lines.length - 1)).drop 1
end Go.Proofs.YtpfbemcoblganaaDoor.Pl
end
section
namespace Go.Proofs.YtpfbemcoblganaaDoor.Pl
open Go.RowKit Go.Proofs.YtpfbemcoblganaaDoor.Pall Go.Proofs.YtpfbemcoblganaaDoorW.PrintWords Go.Proofs.YtpfbemcoblganaaDoorW.PrintLast
set_option linter.unusedVariables false
set_option linter.unusedSimpArgs false
abbrev Rsp := Int × List S43 × List Int × Int
def noRsp : Rsp := (0, [], [], 10)
/-- the status, and the fields, that lines tell -/
def stL (ls : List ByteArray) : Int := (decS ((ls.getD 0 ByteArray.empty).extract 9 12) 999).1
def fsL (ls : List ByteArray) : List S43 := (midL ls).map fldS
def goodR (l0 : List Int) (ls : List ByteArray) (bd : List Int) : Prop :=
  2 ≤ ls.length ∧ 12 ≤ (ls.getD 0 ByteArray.empty).size ∧ fldsE (midL ls) = 0 ∧ (prS (stL ls) (fsL ls) bd).2 = 0 ∧ ((strOfNums l0).toList == (strOfNums (prS (stL ls) (fsL ls) bd).1).toList) = true
instance (l0 : List Int) (ls : List ByteArray) (bd : List Int) : Decidable (goodR l0 ls bd) := by unfold goodR; infer_instance
def parseRL (l0 : List Int) (ls : List ByteArray) (bd : List Int) : Rsp := if goodR l0 ls bd then (stL ls, fsL ls, bd, 0) else noRsp
def parseR (l0 : List Int) : Rsp :=
  if (linesS (strOfNums l0).data.toList).2.2 = true then parseRL l0 (linesS (strOfNums l0).data.toList).1 (l0.drop (l0.length - (linesS (strOfNums l0).data.toList).2.1)) else noRsp
end Go.Proofs.YtpfbemcoblganaaDoor.Pl
namespace Go.Proofs.YtpfbemcoblganaaDoor.Pall
open Go.RowKit Go.Proofs.YtpfbemcoblganaaDoor.Pl Go.Proofs.YtpfbemcoblganaaDoorW.PrintWords
def resp_Parse.f (l0 : List Int) : Option (Int × List S43 × List Int × Int) := if l0.length < 4294967281 then some (parseR l0) else none
end Go.Proofs.YtpfbemcoblganaaDoor.Pall
end
section
namespace Go.Proofs.YtpfbemcoblganaaDoor.Pl
open Go.RowKit Go.Proofs.YtpfbemcoblganaaDoor.Pall Go.Proofs.YtpfbemcoblganaaDoorW.PrintWords Go.Proofs.YtpfbemcoblganaaDoorW.PrintLast
set_option linter.unusedVariables false
set_option linter.unusedSimpArgs false
/-- what a panic bears -/
def wrongV (n : Int) : List PanicEntry := [{ v := .iface 78 (.agg #[.int .u16 n]), recovered := false }]
theorem need_yes (n : Int) (w : World) : Calls Tryd.prog 48 #[.bool true, .int .u16 n] w fun e w' => e = .returned (.tuple #[]) ∧ w' = w := by
  go_enter Tryd.func48, Tryd.ntmps48
  go_wp2
  go_end0
  exact ⟨rfl, rfl⟩
theorem need_no (n : Int) (w : World) : Calls Tryd.prog 48 #[.bool false, .int .u16 n] w fun e w' => e = .panicked (wrongV n) ∧ w' = w := by
  go_enter Tryd.func48, Tryd.ntmps48
  go_wp2
  exact ⟨rfl, rfl, rfl⟩
def pthB (c : UInt8) : Bool := decide (33 ≤ c.toNat) && decide (c.toNat ≤ 126)
def pathL (l : List UInt8) : Bool := Lib.hasPrefix l [47] && l.all pthB
def pthR (r : Nat) : Bool := decide (r < 33) || decide (126 < r)
theorem path_pred (w : World) : PredAt Tryd.prog 95 #[] encR pthR w := fun W r _ => by
  unfold FnGives
  by_cases h1 : r < 33 <;> by_cases h2 : 126 < r
  all_goals
    have z1 : (r : Int) < 33 ↔ r < 33 := by omega
    have z2 : (126 : Int) < (r : Int) ↔ 126 < r := by omega
    go_enter Tryd.func95, Tryd.ntmps95
    go_wp2
    all_goals first | (exfalso; omega) | (go_ret; exact ⟨by simp [h1, h2, pthR], 0, rfl⟩)
theorem idx_path (s : ByteArray) : ∀ (f pos : Nat), s.size - pos ≤ f → pos ≤ s.size → decide (0 ≤ Lib.idxFuncFrom pthR true s f pos) = !((s.data.toList.drop pos).all pthB) := by
  intro f
  induction f with
  | zero =>
    intro pos h1 h2
    rw [List.drop_of_length_le (by show s.size ≤ pos; omega)]
    rfl
  | succ f ih =>
    intro pos h1 h2
    unfold Lib.idxFuncFrom
    by_cases hp : pos < s.size
    · rw [if_pos hp]
      have hdrop : s.data.toList.drop pos = s.data.toList.getD pos 0 :: s.data.toList.drop (pos + 1) := by
        rw [List.drop_eq_getElem_cons (show pos < s.data.toList.length from hp), List.getD, List.getElem?_eq_getElem (show pos < s.data.toList.length from hp)]; rfl
      rw [hdrop, List.all_cons, data_at s pos hp]
      by_cases ha : (s[pos]'hp).toNat < 128
      · rw [decode_ascii s pos hp ha]
        by_cases hb : pthB (s[pos]'hp) = true
        · have : ¬ pthR (s[pos]'hp).toNat = true := by
            unfold pthB at hb
            simp only [Bool.and_eq_true, decide_eq_true_eq] at hb
            unfold pthR
            simp only [Bool.or_eq_true, decide_eq_true_eq]
            omega
          rw [if_neg this, hb, Bool.true_and]
          exact ih (pos + 1) (by omega) (by omega)
        · have : pthR (s[pos]'hp).toNat = true := by
            unfold pthB at hb
            simp only [Bool.and_eq_true, decide_eq_true_eq] at hb
            unfold pthR
            simp only [Bool.or_eq_true, decide_eq_true_eq]
            omega
          rw [if_pos this, Bool.eq_false_iff.2 hb, Bool.false_and, decide_eq_true (by omega)]; rfl
      · obtain ⟨hr, hw⟩ := decode_high s pos hp (by omega)
        have hb : pthB (s[pos]'hp) = false := by unfold pthB; rw [decide_eq_false (p := _ ≤ 126) (by omega), Bool.and_false]
        have : pthR (Utf8.decode s pos).1 = true := by unfold pthR; rw [decide_eq_true (p := 126 < _) (by omega), Bool.or_true]
        rw [if_pos this, hb, Bool.false_and, decide_eq_true (by omega)]; rfl
    · rw [if_neg hp, List.drop_of_length_le (by show s.size ≤ pos; omega)]
      rfl
theorem path_any (s : ByteArray) (w : World) : Calls Tryd.prog 73 #[.string s] w fun e w' => e = .returned (.bool (pathL s.data.toList)) ∧ Below w.heap.size w w' := by
  have hC := fun W : World => Tryd.strings_ContainsFunc 95 #[] (enters_of Tryd.func95 (by kernel_rfl) rfl) pthR s W (path_pred W)
  have hi := idx_path s s.size 0 (by omega) (by omega)
  rw [List.drop_zero] at hi
  have hi : decide (0 ≤ Lib.idxFunc pthR true s) = !(s.data.toList.all pthB) := hi
  rw [hi] at hC
  have HC := hid hC
  clear hC
  have HP := hid (show pathL s.data.toList = (Lib.hasPrefix s.data.toList [47] && s.data.toList.all pthB) from rfl)
  generalize s.data.toList.all pthB = b at *
  clear hi
  cases hp : Lib.hasPrefix s.data.toList [47] with
  | false =>
    have HF := hid (show pathL s.data.toList = false by rw [HP.out, hp]; rfl)
    have HQ := hid hp
    clear HP hp
    go_enter Tryd.func73, Tryd.ntmps73
    go_wp2_with (go_at_call 96; refine (Tryd.strings_HasPrefix _ _ _).mono ?_; rintro e w1 ⟨rfl, rfl⟩; rw [show Lib.hasPrefix s.data.toList (⟨#[47]⟩ : ByteArray).data.toList = false from HQ.out])
    go_ret
    exact ⟨by rw [HF.out]; rfl, Below.refl _ _⟩
  | true =>
    have HF := hid (show pathL s.data.toList = b by rw [HP.out, hp]; rfl)
    have HQ := hid hp
    clear HP hp
    go_enter Tryd.func73, Tryd.ntmps73
    go_wp2_with first
      | (go_at_call 96; refine (Tryd.strings_HasPrefix _ _ _).mono ?_; rintro e w1 ⟨rfl, rfl⟩; rw [show Lib.hasPrefix s.data.toList (⟨#[47]⟩ : ByteArray).data.toList = true from HQ.out])
      | (go_at_call 97; refine (HC.out _).mono ?_; rintro e w1 ⟨rfl, hb⟩; have HB := hid hb; clear hb)
    go_ret
    exact ⟨by rw [HF.out]; simp, HB.out⟩
end Go.Proofs.YtpfbemcoblganaaDoor.Pl
end

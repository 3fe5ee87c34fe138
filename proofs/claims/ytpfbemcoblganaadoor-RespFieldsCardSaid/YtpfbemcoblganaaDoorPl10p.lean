/-
  Pages, and responses that are the same.
-/
import Derived.Test.YtpfbemcoblganaaDoorPl10
import Derived.Test.YtpfbemcoblganaaDoorPall4
import Derived.Test.YtpfbemcoblganaaDoorPall22
namespace Go.Proofs.YtpfbemcoblganaaDoor.Pl
open Go.RowKit Go.Proofs.YtpfbemcoblganaaDoor.Pall Go.Proofs.YtpfbemcoblganaaDoorW.PrintWords
set_option linter.unusedVariables false
set_option linter.unusedSimpArgs false
theorem fs_same (l : List S43) (hl : l.length ≤ 9223372036854775806) : ∀ d i, l.length - i = d → i ≤ l.length → Ev (fun k => wicketmanref07_Same.l0 k l l (i : Nat)) true := by
  intro d
  induction d with
  | zero =>
    intro i hd hi
    refine Ev.step (f := fun _ => some true) (fun k => ?_) (Ev.now _)
    simp only [wicketmanref07_Same.l0]; rw [if_neg (by omega)]
  | succ d ih =>
    intro i hd hi
    refine Ev.step (fun k => ?_) (ih (i + 1) (by omega) (by omega))
    simp only [wicketmanref07_Same.l0]
    rw [if_pos (by omega), if_pos (by omega), if_pos (by omega), if_neg (by simp), wrap_id (by omega) (by omega)]
    rfl
theorem fs_same_true (l : List S43) (hl : l.length ≤ 9223372036854775806) : Ev (fun k => wicketmanref07_Same.f k l l) true := by
  refine Ev.congr (f := fun k => wicketmanref07_Same.l0 k l l ((0 : Nat) : Int)) (fun k => ?_) (fs_same l hl _ 0 rfl (by omega))
  unfold wicketmanref07_Same.f; rw [if_pos rfl]; rfl
theorem same10_true (a : Int) (l : List S43) (b : List Int) (hl : l.length ≤ 9223372036854775806) : Ev (fun k => wicketmanref10_Same.f k a l b a l b) true := by
  refine Ev.congr (f := fun k => (wicketmanref07_Same.f k l l).bind fun t => if t = true then some ((strOfNums b).toList == (strOfNums b).toList) else some false) (fun k => ?_) (Ev.bind (fs_same_true l hl) ?_)
  · unfold wicketmanref10_Same.f; rw [if_pos rfl]
  · rw [beq_self_eq_true]; exact Ev.now _
def two : List S43 := [⟨⟨#[67, 111, 110, 116, 101, 110, 116, 45, 84, 121, 112, 101]⟩, ⟨#[116, 101, 120, 116, 47, 112, 108, 97, 105, 110, 59, 32, 99, 104, 97, 114, 115, 101, 116, 61, 117, 116, 102, 45, 56]⟩⟩, ⟨⟨#[67, 97, 99, 104, 101, 45, 67, 111, 110, 116, 114, 111, 108]⟩, ⟨#[110, 111, 45, 115, 116, 111, 114, 101]⟩⟩]
theorem page_some (a : Int) (s : ByteArray) (l : List S43) (hs : s.size ≤ 140737488351232) (hl : l.length ≤ 1000000000) : resp_Page.f a s l = some (a, two ++ l, btsOf s) := by
  unfold resp_Page.f
  rw [Option.bind_some, if_pos (by simp only [List.length_cons, List.length_nil]; omega), if_pos hs]; rfl
theorem refPage_some (a : Int) (s : ByteArray) (l : List S43) (hs : s.size ≤ 140737488351232) (hl : l.length ≤ 1000000000) : wicketmanref10_Page.f a s l = some (a, two ++ l, btsOf s) := by
  unfold wicketmanref10_Page.f
  rw [Option.bind_some, if_pos (by simp only [List.length_cons, List.length_nil]; omega), if_pos hs]; rfl
end Go.Proofs.YtpfbemcoblganaaDoor.Pl

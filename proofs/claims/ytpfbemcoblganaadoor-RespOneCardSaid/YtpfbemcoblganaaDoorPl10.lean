/-
  Responses: what resp.Print answers, law by law.
-/
import Derived.Test.YtpfbemcoblganaaDoorRp
import Derived.Test.YtpfbemcoblganaaDoorPlb
namespace Go.Proofs.YtpfbemcoblganaaDoor.Pl
open Go.RowKit Go.Proofs.YtpfbemcoblganaaDoor.Pall Go.Proofs.YtpfbemcoblganaaDoorW.PrintWords
set_option linter.unusedVariables false
set_option linter.unusedSimpArgs false
theorem fsErr_rep (p : S43) (h : (printS p.f0 p.f1).2 = 0) : ∀ n, fsErr (List.replicate n p) = 0
  | 0 => rfl
  | n + 1 => by
    rw [List.replicate_succ]
    show (if (printS p.f0 p.f1).2 = 0 then fsErr (List.replicate n p) else _) = 0
    rw [if_pos h]; exact fsErr_rep p h n
theorem fsErr_app (l : List S43) (p : S43) (h : fsErr l = 0) : fsErr (l ++ [p]) = (printS p.f0 p.f1).2 := by
  induction l with
  | nil =>
    show (if (printS p.f0 p.f1).2 = 0 then 0 else _) = _
    split
    · rename_i h; exact h.symm
    · rfl
  | cons q l ih =>
    have hq : (printS q.f0 q.f1).2 = 0 := by
      by_cases h1 : (printS q.f0 q.f1).2 = 0
      · exact h1
      · unfold fsErr at h; rw [if_neg h1] at h; exact absurd h h1
    show (if (printS q.f0 q.f1).2 = 0 then fsErr (l ++ [p]) else _) = _
    rw [if_pos hq]
    unfold fsErr at h; rw [if_pos hq] at h
    exact ih h
theorem small_rep (p : S43) (h : p.f0.size ≤ 100 ∧ p.f1.size ≤ 100) (n : Nat) : smallF (List.replicate n p) = true := by
  unfold smallF
  rw [List.all_eq_true]
  intro x hx
  rw [(List.mem_replicate.1 hx).2]
  exact decide_eq_true ⟨by omega, by omega⟩
theorem prS_long {st : Int} {fs : List S43} {body : List Int} (h : reasonS st ≠ ⟨#[]⟩) (h2 : 4000 < body.length ∨ 40 < fs.length) : prS st fs body = ([], 3) := by
  unfold prS; rw [if_neg h, if_pos h2]
theorem prS_err {st : Int} {fs : List S43} {body : List Int} (h : reasonS st ≠ ⟨#[]⟩) (h2 : ¬ (4000 < body.length ∨ 40 < fs.length)) (h3 : fsErr fs ≠ 0) : prS st fs body = ([], fsErr fs) := by
  unfold prS; rw [if_neg h, if_neg h2, if_pos h3]
theorem prS_ok {st : Int} {fs : List S43} {body : List Int} (h : reasonS st ≠ ⟨#[]⟩) (h2 : ¬ (4000 < body.length ∨ 40 < fs.length)) (h3 : fsErr fs = 0) : prS st fs body = (numsL (hdT st ++ fsTxt fs ++ lenT body.length) ++ body, 0) := by
  unfold prS; rw [if_neg h, if_neg h2, if_neg (by rw [h3]; simp)]
theorem reason200 : reasonS 200 ≠ ⟨#[]⟩ := by decide
end Go.Proofs.YtpfbemcoblganaaDoor.Pl

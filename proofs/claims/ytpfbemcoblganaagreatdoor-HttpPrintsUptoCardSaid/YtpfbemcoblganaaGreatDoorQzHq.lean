/-
  http.Print: its contract in the printed form.
-/
import Derived.Test.YtpfbemcoblganaaGreatDoorQzHqb
namespace Go.Proofs.YtpfbemcoblganaaGreatDoor.Pall
open Go.RowKit Go.Proofs.YtpfbemcoblganaaGreatDoor.Pl Go.Proofs.YtpfbemcoblganaaGreatDoorW.PrintWords
set_option linter.unusedVariables false
def smallH (l : List S34) : Bool := l.all fun p => decide (p.f0.size ≤ 140737488351232 ∧ p.f1.size ≤ 140737488351232)
def bytesL (l : List Int) : Bool := l.all fun x => decide (0 ≤ x ∧ x ≤ 255)
def smallQ (m p : ByteArray) (fs : List S34) (b : List Int) : Bool := decide (m.size ≤ 1000000 ∧ p.size ≤ 1000000 ∧ fs.length ≤ 100000 ∧ b.length ≤ 1000000) && (smallH fs && bytesL b)
def http_Print.f (k : Nat) (m p : ByteArray) (fs : List S34) (b : List Int) : Option (List Int × Int) :=
  if smallQ m p fs b = true then (http_Parse.f (reqT m p fs b)).bind fun q => if q.2.2.2.2 = 0 then (http_Same.f k q.1 q.2.1 q.2.2.1 q.2.2.2.1 m p fs b).bind fun t => if t = true then some (reqT m p fs b, 0) else some ([], 10) else some ([], 10) else none
theorem http_Print.mono : ∀ a0 a1 a2 a3 k, LeO (http_Print.f k a0 a1 a2 a3) (http_Print.f (k + 1) a0 a1 a2 a3) := by
  intro a0 a1 a2 a3 k
  unfold http_Print.f
  repeat' first
   | (with_reducible exact http_Same.mono _ _ _ _ _ _ _ _ _)
   | (with_reducible exact LeO.refl _)
   | (with_reducible refine LeO.ite ?_ ?_)
   | (with_reducible refine LeO.bind ?_ (fun _ => ?_))
theorem http_Print.calls (k : Nat) (m p : ByteArray) (A2 : Option Addr) (c2 : Nat) (fs : List S34) (A3 : Option Addr) (c3 : Nat) (b : List Int) (r1 : List Int) (r2 : Int) (w : World) (h1 : Kd.C k34 w A2 fs.length fs) (h2 : fs.length ≤ c2) (h3 : Kd.C (Kd.int .u8) w A3 b.length b) (h4 : b.length ≤ c3) (hS : Sh w) (h : http_Print.f k m p fs b = some (r1, r2)) :
    Calls Tryz.prog 17 #[.agg #[.string m, .string p, .slice A2 fs.length c2, .slice A3 b.length c3]] w fun e w' => ∃ v0_ : Value, e = .returned (.tuple #[v0_, .int .u16 r2]) ∧ Kd.R (Kd.int .u8) 5 w' w.heap.size (fun _ => True) v0_ r1 ∧ Below w.heap.size w w' := by
  unfold http_Print.f at h
  split at h
  · rename_i hs
    unfold smallQ bytesL smallH at hs
    rw [Bool.and_eq_true, Bool.and_eq_true, decide_eq_true_eq, List.all_eq_true, List.all_eq_true] at hs
    obtain ⟨⟨s1, s2, s3, s4⟩, s5, s6⟩ := hs
    obtain ⟨bs, rfl⟩ := nums_of b (fun x hx => of_decide_eq_true (s6 x hx))
    rw [numsL_len] at s4
    have e : reqT m p fs (numsL bs) = numsL (reqL m p fs ++ bs) := by unfold reqT numsL; rw [List.map_append]
    rw [e] at h
    obtain ⟨⟨q1, q2, q3, q4, q5⟩, hq, h⟩ := Option.bind_eq_some_iff.1 h
    dsimp only at h
    refine hprint_go k m p fs bs A2 c2 A3 c3 w h1 h2 h3 h4 hS (fun p hp => of_decide_eq_true (s5 p hp)) s1 s2 s3 s4 q1 q2 q3 q4 q5 hq (r1, r2) ?_
    by_cases h5 : q5 = 0
    · rw [if_pos h5] at h
      obtain ⟨t, ht, h⟩ := Option.bind_eq_some_iff.1 h
      refine .inr ⟨h5, t, ht, ?_⟩
      cases t with
      | true => exact (Option.some.inj h).symm
      | false => exact (Option.some.inj h).symm
    · rw [if_neg h5] at h
      exact .inl ⟨h5, (Option.some.inj h).symm⟩
  · cases h
end Go.Proofs.YtpfbemcoblganaaGreatDoor.Pall

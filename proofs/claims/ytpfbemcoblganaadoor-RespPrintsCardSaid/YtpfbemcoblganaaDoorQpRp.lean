/-
  resp.Reason and resp.Print: their contracts in the printed form.
-/
import Derived.Test.YtpfbemcoblganaaDoorQpRpb
namespace Go.Proofs.YtpfbemcoblganaaDoor.Pall
open Go.RowKit Go.Proofs.YtpfbemcoblganaaDoorW.PrintWords Go.Proofs.YtpfbemcoblganaaDoorW.PrintLast Go.Proofs.YtpfbemcoblganaaDoor.Pl
set_option linter.unusedVariables false
def resp_Reason.f (a0 : Int) : Option ByteArray := some (reasonS a0)
theorem resp_Reason.calls (a0 : Int) (r : ByteArray) (w : World) (h : resp_Reason.f a0 = some r) :
    Calls Tryd.prog 36 #[.int .i64 a0] w fun e w' => e = .returned (.string r) ∧ Below w.heap.size w w' := by
  obtain rfl := Option.some.inj h
  exact reason_any a0 w
def smallF (l : List S43) : Bool := l.all fun p => decide (p.f0.size ≤ 140737488351232 ∧ p.f1.size ≤ 140737488351232)
def resp_Print.f (a0_0 : Int) (l0_1 : List S43) (l0_2 : List Int) : Option (List Int × Int) := if smallF l0_1 then some (prS a0_0 l0_1 l0_2) else none
theorem resp_Print.calls (a0_0 : Int) (A0_1 : Option Addr) (c0_1 : Nat) (l0_1 : List S43) (A0_2 : Option Addr) (c0_2 : Nat) (l0_2 : List Int) (r1 : List Int) (r2 : Int) (w : World) (hr0_1 : Kd.C k43 w A0_1 l0_1.length l0_1) (hc0_1 : l0_1.length ≤ c0_1) (hr0_2 : Kd.C (Kd.int .u8) w A0_2 l0_2.length l0_2) (hc0_2 : l0_2.length ≤ c0_2) (hT : Tb w) (h : resp_Print.f a0_0 l0_1 l0_2 = some (r1, r2)) :
    Calls Tryd.prog 27 #[.agg #[.int .i64 a0_0, .slice A0_1 l0_1.length c0_1, .slice A0_2 l0_2.length c0_2]] w fun e w' => ∃ v0_ : Value, e = .returned (.tuple #[v0_, .int .u16 r2]) ∧ Kd.R (Kd.int .u8) 5 w' w.heap.size (fun _ => True) v0_ r1 ∧ Below w.heap.size w w' := by
  unfold resp_Print.f at h
  split at h
  · rename_i hsm
    have h := Option.some.inj h
    have hs : ∀ p ∈ l0_1, p.f0.size ≤ 140737488351232 ∧ p.f1.size ≤ 140737488351232 := fun p hp => of_decide_eq_true (List.all_eq_true.1 hsm p hp)
    have key : Calls Tryd.prog 27 #[.agg #[.int .i64 a0_0, .slice A0_1 l0_1.length c0_1, .slice A0_2 l0_2.length c0_2]] w (PrGot w (prS a0_0 l0_1 l0_2)) := by
      by_cases h1 : reasonS a0_0 = ⟨#[]⟩
      · have := rprint_bad a0_0 A0_1 l0_1.length c0_1 A0_2 l0_2.length c0_2 w (.inl h1)
        unfold prS
        rw [if_pos h1] at this ⊢
        exact this
      · by_cases h2 : 4000 < l0_2.length ∨ 40 < l0_1.length
        · have := rprint_bad a0_0 A0_1 l0_1.length c0_1 A0_2 l0_2.length c0_2 w (.inr h2)
          unfold prS
          rw [if_neg h1] at this ⊢
          rw [if_pos h2]
          exact this
        · unfold prS
          rw [if_neg h1, if_neg h2]
          exact rprint_go a0_0 l0_1 l0_2 A0_1 c0_1 A0_2 c0_2 w hr0_1 hc0_1 hr0_2 hc0_2 hT hs h1 (by omega) (by omega) _ rfl
    rw [h] at key
    exact key
  · cases h
end Go.Proofs.YtpfbemcoblganaaDoor.Pall

/-
  HttpMost: what requests with many fields are parsed as.
-/
import Derived.Test.YtpfbemcoblganaaDoorQkPl10u
namespace Go.Proofs.YtpfbemcoblganaaDoor.Pl
open Go.RowKit Go.Proofs.YtpfbemcoblganaaDoor.Pall Go.Proofs.YtpfbemcoblganaaDoorW.PrintWords
set_option linter.unusedVariables false
set_option linter.unusedSimpArgs false
theorem splitC_one (c : UInt8) : ∀ a : List UInt8, (∀ x ∈ a, x ≠ c) → splitC c a = [a]
  | [], _ => rfl
  | b :: a, h => by
    rw [splitC, if_neg (h b (List.mem_cons_self ..)), splitC_one c a (fun x hx => h x (List.mem_cons_of_mem _ hx))]
theorem splitC_cut (c : UInt8) (r : List UInt8) : ∀ a : List UInt8, (∀ x ∈ a, x ≠ c) → splitC c (a ++ c :: r) = a :: splitC c r
  | [], _ => by rw [List.nil_append, splitC, if_pos rfl]
  | b :: a, h => by
    rw [List.cons_append, splitC, if_neg (h b (List.mem_cons_self ..)), splitC_cut c r a (fun x hx => h x (List.mem_cons_of_mem _ hx))]
def dgt (n : Nat) : UInt8 := UInt8.ofNat (48 + n % 10)
/-- a number's digits, up to four -/
def dgL (n : Nat) : List UInt8 := if n < 10 then [dgt n] else if n < 100 then [dgt (n / 10), dgt n] else if n < 1000 then [dgt (n / 100), dgt (n / 10), dgt n] else [dgt (n / 1000), dgt (n / 100), dgt (n / 10), dgt n]
set_option maxRecDepth 100000 in
theorem dgL_all : ((List.range 5000).all fun n => (decS (mkB (dgL n)) 4000 == (if n ≤ 4000 then ((n : Int), true) else (0, false))) && ((dgL n).all pthB && decide ((dgL n).length ≤ 4))) = true := by decide +kernel
theorem dgL_dec (n : Nat) (h : n < 5000) : decS (mkB (dgL n)) 4000 = (if n ≤ 4000 then ((n : Int), true) else (0, false)) ∧ (dgL n).all pthB = true ∧ (dgL n).length ≤ 4 := by
  have h1 := List.all_eq_true.1 dgL_all n (List.mem_range.2 h)
  rw [Bool.and_eq_true, Bool.and_eq_true] at h1
  exact ⟨beq_iff_eq.1 h1.1, h1.2.1, of_decide_eq_true h1.2.2⟩
end Go.Proofs.YtpfbemcoblganaaDoor.Pl

/-
  HttpMost: the law's digits.
-/
import Derived.Test.YtpfbemcoblganaaDoorQmPl09m
import Derived.Test.YtpfbemcoblganaaDoorQmPall16
namespace Go.Proofs.YtpfbemcoblganaaDoor.Pl
open Go.RowKit Go.Proofs.YtpfbemcoblganaaDoor.Pall Go.Proofs.YtpfbemcoblganaaDoorW.PrintWords
set_option linter.unusedVariables false
set_option linter.unusedSimpArgs false
theorem dgt_str (n : Nat) (hn : n < 5000) (m : Int) (hm : m = (n : Int) % 10) : strOfNums [(wrap64 (48 + m)) % 256] = mkB [dgt n] := by
  have e : (wrap64 (48 + m)) % 256 = ((48 + n % 10 : Nat) : Int) := by rw [wrap_id (by omega) (by omega)]; omega
  rw [e]
  refine ba_ext ?_
  rw [strOfNums_data]
  show [UInt8.ofNat (((48 + n % 10 : Nat) : Int)).toNat] = [dgt n]
  rw [Int.toNat_natCast]; rfl
theorem digits_end (n : Nat) (hn : n < 10) (s : ByteArray) (hs : s.size ≤ 100) : Ev (fun k => wicketmanlaw09_digits.l0 k (n : Int) s) (mkB [dgt n] ++ s) := by
  refine Ev.step (f := fun _ => some (mkB [dgt n] ++ s)) (fun k => ?_) (Ev.now _)
  simp only [wicketmanlaw09_digits.l0, Option.bind_some]
  have h1 : (mkB [dgt n]).size = 1 := rfl
  rw [if_neg (by omega), dgt_str n (by omega) (n : Int) (by omega), h1, if_pos (by omega)]
theorem digits_step (n : Nat) (h9 : 10 ≤ n) (hn : n < 5000) (s v : ByteArray) (hs : s.size ≤ 100) (h : Ev (fun k => wicketmanlaw09_digits.l0 k ((n / 10 : Nat) : Int) (mkB [dgt n] ++ s)) v) : Ev (fun k => wicketmanlaw09_digits.l0 k (n : Int) s) v := by
  refine Ev.step (fun k => ?_) h
  simp only [wicketmanlaw09_digits.l0, Option.bind_some]
  have h1 : (mkB [dgt n]).size = 1 := rfl
  have hd : Int.tdiv (n : Int) 10 = ((n / 10 : Nat) : Int) := by rw [Int.tdiv_eq_ediv_of_nonneg (by omega)]; omega
  rw [if_pos (by omega), tmod_pos _ (by omega) 10, dgt_str n hn _ rfl, h1, if_pos (by omega), hd, wrap_id (by omega) (by omega)]
theorem digits_ev (n : Nat) (hn : n < 5000) : Ev (fun k => wicketmanlaw09_digits.f k (n : Int)) (mkB (dgL n)) := by
  refine Ev.congr (f := fun k => wicketmanlaw09_digits.l0 k (n : Int) (mkB [])) (fun k => rfl) ?_
  have e1 : ∀ (a : UInt8) (l : List UInt8), mkB [a] ++ mkB l = mkB (a :: l) := fun a l => mkB_append [a] l
  unfold dgL
  by_cases h1 : n < 10
  · rw [if_pos h1]
    have h := digits_end n h1 (mkB []) (by decide)
    rw [e1] at h; exact h
  · rw [if_neg h1]
    refine digits_step n (by omega) hn (mkB []) _ (by decide) ?_
    rw [e1]
    by_cases h2 : n < 100
    · rw [if_pos h2]
      have h := digits_end (n / 10) (by omega) (mkB [dgt n]) (by rw [mkB_size]; simp)
      rw [e1] at h; exact h
    · rw [if_neg h2]
      refine digits_step (n / 10) (by omega) (by omega) (mkB [dgt n]) _ (by rw [mkB_size]; simp) ?_
      rw [e1, show n / 10 / 10 = n / 100 by omega]
      by_cases h3 : n < 1000
      · rw [if_pos h3]
        have h := digits_end (n / 100) (by omega) (mkB [dgt (n / 10), dgt n]) (by rw [mkB_size]; simp)
        rw [e1] at h; exact h
      · rw [if_neg h3]
        refine digits_step (n / 100) (by omega) (by omega) (mkB [dgt (n / 10), dgt n]) _ (by rw [mkB_size]; simp) ?_
        rw [e1, show n / 100 / 10 = n / 1000 by omega]
        have h := digits_end (n / 1000) (by omega) (mkB [dgt (n / 100), dgt (n / 10), dgt n]) (by rw [mkB_size]; simp)
        rw [e1] at h; exact h
end Go.Proofs.YtpfbemcoblganaaDoor.Pl

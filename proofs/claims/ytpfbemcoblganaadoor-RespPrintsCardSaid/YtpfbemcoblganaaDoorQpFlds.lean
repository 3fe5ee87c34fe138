/-
  Fields of lines; rows beside a box: what more than one walk uses.
-/
import Derived.Test.YtpfbemcoblganaaDoorQpPl08v
namespace Go.Proofs.YtpfbemcoblganaaDoor.Pl
open Go.RowKit Go.Proofs.YtpfbemcoblganaaDoor.Pall Go.Proofs.YtpfbemcoblganaaDoorW.PrintWords Go.Proofs.YtpfbemcoblganaaDoorW.PrintLast
set_option linter.unusedVariables false
set_option linter.unusedSimpArgs false
/-- what a line is read as -/
def fldS (l : ByteArray) : S43 := ⟨(fieldS l).1, (fieldS l).2.1⟩
/-- what is wrong with the first bad line -/
def fldsE : List ByteArray → Int
  | [] => 0
  | l :: r => if (fieldS l).2.2 = 0 then fldsE r else (fieldS l).2.2
theorem fldsE_app (xs ys : List ByteArray) (h : fldsE xs = 0) : fldsE (xs ++ ys) = fldsE ys := by
  induction xs with
  | nil => rfl
  | cons x xs ih =>
    unfold fldsE at h
    by_cases hx : (fieldS x).2.2 = 0
    · rw [if_pos hx] at h
      rw [List.cons_append, fldsE, if_pos hx]
      exact ih h
    · rw [if_neg hx] at h; exact absurd h hx
theorem fldsE_snoc_ok (xs : List ByteArray) (x : ByteArray) (h : fldsE xs = 0) (hx : (fieldS x).2.2 = 0) : fldsE (xs ++ [x]) = 0 := by
  rw [fldsE_app _ _ h, fldsE, if_pos hx]; rfl
theorem fldsE_bad (pre : List ByteArray) (x : ByteArray) (post : List ByteArray) (h : fldsE pre = 0) (hx : (fieldS x).2.2 ≠ 0) : fldsE (pre ++ x :: post) = (fieldS x).2.2 := by
  rw [fldsE_app _ _ h, fldsE, if_neg hx]
theorem rest_at {rest : List ByteArray} {j : Nat} (h : j < rest.length) : rest = rest.take j ++ rest.getD j ByteArray.empty :: rest.drop (j + 1) := by
  have e : rest.getD j ByteArray.empty = rest[j] := by rw [List.getD, List.getElem?_eq_getElem h]; rfl
  rw [e, List.getElem_cons_drop, List.take_append_drop]
theorem take_at {rest : List ByteArray} {j : Nat} (h : j < rest.length) : rest.take (j + 1) = rest.take j ++ [rest.getD j ByteArray.empty] := by
  have e : rest.getD j ByteArray.empty = rest[j] := by rw [List.getD, List.getElem?_eq_getElem h]; rfl
  rw [e, List.take_succ_eq_append_getElem h]
theorem own_ne {α : Type} {d : Kd α} {e b : Nat} {W : World} {ok : Nat → Prop} {v : Value} {xs : List α} (h : d.R e W (b + 1) ok v xs) : some b ≠ v.ownBlock := by
  obtain ⟨_, inner, ho, _⟩ := h
  intro he
  have := own_base ho b he.symm
  omega
theorem R_past {α : Type} {d : Kd α} {e b i : Nat} {W : World} {v : Value} {xs : List α} (h : d.R e W (b + 1) (fun _ => True) v xs) (u : Value) : d.R e (W.setCell ⟨b, i, none⟩ u) (b + 1) (fun _ => True) v xs :=
  Kd.R_mono (Kd.R_far (p := ⟨b, i, none⟩) (Kd.R_bound h) (fun k hk => by have := hk.2.1; show k ≠ b; omega) u) (fun _ _ => trivial)
theorem cut_bytes (A : Option Addr) (c : Nat) (xs : List Int) (m : Nat) (hm : m ≤ xs.length) (hc : xs.length ≤ c) :
    ∃ A' : Option Addr, (∀ W : World, (Instr.slice 22 (.slice A xs.length c) (some (.int .i64 (m : Int))) none none).run Tryd.prog W = .ok (.slice A' (xs.drop m).length (c - m)) W) ∧
      ∀ W : World, Kd.C (Kd.int .u8) W A xs.length xs → Kd.C (Kd.int .u8) W A' (xs.drop m).length (xs.drop m) := by
  obtain ⟨i, hi, _, hz, _⟩ := info_parts info5
  obtain ⟨A', h1, h2, _⟩ := print_drop_of (P := Tryd.prog) (Value.int .u8) (0 : Int) 22 5 .i64 Tryd.underlying22 hi hz A c xs (m : Int) (by omega) (by omega) hc
  rw [Int.toNat_natCast] at h1 h2
  exact ⟨A', h1, fun W h => Kd.C_of_reads (h1 := fun _ => rfl) (h2 W (Kd.reads_of_C (h1 := fun _ => rfl) h))⟩
theorem fld_size (l : ByteArray) (h : (fieldS l).2.2 = 0) : (fieldS l).1.size ≤ 140737488351232 := by
  unfold fieldS at h ⊢
  split at h
  · exact absurd h (by decide)
  · rename_i hl
    rw [if_neg hl]
    split at h
    · exact absurd h (by decide)
    · rename_i h2
      rw [if_neg h2]
      split at h
      · rename_i h3
        rw [if_pos h3]
        show (mkB _).size ≤ _
        rw [mkB_size, List.length_take, len_data]
        omega
      · exact absurd h (by decide)
end Go.Proofs.YtpfbemcoblganaaDoor.Pl

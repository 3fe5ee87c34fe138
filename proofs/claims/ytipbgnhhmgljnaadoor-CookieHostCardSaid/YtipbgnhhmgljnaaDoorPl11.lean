/-
  Package cookie and the laws of its layer: plain facts; contracts for the laws' walks.
-/
import Derived.Test.YtipbgnhhmgljnaaDoorSession
import Derived.Test.YtipbgnhhmgljnaaDoorRowA
import Derived.Lib.ItoaLen
namespace Go.Proofs.YtipbgnhhmgljnaaDoor.Pl
open Go.RowKit Go.Proofs.YtipbgnhhmgljnaaDoor.Pall Go.Proofs.YtipbgnhhmgljnaaDoor.Split Go.Proofs.YtipbgnhhmgljnaaDoorW.PrintWords
set_option linter.unusedVariables false
set_option linter.unusedSimpArgs false

theorem row_lit (W : World) (xs : List ByteArray) (h : xs.length ≤ 9223372036854775807) : Kd.C Kd.string (W.alloc (.cells (xs.map Value.string).toArray 9)) (some ⟨W.heap.size, 0, none⟩) xs.length xs :=
  (Kd.R_reads' (d := Kd.string) (e := 9) (base := W.heap.size) (ok := fun _ => True) (c := xs.length) ⟨fun _ _ => trivial, OwnRow.lit W W.heap.size (Kd.reps_scalar (enc := Value.string) xs) (Nat.le_refl _) h⟩).2.2

/-! ### Set -/
def restB : ByteArray := ⟨#[59, 32, 80, 97, 116, 104, 61, 47, 59, 32, 83, 101, 99, 117, 114, 101, 59, 32, 72, 116, 116, 112, 79, 110, 108, 121, 59, 32, 83, 97, 109, 101, 83, 105, 116, 101, 61, 83, 116, 114, 105, 99, 116]⟩
def setT (n v : ByteArray) (t : Int) : ByteArray := ((((n ++ ⟨#[61]⟩) ++ v) ++ ⟨#[59, 32]⟩) ++ ⟨#[77, 97, 120, 45, 65, 103, 101, 61]⟩) ++ (⟨(Lib.itoa t).toArray⟩ : ByteArray) ++ restB
def setS (n v : ByteArray) (t : Int) : ByteArray × Int := if tokL n.data.toList = true ∧ octL v.data.toList = true ∧ 0 ≤ t ∧ t ≤ 999999999 then (setT n v t, 0) else (⟨#[]⟩, 1)
theorem itoa_small (t : Int) (h0 : 0 ≤ t) (h1 : t ≤ 999999999) : (Lib.itoa t).length ≤ 1000 := by
  have := Lib.itoa_length_le t (by omega) (by omega); omega
theorem set_ev (n v : ByteArray) (t : Int) (hn : n.size ≤ 140737488351232) (hv : v.size ≤ 140737488351232) : cookie_Set.f n v t = some (setS n v t) := by
  unfold cookie_Set.f head_Token.f cookie_octets.f strconv_Itoa.f setS
  simp only [Option.bind_some]
  by_cases h1 : tokL n.data.toList = true
  · rw [if_pos h1]
    by_cases h2 : octL v.data.toList = true
    · rw [if_pos h2]
      by_cases h3 : t < 0
      · rw [if_pos h3, if_neg (fun h => by omega)]
      · rw [if_neg h3]
        by_cases h4 : t > 999999999
        · rw [if_pos h4, if_neg (fun h => by omega)]
        · have hi := itoa_small t (by omega) (by omega)
          have hsz : (⟨(Lib.itoa t).toArray⟩ : ByteArray).size = (Lib.itoa t).length := rfl
          have e1 : (⟨#[61]⟩ : ByteArray).size = 1 := rfl
          have e2 : (⟨#[59, 32]⟩ : ByteArray).size = 2 := rfl
          have e3 : (⟨#[77, 97, 120, 45, 65, 103, 101, 61]⟩ : ByteArray).size = 8 := rfl
          simp only [ByteArray.size_append, hsz, e1, e2, e3]
          rw [if_neg h4, if_pos (by omega), if_pos (by omega), if_pos (by omega), if_pos (by omega), if_pos (show -9223372036854775808 ≤ t ∧ t ≤ 9223372036854775807 from ⟨by omega, by omega⟩), Option.bind_some, if_pos (by omega), if_pos (by omega), if_pos ⟨h1, h2, by omega, by omega⟩]
          rfl
    · rw [if_neg h2, if_neg (fun h => h2 h.2.1)]
  · rw [if_neg h1, if_neg (fun h => h1 h.1)]
theorem set_any (n v : ByteArray) (t : Int) (hn : n.size ≤ 140737488351232) (hv : v.size ≤ 140737488351232) (w : World) (hS : Sh w) :
    Calls Tryd.prog 18 #[.agg #[.string n, .string v], .int .i64 t] w fun e w' => e = .returned (.tuple #[.string (setS n v t).1, .int .u16 (setS n v t).2]) ∧ Below w.heap.size w w' :=
  cookie_Set.calls n v t _ _ w hS (set_ev n v t hn hv)

/-! ### the chapter's example -/
theorem known_one : sessS [(⟨#[97, 61, 49, 59, 32, 95, 95, 72, 111, 115, 116, 45, 105, 100, 61, 53]⟩ : ByteArray)] = (⟨#[53]⟩, true) := by decide +kernel
theorem known_two : sessS [(⟨#[95, 95, 72, 111, 115, 116, 45, 105, 100, 61, 53, 59, 32, 95, 95, 72, 111, 115, 116, 45, 105, 100, 61, 53]⟩ : ByteArray)] = (⟨#[]⟩, false) := by decide +kernel
theorem known_set : setS (⟨#[97]⟩ : ByteArray) (⟨#[49]⟩ : ByteArray) 7 = ((⟨#[97, 61, 49, 59, 32, 77, 97, 120, 45, 65, 103, 101, 61, 55]⟩ : ByteArray) ++ restB, 0) := by decide +kernel
set_option maxRecDepth 100000 in
theorem known11_any (w : World) (hS : Sh w) : Calls Tryd.prog 11 #[] w fun e w' => e = .returned (.bool true) ∧ Below w.heap.size w w' := by
  go_enter Tryd.func11, Tryd.ntmps11
  have HB0 := hid (Below.refl w.heap.size w)
  go_wp2_with fail
  have r1 := row_lit w [(⟨#[97, 61, 49, 59, 32, 95, 95, 72, 111, 115, 116, 45, 105, 100, 61, 53]⟩ : ByteArray)] (by decide)
  refine (session_any _ 1 _ _ r1 (by decide) (by intro v hv; rw [List.mem_singleton.1 hv]; decide) (by decide) (hS.of_below (by repeat (first | (with_reducible first | exact HB0.out | apply below_alloc | apply pw_below_drewN | apply below_drew1) | exact HB0.out)))).mono ?_
  rintro e w1 ⟨rfl, hb1⟩
  rw [known_one]
  have HB1 := hid (below_step (by repeat (first | (with_reducible first | exact HB0.out | apply below_alloc | apply pw_below_drewN | apply below_drew1) | exact HB0.out)) hb1)
  clear r1 hb1
  go_wp2_with fail
  have r2 := row_lit w1 [(⟨#[95, 95, 72, 111, 115, 116, 45, 105, 100, 61, 53, 59, 32, 95, 95, 72, 111, 115, 116, 45, 105, 100, 61, 53]⟩ : ByteArray)] (by decide)
  refine (session_any _ 1 _ _ r2 (by decide) (by intro v hv; rw [List.mem_singleton.1 hv]; decide) (by decide) (hS.of_below (by repeat (first | (with_reducible first | exact HB1.out | apply below_alloc | apply pw_below_drewN | apply below_drew1) | exact HB1.out)))).mono ?_
  rintro e w2 ⟨rfl, hb2⟩
  rw [known_two]
  have HB2 := hid (below_step (by repeat (first | (with_reducible first | exact HB1.out | apply below_alloc | apply pw_below_drewN | apply below_drew1) | exact HB1.out)) hb2)
  clear r2 hb2
  go_wp2_with fail
  refine (set_any _ _ _ (by decide) (by decide) _ (hS.of_below (by repeat (first | (with_reducible first | exact HB2.out | apply below_alloc | apply pw_below_drewN | apply below_drew1) | exact HB2.out)))).mono ?_
  rintro e w3 ⟨rfl, hb3⟩
  rw [known_set]
  have HB3 := hid (below_step (by repeat (first | (with_reducible first | exact HB2.out | apply below_alloc | apply pw_below_drewN | apply below_drew1) | exact HB2.out)) hb3)
  clear hb3
  go_wp2
  go_ret
  exact ⟨congrArg (fun b => Ending.returned (Value.bool b)) (show (_ : Bool) = true by decide +kernel), HB3.out⟩
end Go.Proofs.YtipbgnhhmgljnaaDoor.Pl

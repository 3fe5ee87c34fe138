/-
 resp.Reason.
-/
import Derived.Test.YthdiiiopjkaifaaGreatDoorZdMaps
namespace Go.Proofs.YthdiiiopjkaifaaGreatDoor.Pl
open Go.RowKit
open Go.MapKept (IsKey)
set_option linter.unusedVariables false
set_option linter.unusedSimpArgs false
def mapI (l : List (Int × ByteArray)) : List MapEntry := l.zipIdx.map fun p => ⟨.int .i64 p.1.1, .string p.1.2, p.2⟩
def reasonsL : List (Int × ByteArray) := [(200, ⟨#[79, 75]⟩), (303, ⟨#[83, 101, 101, 32, 79, 116, 104, 101, 114]⟩), (400, ⟨#[66, 97, 100, 32, 82, 101, 113, 117, 101, 115, 116]⟩), (401, ⟨#[85, 110, 97, 117, 116, 104, 111, 114, 105, 122, 101, 100]⟩), (403, ⟨#[70, 111, 114, 98, 105, 100, 100, 101, 110]⟩), (404, ⟨#[78, 111, 116, 32, 70, 111, 117, 110, 100]⟩), (405, ⟨#[77, 101, 116, 104, 111, 100, 32, 78, 111, 116, 32, 65, 108, 108, 111, 119, 101, 100]⟩), (409, ⟨#[67, 111, 110, 102, 108, 105, 99, 116]⟩), (413, ⟨#[67, 111, 110, 116, 101, 110, 116, 32, 84, 111, 111, 32, 76, 97, 114, 103, 101]⟩), (429, ⟨#[84, 111, 111, 32, 77, 97, 110, 121, 32, 82, 101, 113, 117, 101, 115, 116, 115]⟩), (431, ⟨#[82, 101, 113, 117, 101, 115, 116, 32, 72, 101, 97, 100, 101, 114, 32, 70, 105, 101, 108, 100, 115, 32, 84, 111, 111, 32, 76, 97, 114, 103, 101]⟩), (503, ⟨#[83, 101, 114, 118, 105, 99, 101, 32, 85, 110, 97, 118, 97, 105, 108, 97, 98, 108, 101]⟩)]
/-- what a list of entries has at a number -/
def atI (l : List (Int × ByteArray)) (n : Int) : Option ByteArray := (l.find? fun p => p.1 == n).map (·.2)
theorem find_mapI (n : Int) : ∀ (l : List (Int × ByteArray)) (i j : Nat), ∃ r, Instr.findNow (.int .i64) (.int .i64 n) ((l.zipIdx i).map fun p => (⟨.int .i64 p.1.1, .string p.1.2, p.2⟩ : MapEntry)) j = some r ∧ r.map (·.2) = (atI l n).map Value.string
 | [], i, j => ⟨none, rfl, rfl⟩
 | p :: l, i, j => by
  obtain ⟨r, h1, h2⟩ := find_mapI n l (i + 1) (j + 1)
  rw [List.zipIdx_cons, List.map_cons]
  by_cases h : p.1 = n
  ·refine ⟨some (j, .string p.2), ?_, ?_⟩
   ·simp [Instr.findNow, Instr.sameNow, h]
   ·simp [atI, h]
  ·have h' : (p.1 == n) = false := beq_eq_false_iff_ne.2 h
   have h'' : (n == p.1) = false := beq_eq_false_iff_ne.2 (Ne.symm h)
   refine ⟨r, ?_, ?_⟩
   ·simp [Instr.findNow, Instr.sameNow, h'', h1]
   ·rw [h2]; unfold atI; rw [List.find?_cons, h']
def reasonS (n : Int) : ByteArray := (atI reasonsL n).getD ByteArray.empty
set_option maxRecDepth 100000 in
theorem reasons_any (w : World) : Calls Tryz.prog 120 #[] w fun e w' => e = .returned (.map (some w.heap.size)) ∧ w' = w.alloc (.map (mapI reasonsL).toArray 12) := by
 have hmk := @run_makeMap Tryz.prog
 have hin := fun (es : List MapEntry) (c : Nat) (n : Int) (v : Value) (hf : Instr.findNow (.int .i64) (.int .i64 n) es 0 = some none) => insert_new w es c (.int .i64 n) v Tryz.underlying204 Tryz.underlying3 rfl hf
 have i0 := hin ((mapI reasonsL).take 0) 0 200 (.string ⟨#[79, 75]⟩) rfl
 simp [mapI, reasonsL] at i0
 have i1 := hin ((mapI reasonsL).take 1) 1 303 (.string ⟨#[83, 101, 101, 32, 79, 116, 104, 101, 114]⟩) rfl
 simp [mapI, reasonsL] at i1
 have i2 := hin ((mapI reasonsL).take 2) 2 400 (.string ⟨#[66, 97, 100, 32, 82, 101, 113, 117, 101, 115, 116]⟩) rfl
 simp [mapI, reasonsL] at i2
 have i3 := hin ((mapI reasonsL).take 3) 3 401 (.string ⟨#[85, 110, 97, 117, 116, 104, 111, 114, 105, 122, 101, 100]⟩) rfl
 simp [mapI, reasonsL] at i3
 have i4 := hin ((mapI reasonsL).take 4) 4 403 (.string ⟨#[70, 111, 114, 98, 105, 100, 100, 101, 110]⟩) rfl
 simp [mapI, reasonsL] at i4
 have i5 := hin ((mapI reasonsL).take 5) 5 404 (.string ⟨#[78, 111, 116, 32, 70, 111, 117, 110, 100]⟩) rfl
 simp [mapI, reasonsL] at i5
 have i6 := hin ((mapI reasonsL).take 6) 6 405 (.string ⟨#[77, 101, 116, 104, 111, 100, 32, 78, 111, 116, 32, 65, 108, 108, 111, 119, 101, 100]⟩) rfl
 simp [mapI, reasonsL] at i6
 have i7 := hin ((mapI reasonsL).take 7) 7 409 (.string ⟨#[67, 111, 110, 102, 108, 105, 99, 116]⟩) rfl
 simp [mapI, reasonsL] at i7
 have i8 := hin ((mapI reasonsL).take 8) 8 413 (.string ⟨#[67, 111, 110, 116, 101, 110, 116, 32, 84, 111, 111, 32, 76, 97, 114, 103, 101]⟩) rfl
 simp [mapI, reasonsL] at i8
 have i9 := hin ((mapI reasonsL).take 9) 9 429 (.string ⟨#[84, 111, 111, 32, 77, 97, 110, 121, 32, 82, 101, 113, 117, 101, 115, 116, 115]⟩) rfl
 simp [mapI, reasonsL] at i9
 have i10 := hin ((mapI reasonsL).take 10) 10 431 (.string ⟨#[82, 101, 113, 117, 101, 115, 116, 32, 72, 101, 97, 100, 101, 114, 32, 70, 105, 101, 108, 100, 115, 32, 84, 111, 111, 32, 76, 97, 114, 103, 101]⟩) rfl
 simp [mapI, reasonsL] at i10
 have i11 := hin ((mapI reasonsL).take 11) 11 503 (.string ⟨#[83, 101, 114, 118, 105, 99, 101, 32, 85, 110, 97, 118, 97, 105, 108, 97, 98, 108, 101]⟩) rfl
 simp [mapI, reasonsL] at i11
 go_enter Tryz.func120, Tryz.ntmps120
 go_wp2
 go_ret
 exact ⟨rfl, rfl⟩
theorem reason_any (n : Int) (w : World) : Calls Tryz.prog 72 #[.int .i64 n] w fun e w' => e = .returned (.string (reasonS n)) ∧ Below w.heap.size w w' := by
 have hz : (zeroValue 9).run Tryz.prog (w.alloc (.map (mapI reasonsL).toArray 12)) = .ok (.string ByteArray.empty) (w.alloc (.map (mapI reasonsL).toArray 12)) := by kernel_rfl
 have hlk : (Instr.lookup 204 (.map (some w.heap.size)) (.int .i64 n) false).run Tryz.prog (w.alloc (.map (mapI reasonsL).toArray 12)) = .ok (.string (reasonS n)) (w.alloc (.map (mapI reasonsL).toArray 12)) := by
  obtain ⟨r, h1, h2⟩ := find_mapI n reasonsL 0 0
  rw [look_in (.int .i64 n) (.string ByteArray.empty) false r Tryz.underlying204 Tryz.underlying3 (clock := 12) (es := mapI reasonsL) (by show (w.heap.push _)[w.heap.size]? = _; simp) rfl h1 hz]
  rw [h2]
  unfold reasonS
  cases atI reasonsL n <;> rfl
 go_enter Tryz.func72, Tryz.ntmps72
 go_wp2_with (go_at_call 120; refine (reasons_any _).mono ?_; rintro e w' ⟨rfl, rfl⟩)
 go_ret
 exact ⟨rfl, (Below.refl _ _).alloc (Nat.le_refl _) _⟩
end Go.Proofs.YthdiiiopjkaifaaGreatDoor.Pl

/-
-/
import Derived.Test.YthdiiiopjkaifaaGreatDoorZdPall0
import Derived.Test.YthdiiiopjkaifaaGreatDoorZdPall7
section
namespace Go.Proofs.YthdiiiopjkaifaaGreatDoor.Pall
open Go.RowKit Go.Proofs.YthdiiiopjkaifaaGreatDoorW.PrintWords Go.Proofs.YthdiiiopjkaifaaGreatDoorW.PrintLast
set_option linter.unusedVariables false
set_option linter.unusedSimpArgs false
def wicketmanref11_Octets.l0 : Nat → ByteArray → Int → Option (Bool)
 | 0, _, _ => none
 | k + 1, x0, x3 => if x3 < (x0.size : Int) then (if 0 ≤ x3 then (if (bt x0 x3) < 33 then (some false) else (if (bt x0 x3) > 126 then (some false) else (if (bt x0 x3) = 34 then (some false) else (if (bt x0 x3) = 44 then (some false) else (if (bt x0 x3) = 59 then (some false) else (if (bt x0 x3) = 92 then (some false) else (wicketmanref11_Octets.l0 k x0 (wrap64 (x3 + 1))))))))) else (none)) else (some true)
def wicketmanref11_Octets.f (k : Nat) (a0 : ByteArray) : Option (Bool) := wicketmanref11_Octets.l0 k a0 0
theorem wicketmanref11_Octets.mono_l : ∀ k, (∀ y0 y1, LeO (wicketmanref11_Octets.l0 k y0 y1) (wicketmanref11_Octets.l0 (k + 1) y0 y1))
 | 0 => fun _ _ r h => by simp [wicketmanref11_Octets.l0] at h
 | k + 1 => by
  have ih0 := wicketmanref11_Octets.mono_l k
  ·intro y0 y1
   unfold wicketmanref11_Octets.l0
   repeat' first|(with_reducible first|exact ih0 _ _|exact LeO.refl _|exact LeO.none _|refine LeO.ite ?_ ?_|refine LeO.bind ?_ (fun _ => ?_))|exact LeO.none _|refine LeO.ite ?_ ?_|refine LeO.bind ?_ (fun _ => ?_)
theorem wicketmanref11_Octets.mono : ∀ a0 k, LeO (wicketmanref11_Octets.f k a0) (wicketmanref11_Octets.f (k + 1) a0) := by
 intro a0 k
 have ih0 := wicketmanref11_Octets.mono_l k
 unfold wicketmanref11_Octets.f
 repeat' first|(with_reducible first|exact ih0 _ _|exact LeO.refl _|exact LeO.none _|refine LeO.ite ?_ ?_|refine LeO.bind ?_ (fun _ => ?_))|exact LeO.none _|refine LeO.ite ?_ ?_|refine LeO.bind ?_ (fun _ => ?_)
def wicketmanref11_Set.f (k : Nat) (a0_0 : ByteArray) (a0_1 : ByteArray) (a1 : Int) : Option (ByteArray × Int) := (wicketmanref08_Token.f k a0_0).bind fun t261 => (if t261 = true then ((wicketmanref11_Octets.f k a0_1).bind fun t262 => (if t262 = true then (if a1 < 0 then (some ((⟨#[]⟩ : BA), 1)) else (if a1 > 999999999 then (some ((⟨#[]⟩ : BA), 1)) else (if a0_0.size + 1 ≤ 9223372036854775807 then (if (a0_0 ++ (⟨#[61]⟩ : BA)).size + a0_1.size ≤ 9223372036854775807 then (if ((a0_0 ++ (⟨#[61]⟩ : BA)) ++ a0_1).size + 10 ≤ 9223372036854775807 then ((strconv_Itoa.f a1).bind fun t263 => (if (((a0_0 ++ (⟨#[61]⟩ : BA)) ++ a0_1) ++ (⟨#[59, 32, 77, 97, 120, 45, 65, 103, 101, 61]⟩ : BA)).size + t263.size ≤ 9223372036854775807 then (if ((((a0_0 ++ (⟨#[61]⟩ : BA)) ++ a0_1) ++ (⟨#[59, 32, 77, 97, 120, 45, 65, 103, 101, 61]⟩ : BA)) ++ t263).size + 43 ≤ 9223372036854775807 then (some (((((a0_0 ++ (⟨#[61]⟩ : BA)) ++ a0_1) ++ (⟨#[59, 32, 77, 97, 120, 45, 65, 103, 101, 61]⟩ : BA)) ++ t263) ++ (⟨#[59, 32, 80, 97, 116, 104, 61, 47, 59, 32, 83, 101, 99, 117, 114, 101, 59, 32, 72, 116, 116, 112, 79, 110, 108, 121, 59, 32, 83, 97, 109, 101, 83, 105, 116, 101, 61, 83, 116, 114, 105, 99, 116]⟩ : BA), 0)) else (none)) else (none))) else (none)) else (none)) else (none)))) else (some ((⟨#[]⟩ : BA), 1)))) else (some ((⟨#[]⟩ : BA), 1)))
theorem wicketmanref11_Set.mono : ∀ a0 a1 a2 k, LeO (wicketmanref11_Set.f k a0 a1 a2) (wicketmanref11_Set.f (k + 1) a0 a1 a2) := by
 intro a0 a1 a2 k
 unfold wicketmanref11_Set.f
 repeat' first|(with_reducible first|exact wicketmanref08_Token.mono _ _|exact wicketmanref11_Octets.mono _ _|exact LeO.refl _|exact LeO.none _|refine LeO.ite ?_ ?_|refine LeO.bind ?_ (fun _ => ?_))|exact LeO.none _|refine LeO.ite ?_ ?_|refine LeO.bind ?_ (fun _ => ?_)
mutual
def wicketmanref06_more.j0 : Nat → Int → Bool → Option (Int)
 | 0, _, _ => none
 | k + 1, x0, x10 => if x10 = true then (some 1) else (if x0 ≥ 224 then (wicketmanref06_more.j1 k x0 (decide (x0 ≤ 239))) else (wicketmanref06_more.j1 k x0 false))
def wicketmanref06_more.j1 : Nat → Int → Bool → Option (Int)
 | 0, _, _ => none
 | k + 1, x0, x16 => if x16 = true then (some 2) else (if x0 ≥ 240 then (if x0 ≤ 244 then (some 3) else (some (-1))) else (some (-1)))
end
def wicketmanref06_more.f (k : Nat) (a0 : Int) : Option (Int) := if a0 < 128 then (some 0) else (if a0 ≥ 194 then (wicketmanref06_more.j0 k a0 (decide (a0 ≤ 223))) else (wicketmanref06_more.j0 k a0 false))
theorem wicketmanref06_more.mono_l : ∀ k, (∀ y0 y1, LeO (wicketmanref06_more.j0 k y0 y1) (wicketmanref06_more.j0 (k + 1) y0 y1)) ∧ (∀ y0 y1, LeO (wicketmanref06_more.j1 k y0 y1) (wicketmanref06_more.j1 (k + 1) y0 y1))
 | 0 => ⟨fun _ _ r h => by simp [wicketmanref06_more.j0] at h, fun _ _ r h => by simp [wicketmanref06_more.j1] at h⟩
 | k + 1 => by
  obtain ⟨ih0, ih1⟩ := wicketmanref06_more.mono_l k
  refine ⟨?_, ?_⟩
  ·intro y0 y1
   unfold wicketmanref06_more.j0
   repeat' first|(with_reducible first|exact ih0 _ _|exact ih1 _ _|exact LeO.refl _|exact LeO.none _|refine LeO.ite ?_ ?_|refine LeO.bind ?_ (fun _ => ?_))|exact LeO.none _|refine LeO.ite ?_ ?_|refine LeO.bind ?_ (fun _ => ?_)
  ·intro y0 y1
   unfold wicketmanref06_more.j1
   repeat' first|(with_reducible first|exact ih0 _ _|exact ih1 _ _|exact LeO.refl _|exact LeO.none _|refine LeO.ite ?_ ?_|refine LeO.bind ?_ (fun _ => ?_))|exact LeO.none _|refine LeO.ite ?_ ?_|refine LeO.bind ?_ (fun _ => ?_)
theorem wicketmanref06_more.mono : ∀ a0 k, LeO (wicketmanref06_more.f k a0) (wicketmanref06_more.f (k + 1) a0) := by
 intro a0 k
 obtain ⟨ih0, ih1⟩ := wicketmanref06_more.mono_l k
 unfold wicketmanref06_more.f
 repeat' first|(with_reducible first|exact ih0 _ _|exact ih1 _ _|exact LeO.refl _|exact LeO.none _|refine LeO.ite ?_ ?_|refine LeO.bind ?_ (fun _ => ?_))|exact LeO.none _|refine LeO.ite ?_ ?_|refine LeO.bind ?_ (fun _ => ?_)
end Go.Proofs.YthdiiiopjkaifaaGreatDoor.Pall
end
section
namespace Go.Proofs.YthdiiiopjkaifaaGreatDoor.Pall
open Go.RowKit Go.Proofs.YthdiiiopjkaifaaGreatDoorW.PrintWords Go.Proofs.YthdiiiopjkaifaaGreatDoorW.PrintLast
set_option linter.unusedVariables false
set_option linter.unusedSimpArgs false
mutual
def wicketmanref06_One.j0 : Nat → ByteArray → Bool → Option (Int × Int)
 | 0, _, _ => none
 | k + 1, x0, x23 => if x23 = true then (some (0, 0)) else (if 0 < (x0.size : Int) then ((wicketmanref06_more.f k (bt x0 0)).bind fun t266 => (if t266 > 0 then (if 0 ≤ (IntKind.u64.wrap (t266)) then (if (shr .i64 64 (IntKind.u64.wrap (t266))) = 0 then (none) else (wicketmanref06_One.j1 k x0 t266 (Int.tmod (wrap64 (bt x0 0)) (shr .i64 64 (IntKind.u64.wrap (t266)))))) else (none)) else (wicketmanref06_One.j1 k x0 t266 (wrap64 (bt x0 0))))) else (none))
def wicketmanref06_One.j1 : Nat → ByteArray → Int → Int → Option (Int × Int)
 | 0, _, _, _ => none
 | k + 1, x0, x4, x5 => wicketmanref06_One.l0 k x0 x4 x5 1
def wicketmanref06_One.l0 : Nat → ByteArray → Int → Int → Int → Option (Int × Int)
 | 0, _, _, _, _ => none
 | k + 1, x0, x4, x5, x6 => if x6 ≤ x4 then (if 0 ≤ x6 then (if x6 < (x0.size : Int) then (if (bt x0 x6) < 128 then (some (0, 0)) else (if (bt x0 x6) > 191 then (some (0, 0)) else (wicketmanref06_One.l0 k x0 x4 (wrap64 ((wrap64 (64 * x5)) + (wrap64 (Int.tmod (bt x0 x6) 64)))) (wrap64 (x6 + 1))))) else (none)) else (none)) else ((some (([0, 128, 2048, 65536] : List Int) : List Int)).bind fun y267 => (if 0 ≤ x4 then (if x4 < (y267.length : Int) then (if x5 < (rd y267 x4) then (some (0, 0)) else (if x5 ≥ 55296 then (if x5 ≤ 57343 then (some (0, 0)) else (if x5 > 1114111 then (some (0, 0)) else (some (x5, wrap64 (x4 + 1))))) else (if x5 > 1114111 then (some (0, 0)) else (some (x5, wrap64 (x4 + 1)))))) else (none)) else (none)))
end
def wicketmanref06_One.f (k : Nat) (a0 : ByteArray) : Option (Int × Int) := if a0.toList = ([] : List UInt8) then (wicketmanref06_One.j0 k a0 true) else (if 0 < (a0.size : Int) then ((wicketmanref06_more.f k (bt a0 0)).bind fun t264 => (if t264 < 0 then (wicketmanref06_One.j0 k a0 true) else ((wicketmanref06_more.f k (bt a0 0)).bind fun t265 => (wicketmanref06_One.j0 k a0 (decide (t265 ≥ (a0.size : Int))))))) else (none))
theorem wicketmanref06_One.mono_l : ∀ k, (∀ y0 y1, LeO (wicketmanref06_One.j0 k y0 y1) (wicketmanref06_One.j0 (k + 1) y0 y1)) ∧ (∀ y0 y1 y2, LeO (wicketmanref06_One.j1 k y0 y1 y2) (wicketmanref06_One.j1 (k + 1) y0 y1 y2)) ∧ (∀ y0 y1 y2 y3, LeO (wicketmanref06_One.l0 k y0 y1 y2 y3) (wicketmanref06_One.l0 (k + 1) y0 y1 y2 y3))
 | 0 => ⟨fun _ _ r h => by simp [wicketmanref06_One.j0] at h, fun _ _ _ r h => by simp [wicketmanref06_One.j1] at h, fun _ _ _ _ r h => by simp [wicketmanref06_One.l0] at h⟩
 | k + 1 => by
  obtain ⟨ih0, ih1, ih2⟩ := wicketmanref06_One.mono_l k
  refine ⟨?_, ?_, ?_⟩
  ·intro y0 y1
   unfold wicketmanref06_One.j0
   repeat' first|(with_reducible first|exact ih0 _ _|exact ih1 _ _ _|exact ih2 _ _ _ _|exact wicketmanref06_more.mono _ _|exact LeO.refl _|exact LeO.none _|refine LeO.ite ?_ ?_|refine LeO.bind ?_ (fun _ => ?_))|exact LeO.none _|refine LeO.ite ?_ ?_|refine LeO.bind ?_ (fun _ => ?_)
  ·intro y0 y1 y2
   unfold wicketmanref06_One.j1
   repeat' first|(with_reducible first|exact ih0 _ _|exact ih1 _ _ _|exact ih2 _ _ _ _|exact wicketmanref06_more.mono _ _|exact LeO.refl _|exact LeO.none _|refine LeO.ite ?_ ?_|refine LeO.bind ?_ (fun _ => ?_))|exact LeO.none _|refine LeO.ite ?_ ?_|refine LeO.bind ?_ (fun _ => ?_)
  ·intro y0 y1 y2 y3
   unfold wicketmanref06_One.l0
   repeat' first|(with_reducible first|exact ih0 _ _|exact ih1 _ _ _|exact ih2 _ _ _ _|exact wicketmanref06_more.mono _ _|exact LeO.refl _|exact LeO.none _|refine LeO.ite ?_ ?_|refine LeO.bind ?_ (fun _ => ?_))|exact LeO.none _|refine LeO.ite ?_ ?_|refine LeO.bind ?_ (fun _ => ?_)
theorem wicketmanref06_One.mono : ∀ a0 k, LeO (wicketmanref06_One.f k a0) (wicketmanref06_One.f (k + 1) a0) := by
 intro a0 k
 obtain ⟨ih0, ih1, ih2⟩ := wicketmanref06_One.mono_l k
 unfold wicketmanref06_One.f
 repeat' first|(with_reducible first|exact ih0 _ _|exact ih1 _ _ _|exact ih2 _ _ _ _|exact wicketmanref06_more.mono _ _|exact LeO.refl _|exact LeO.none _|refine LeO.ite ?_ ?_|refine LeO.bind ?_ (fun _ => ?_))|exact LeO.none _|refine LeO.ite ?_ ?_|refine LeO.bind ?_ (fun _ => ?_)
def wicketmanref06_Escape.l0 : Nat → ByteArray → ByteArray → Option (ByteArray)
 | 0, _, _ => none
 | k + 1, x0, x3 => if x0.toList = ([] : List UInt8) then (some x3) else ((wicketmanref06_One.f k x0).bind fun bt271 => (if 0 ≤ (mx bt271.2 1) then (if (mx bt271.2 1) ≤ (x0.size : Int) then (if 0 < (x0.size : Int) then (if (bt x0 0) = 38 then (if bt271.2 = 0 then (if x3.size + 1 ≤ 9223372036854775807 then (wicketmanref06_Escape.l0 k (x0.extract ((mx bt271.2 1) : Int).toNat x0.size) (x3 ++ (⟨#[63]⟩ : BA))) else (none)) else (if x3.size + 5 ≤ 9223372036854775807 then (wicketmanref06_Escape.l0 k (x0.extract ((mx bt271.2 1) : Int).toNat x0.size) (x3 ++ (⟨#[38, 97, 109, 112, 59]⟩ : BA))) else (none))) else (if (bt x0 0) = 60 then (if bt271.2 = 0 then (if x3.size + 1 ≤ 9223372036854775807 then (wicketmanref06_Escape.l0 k (x0.extract ((mx bt271.2 1) : Int).toNat x0.size) (x3 ++ (⟨#[63]⟩ : BA))) else (none)) else (if x3.size + 4 ≤ 9223372036854775807 then (wicketmanref06_Escape.l0 k (x0.extract ((mx bt271.2 1) : Int).toNat x0.size) (x3 ++ (⟨#[38, 108, 116, 59]⟩ : BA))) else (none))) else (if (bt x0 0) = 62 then (if bt271.2 = 0 then (if x3.size + 1 ≤ 9223372036854775807 then (wicketmanref06_Escape.l0 k (x0.extract ((mx bt271.2 1) : Int).toNat x0.size) (x3 ++ (⟨#[63]⟩ : BA))) else (none)) else (if x3.size + 4 ≤ 9223372036854775807 then (wicketmanref06_Escape.l0 k (x0.extract ((mx bt271.2 1) : Int).toNat x0.size) (x3 ++ (⟨#[38, 103, 116, 59]⟩ : BA))) else (none))) else (if (bt x0 0) = 34 then (if bt271.2 = 0 then (if x3.size + 1 ≤ 9223372036854775807 then (wicketmanref06_Escape.l0 k (x0.extract ((mx bt271.2 1) : Int).toNat x0.size) (x3 ++ (⟨#[63]⟩ : BA))) else (none)) else (if x3.size + 5 ≤ 9223372036854775807 then (wicketmanref06_Escape.l0 k (x0.extract ((mx bt271.2 1) : Int).toNat x0.size) (x3 ++ (⟨#[38, 35, 51, 52, 59]⟩ : BA))) else (none))) else (if (bt x0 0) = 39 then (if bt271.2 = 0 then (if x3.size + 1 ≤ 9223372036854775807 then (wicketmanref06_Escape.l0 k (x0.extract ((mx bt271.2 1) : Int).toNat x0.size) (x3 ++ (⟨#[63]⟩ : BA))) else (none)) else (if x3.size + 5 ≤ 9223372036854775807 then (wicketmanref06_Escape.l0 k (x0.extract ((mx bt271.2 1) : Int).toNat x0.size) (x3 ++ (⟨#[38, 35, 51, 57, 59]⟩ : BA))) else (none))) else (if bt271.2 = 0 then (if x3.size + 1 ≤ 9223372036854775807 then (wicketmanref06_Escape.l0 k (x0.extract ((mx bt271.2 1) : Int).toNat x0.size) (x3 ++ (⟨#[63]⟩ : BA))) else (none)) else (if x3.size + (x0.extract 0 ((mx bt271.2 1) : Int).toNat).size ≤ 9223372036854775807 then (wicketmanref06_Escape.l0 k (x0.extract ((mx bt271.2 1) : Int).toNat x0.size) (x3 ++ (x0.extract 0 ((mx bt271.2 1) : Int).toNat))) else (none)))))))) else (none)) else (none)) else (none)))
def wicketmanref06_Escape.f (k : Nat) (a0 : ByteArray) : Option (ByteArray) := wicketmanref06_Escape.l0 k a0 (⟨#[]⟩ : BA)
theorem wicketmanref06_Escape.mono_l : ∀ k, (∀ y0 y1, LeO (wicketmanref06_Escape.l0 k y0 y1) (wicketmanref06_Escape.l0 (k + 1) y0 y1))
 | 0 => fun _ _ r h => by simp [wicketmanref06_Escape.l0] at h
 | k + 1 => by
  have ih0 := wicketmanref06_Escape.mono_l k
  ·intro y0 y1
   unfold wicketmanref06_Escape.l0
   repeat' first|(with_reducible first|exact ih0 _ _|exact wicketmanref06_One.mono _ _|exact LeO.refl _|exact LeO.none _|refine LeO.ite ?_ ?_|refine LeO.bind ?_ (fun _ => ?_))|exact LeO.none _|refine LeO.ite ?_ ?_|refine LeO.bind ?_ (fun _ => ?_)
theorem wicketmanref06_Escape.mono : ∀ a0 k, LeO (wicketmanref06_Escape.f k a0) (wicketmanref06_Escape.f (k + 1) a0) := by
 intro a0 k
 have ih0 := wicketmanref06_Escape.mono_l k
 unfold wicketmanref06_Escape.f
 repeat' first|(with_reducible first|exact ih0 _ _|exact wicketmanref06_One.mono _ _|exact LeO.refl _|exact LeO.none _|refine LeO.ite ?_ ?_|refine LeO.bind ?_ (fun _ => ?_))|exact LeO.none _|refine LeO.ite ?_ ?_|refine LeO.bind ?_ (fun _ => ?_)
end Go.Proofs.YthdiiiopjkaifaaGreatDoor.Pall
end

import Derived.Test.YtpfbemcoblganaaDoorQmPall0
namespace Go.Proofs.YtpfbemcoblganaaDoor.Pall
open Go.RowKit Go.Proofs.YtpfbemcoblganaaDoorW.PrintWords Go.Proofs.YtpfbemcoblganaaDoorW.PrintLast
set_option linter.unusedVariables false
set_option linter.unusedSimpArgs false
mutual
def wicketmanref09_Lines.l0 : Nat → List Int → List ByteArray → Int → Int → Option (List ByteArray × Int × Bool)
 | 0, _, _, _, _ => none
 | k + 1, x0, x5, x6, x7 => if (wrap64 (x7 + 1)) < (x0.length : Int) then (if 0 ≤ x7 then (if x7 < (x0.length : Int) then (if (rd x0 x7) = 13 then (if 0 ≤ (wrap64 (x7 + 1)) then (if (rd x0 (wrap64 (x7 + 1))) = 10 then (wicketmanref09_Lines.j1 k x0 x5 x6 x7 (decide (x7 < x6))) else (wicketmanref09_Lines.j1 k x0 x5 x6 x7 true)) else (none)) else (wicketmanref09_Lines.j1 k x0 x5 x6 x7 true)) else (none)) else (none)) else (some (([] : List ByteArray), 0, false))
def wicketmanref09_Lines.j1 : Nat → List Int → List ByteArray → Int → Int → Bool → Option (List ByteArray × Int × Bool)
 | 0, _, _, _, _, _ => none
 | k + 1, x0, x5, x6, x7, x32 => if x32 = true then (wicketmanref09_Lines.l0 k x0 x5 x6 (wrap64 (x7 + 1))) else (if x7 = x6 then (some (x5, wrap64 (x7 + 2), true)) else (if 0 ≤ x6 then (if x6 ≤ x7 then (if x7 ≤ (x0.length : Int) then (if x5.length < 8796093022208 then (wicketmanref09_Lines.l0 k x0 (x5 ++ [strOfNums ((x0.take (x7 : Int).toNat).drop (x6 : Int).toNat)]) (wrap64 (x7 + 2)) (wrap64 (x7 + 1))) else (none)) else (none)) else (none)) else (none)))
end
def wicketmanref09_Lines.f (k : Nat) (l0 : List Int) : Option (List ByteArray × Int × Bool) := wicketmanref09_Lines.l0 k l0 ([] : List ByteArray) 0 0
theorem wicketmanref09_Lines.mono_l : ∀ k, (∀ y0 y1 y2 y3, LeO (wicketmanref09_Lines.l0 k y0 y1 y2 y3) (wicketmanref09_Lines.l0 (k + 1) y0 y1 y2 y3)) ∧ (∀ y0 y1 y2 y3 y4, LeO (wicketmanref09_Lines.j1 k y0 y1 y2 y3 y4) (wicketmanref09_Lines.j1 (k + 1) y0 y1 y2 y3 y4))
 | 0 => ⟨fun _ _ _ _ r h => by simp [wicketmanref09_Lines.l0] at h, fun _ _ _ _ _ r h => by simp [wicketmanref09_Lines.j1] at h⟩
 | k + 1 => by
  obtain ⟨ih0, ih1⟩ := wicketmanref09_Lines.mono_l k
  refine ⟨?_, ?_⟩
  ·intro y0 y1 y2 y3
   unfold wicketmanref09_Lines.l0
   repeat' first
   | (with_reducible exact ih0 _ _ _ _)
   | (with_reducible exact ih1 _ _ _ _ _)
   | (with_reducible exact LeO.refl _)
   | (with_reducible exact LeO.none _)
   | (with_reducible refine LeO.ite ?_ ?_)
   | (with_reducible refine LeO.bind ?_ (fun _ => ?_))
   | exact ih0 _ _ _ _
   | exact ih1 _ _ _ _ _
   | exact LeO.none _
   | refine LeO.ite ?_ ?_
   | refine LeO.bind ?_ (fun _ => ?_)
  ·intro y0 y1 y2 y3 y4
   unfold wicketmanref09_Lines.j1
   repeat' first
   | (with_reducible exact ih0 _ _ _ _)
   | (with_reducible exact ih1 _ _ _ _ _)
   | (with_reducible exact LeO.refl _)
   | (with_reducible exact LeO.none _)
   | (with_reducible refine LeO.ite ?_ ?_)
   | (with_reducible refine LeO.bind ?_ (fun _ => ?_))
   | exact ih0 _ _ _ _
   | exact ih1 _ _ _ _ _
   | exact LeO.none _
   | refine LeO.ite ?_ ?_
   | refine LeO.bind ?_ (fun _ => ?_)
theorem wicketmanref09_Lines.mono : ∀ a0 k, LeO (wicketmanref09_Lines.f k a0) (wicketmanref09_Lines.f (k + 1) a0) := by
 intro a0 k
 obtain ⟨ih0, ih1⟩ := wicketmanref09_Lines.mono_l k
 unfold wicketmanref09_Lines.f
 repeat' first
   | (with_reducible exact ih0 _ _ _ _)
   | (with_reducible exact ih1 _ _ _ _ _)
   | (with_reducible exact LeO.refl _)
   | (with_reducible exact LeO.none _)
   | (with_reducible refine LeO.ite ?_ ?_)
   | (with_reducible refine LeO.bind ?_ (fun _ => ?_))
   | exact ih0 _ _ _ _
   | exact ih1 _ _ _ _ _
   | exact LeO.none _
   | refine LeO.ite ?_ ?_
   | refine LeO.bind ?_ (fun _ => ?_)
mutual
def wicketmanref08_sign.j0 : Nat → Int → Bool → Option (Bool)
 | 0, _, _ => none
 | k + 1, x0, x25 => if x25 = true then (some true) else (wicketmanref08_sign.l0 k x0 0)
def wicketmanref08_sign.l0 : Nat → Int → Int → Option (Bool)
 | 0, _, _ => none
 | k + 1, x0, x3 => if x3 < 15 then (if 0 ≤ x3 then (if (bt (⟨#[33, 35, 36, 37, 38, 39, 42, 43, 45, 46, 94, 95, 96, 124, 126]⟩ : ByteArray) x3) = x0 then (some true) else (wicketmanref08_sign.l0 k x0 (wrap64 (x3 + 1)))) else (none)) else (some false)
end
def wicketmanref08_sign.f (k : Nat) (a0 : Int) : Option (Bool) := if a0 ≥ 97 then (if a0 ≤ 122 then (wicketmanref08_sign.j0 k a0 true) else (if a0 ≥ 65 then (if a0 ≤ 90 then (wicketmanref08_sign.j0 k a0 true) else (if a0 ≥ 48 then (wicketmanref08_sign.j0 k a0 (decide (a0 ≤ 57))) else (wicketmanref08_sign.j0 k a0 false))) else (if a0 ≥ 48 then (wicketmanref08_sign.j0 k a0 (decide (a0 ≤ 57))) else (wicketmanref08_sign.j0 k a0 false)))) else (if a0 ≥ 65 then (if a0 ≤ 90 then (wicketmanref08_sign.j0 k a0 true) else (if a0 ≥ 48 then (wicketmanref08_sign.j0 k a0 (decide (a0 ≤ 57))) else (wicketmanref08_sign.j0 k a0 false))) else (if a0 ≥ 48 then (wicketmanref08_sign.j0 k a0 (decide (a0 ≤ 57))) else (wicketmanref08_sign.j0 k a0 false)))
theorem wicketmanref08_sign.mono_l : ∀ k, (∀ y0 y1, LeO (wicketmanref08_sign.j0 k y0 y1) (wicketmanref08_sign.j0 (k + 1) y0 y1)) ∧ (∀ y0 y1, LeO (wicketmanref08_sign.l0 k y0 y1) (wicketmanref08_sign.l0 (k + 1) y0 y1))
 | 0 => ⟨fun _ _ r h => by simp [wicketmanref08_sign.j0] at h, fun _ _ r h => by simp [wicketmanref08_sign.l0] at h⟩
 | k + 1 => by
  obtain ⟨ih0, ih1⟩ := wicketmanref08_sign.mono_l k
  refine ⟨?_, ?_⟩
  ·intro y0 y1
   unfold wicketmanref08_sign.j0
   repeat' first
   | (with_reducible exact ih0 _ _)
   | (with_reducible exact ih1 _ _)
   | (with_reducible exact LeO.refl _)
   | (with_reducible exact LeO.none _)
   | (with_reducible refine LeO.ite ?_ ?_)
   | (with_reducible refine LeO.bind ?_ (fun _ => ?_))
   | exact ih0 _ _
   | exact ih1 _ _
   | exact LeO.none _
   | refine LeO.ite ?_ ?_
   | refine LeO.bind ?_ (fun _ => ?_)
  ·intro y0 y1
   unfold wicketmanref08_sign.l0
   repeat' first
   | (with_reducible exact ih0 _ _)
   | (with_reducible exact ih1 _ _)
   | (with_reducible exact LeO.refl _)
   | (with_reducible exact LeO.none _)
   | (with_reducible refine LeO.ite ?_ ?_)
   | (with_reducible refine LeO.bind ?_ (fun _ => ?_))
   | exact ih0 _ _
   | exact ih1 _ _
   | exact LeO.none _
   | refine LeO.ite ?_ ?_
   | refine LeO.bind ?_ (fun _ => ?_)
theorem wicketmanref08_sign.mono : ∀ a0 k, LeO (wicketmanref08_sign.f k a0) (wicketmanref08_sign.f (k + 1) a0) := by
 intro a0 k
 obtain ⟨ih0, ih1⟩ := wicketmanref08_sign.mono_l k
 unfold wicketmanref08_sign.f
 repeat' first
   | (with_reducible exact ih0 _ _)
   | (with_reducible exact ih1 _ _)
   | (with_reducible exact LeO.refl _)
   | (with_reducible exact LeO.none _)
   | (with_reducible refine LeO.ite ?_ ?_)
   | (with_reducible refine LeO.bind ?_ (fun _ => ?_))
   | exact ih0 _ _
   | exact ih1 _ _
   | exact LeO.none _
   | refine LeO.ite ?_ ?_
   | refine LeO.bind ?_ (fun _ => ?_)
def wicketmanref08_Token.l0 : Nat → ByteArray → Int → Option (Bool)
 | 0, _, _ => none
 | k + 1, x0, x3 => if x3 < (x0.size : Int) then (if 0 ≤ x3 then ((wicketmanref08_sign.f k (bt x0 x3)).bind fun t177 => (if t177 = true then (wicketmanref08_Token.l0 k x0 (wrap64 (x3 + 1))) else (some false))) else (none)) else (some (decide ((x0.size : Int) > 0)))
def wicketmanref08_Token.f (k : Nat) (a0 : ByteArray) : Option (Bool) := wicketmanref08_Token.l0 k a0 0
theorem wicketmanref08_Token.mono_l : ∀ k, (∀ y0 y1, LeO (wicketmanref08_Token.l0 k y0 y1) (wicketmanref08_Token.l0 (k + 1) y0 y1))
 | 0 => fun _ _ r h => by simp [wicketmanref08_Token.l0] at h
 | k + 1 => by
  have ih0 := wicketmanref08_Token.mono_l k
  ·intro y0 y1
   unfold wicketmanref08_Token.l0
   repeat' first
   | (with_reducible exact ih0 _ _)
   | (with_reducible exact wicketmanref08_sign.mono _ _)
   | (with_reducible exact LeO.refl _)
   | (with_reducible exact LeO.none _)
   | (with_reducible refine LeO.ite ?_ ?_)
   | (with_reducible refine LeO.bind ?_ (fun _ => ?_))
   | exact ih0 _ _
   | exact wicketmanref08_sign.mono _ _
   | exact LeO.none _
   | refine LeO.ite ?_ ?_
   | refine LeO.bind ?_ (fun _ => ?_)
theorem wicketmanref08_Token.mono : ∀ a0 k, LeO (wicketmanref08_Token.f k a0) (wicketmanref08_Token.f (k + 1) a0) := by
 intro a0 k
 have ih0 := wicketmanref08_Token.mono_l k
 unfold wicketmanref08_Token.f
 repeat' first
   | (with_reducible exact ih0 _ _)
   | (with_reducible exact wicketmanref08_sign.mono _ _)
   | (with_reducible exact LeO.refl _)
   | (with_reducible exact LeO.none _)
   | (with_reducible refine LeO.ite ?_ ?_)
   | (with_reducible refine LeO.bind ?_ (fun _ => ?_))
   | exact ih0 _ _
   | exact wicketmanref08_sign.mono _ _
   | exact LeO.none _
   | refine LeO.ite ?_ ?_
   | refine LeO.bind ?_ (fun _ => ?_)
def wicketmanref07_Split.l0 : Nat → ByteArray → Int → List ByteArray → Int → Int → Option (List ByteArray)
 | 0, _, _, _, _, _ => none
 | k + 1, x0, x1, x5, x6, x7 => if x7 ≤ (x0.size : Int) then (if x7 = (x0.size : Int) then (if 0 ≤ x6 then (if x6 ≤ x7 then (if x5.length < 8796093022208 then (wicketmanref07_Split.l0 k x0 x1 (x5 ++ [x0.extract (x6 : Int).toNat (x7 : Int).toNat]) (wrap64 (x7 + 1)) (wrap64 (x7 + 1))) else (none)) else (none)) else (none)) else (if 0 ≤ x7 then (if x7 < (x0.size : Int) then (if (bt x0 x7) = x1 then (if 0 ≤ x6 then (if x6 ≤ x7 then (if x5.length < 8796093022208 then (wicketmanref07_Split.l0 k x0 x1 (x5 ++ [x0.extract (x6 : Int).toNat (x7 : Int).toNat]) (wrap64 (x7 + 1)) (wrap64 (x7 + 1))) else (none)) else (none)) else (none)) else (wicketmanref07_Split.l0 k x0 x1 x5 x6 (wrap64 (x7 + 1)))) else (none)) else (none))) else (some x5)
def wicketmanref07_Split.f (k : Nat) (a0 : ByteArray) (a1 : Int) : Option (List ByteArray) := wicketmanref07_Split.l0 k a0 a1 ([] : List ByteArray) 0 0
theorem wicketmanref07_Split.mono_l : ∀ k, (∀ y0 y1 y2 y3 y4, LeO (wicketmanref07_Split.l0 k y0 y1 y2 y3 y4) (wicketmanref07_Split.l0 (k + 1) y0 y1 y2 y3 y4))
 | 0 => fun _ _ _ _ _ r h => by simp [wicketmanref07_Split.l0] at h
 | k + 1 => by
  have ih0 := wicketmanref07_Split.mono_l k
  ·intro y0 y1 y2 y3 y4
   unfold wicketmanref07_Split.l0
   repeat' first
   | (with_reducible exact ih0 _ _ _ _ _)
   | (with_reducible exact LeO.refl _)
   | (with_reducible exact LeO.none _)
   | (with_reducible refine LeO.ite ?_ ?_)
   | (with_reducible refine LeO.bind ?_ (fun _ => ?_))
   | exact ih0 _ _ _ _ _
   | exact LeO.none _
   | refine LeO.ite ?_ ?_
   | refine LeO.bind ?_ (fun _ => ?_)
theorem wicketmanref07_Split.mono : ∀ a0 a1 k, LeO (wicketmanref07_Split.f k a0 a1) (wicketmanref07_Split.f (k + 1) a0 a1) := by
 intro a0 a1 k
 have ih0 := wicketmanref07_Split.mono_l k
 unfold wicketmanref07_Split.f
 repeat' first
   | (with_reducible exact ih0 _ _ _ _ _)
   | (with_reducible exact LeO.refl _)
   | (with_reducible exact LeO.none _)
   | (with_reducible refine LeO.ite ?_ ?_)
   | (with_reducible refine LeO.bind ?_ (fun _ => ?_))
   | exact ih0 _ _ _ _ _
   | exact LeO.none _
   | refine LeO.ite ?_ ?_
   | refine LeO.bind ?_ (fun _ => ?_)
end Go.Proofs.YtpfbemcoblganaaDoor.Pall

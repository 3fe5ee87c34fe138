import Derived.Test.YtpfbemcoblganaaDoorQmPall0
namespace Go.Proofs.YtpfbemcoblganaaDoor.Pall
open Go.RowKit Go.Proofs.YtpfbemcoblganaaDoorW.PrintWords Go.Proofs.YtpfbemcoblganaaDoorW.PrintLast
set_option linter.unusedVariables false
set_option linter.unusedSimpArgs false
mutual
def wicketmanref07_Escape.l0 : Nat → ByteArray → ByteArray → Int → Option (ByteArray)
 | 0, _, _, _ => none
 | k + 1, x0, x3, x4 => if x4 < (x0.size : Int) then (if 0 ≤ x4 then (if (bt x0 x4) ≥ 97 then (if (bt x0 x4) ≤ 122 then (wicketmanref07_Escape.j1 k x0 x3 x4 (bt x0 x4) true) else (if (bt x0 x4) ≥ 65 then (if (bt x0 x4) ≤ 90 then (wicketmanref07_Escape.j1 k x0 x3 x4 (bt x0 x4) true) else (if (bt x0 x4) ≥ 48 then (if (bt x0 x4) ≤ 57 then (wicketmanref07_Escape.j1 k x0 x3 x4 (bt x0 x4) true) else (if (bt x0 x4) = 45 then (wicketmanref07_Escape.j1 k x0 x3 x4 (bt x0 x4) true) else (if (bt x0 x4) = 46 then (wicketmanref07_Escape.j1 k x0 x3 x4 (bt x0 x4) true) else (if (bt x0 x4) = 95 then (wicketmanref07_Escape.j1 k x0 x3 x4 (bt x0 x4) true) else (wicketmanref07_Escape.j1 k x0 x3 x4 (bt x0 x4) ((bt x0 x4) == 126)))))) else (if (bt x0 x4) = 45 then (wicketmanref07_Escape.j1 k x0 x3 x4 (bt x0 x4) true) else (if (bt x0 x4) = 46 then (wicketmanref07_Escape.j1 k x0 x3 x4 (bt x0 x4) true) else (if (bt x0 x4) = 95 then (wicketmanref07_Escape.j1 k x0 x3 x4 (bt x0 x4) true) else (wicketmanref07_Escape.j1 k x0 x3 x4 (bt x0 x4) ((bt x0 x4) == 126))))))) else (if (bt x0 x4) ≥ 48 then (if (bt x0 x4) ≤ 57 then (wicketmanref07_Escape.j1 k x0 x3 x4 (bt x0 x4) true) else (if (bt x0 x4) = 45 then (wicketmanref07_Escape.j1 k x0 x3 x4 (bt x0 x4) true) else (if (bt x0 x4) = 46 then (wicketmanref07_Escape.j1 k x0 x3 x4 (bt x0 x4) true) else (if (bt x0 x4) = 95 then (wicketmanref07_Escape.j1 k x0 x3 x4 (bt x0 x4) true) else (wicketmanref07_Escape.j1 k x0 x3 x4 (bt x0 x4) ((bt x0 x4) == 126)))))) else (if (bt x0 x4) = 45 then (wicketmanref07_Escape.j1 k x0 x3 x4 (bt x0 x4) true) else (if (bt x0 x4) = 46 then (wicketmanref07_Escape.j1 k x0 x3 x4 (bt x0 x4) true) else (if (bt x0 x4) = 95 then (wicketmanref07_Escape.j1 k x0 x3 x4 (bt x0 x4) true) else (wicketmanref07_Escape.j1 k x0 x3 x4 (bt x0 x4) ((bt x0 x4) == 126)))))))) else (if (bt x0 x4) ≥ 65 then (if (bt x0 x4) ≤ 90 then (wicketmanref07_Escape.j1 k x0 x3 x4 (bt x0 x4) true) else (if (bt x0 x4) ≥ 48 then (if (bt x0 x4) ≤ 57 then (wicketmanref07_Escape.j1 k x0 x3 x4 (bt x0 x4) true) else (if (bt x0 x4) = 45 then (wicketmanref07_Escape.j1 k x0 x3 x4 (bt x0 x4) true) else (if (bt x0 x4) = 46 then (wicketmanref07_Escape.j1 k x0 x3 x4 (bt x0 x4) true) else (if (bt x0 x4) = 95 then (wicketmanref07_Escape.j1 k x0 x3 x4 (bt x0 x4) true) else (wicketmanref07_Escape.j1 k x0 x3 x4 (bt x0 x4) ((bt x0 x4) == 126)))))) else (if (bt x0 x4) = 45 then (wicketmanref07_Escape.j1 k x0 x3 x4 (bt x0 x4) true) else (if (bt x0 x4) = 46 then (wicketmanref07_Escape.j1 k x0 x3 x4 (bt x0 x4) true) else (if (bt x0 x4) = 95 then (wicketmanref07_Escape.j1 k x0 x3 x4 (bt x0 x4) true) else (wicketmanref07_Escape.j1 k x0 x3 x4 (bt x0 x4) ((bt x0 x4) == 126))))))) else (if (bt x0 x4) ≥ 48 then (if (bt x0 x4) ≤ 57 then (wicketmanref07_Escape.j1 k x0 x3 x4 (bt x0 x4) true) else (if (bt x0 x4) = 45 then (wicketmanref07_Escape.j1 k x0 x3 x4 (bt x0 x4) true) else (if (bt x0 x4) = 46 then (wicketmanref07_Escape.j1 k x0 x3 x4 (bt x0 x4) true) else (if (bt x0 x4) = 95 then (wicketmanref07_Escape.j1 k x0 x3 x4 (bt x0 x4) true) else (wicketmanref07_Escape.j1 k x0 x3 x4 (bt x0 x4) ((bt x0 x4) == 126)))))) else (if (bt x0 x4) = 45 then (wicketmanref07_Escape.j1 k x0 x3 x4 (bt x0 x4) true) else (if (bt x0 x4) = 46 then (wicketmanref07_Escape.j1 k x0 x3 x4 (bt x0 x4) true) else (if (bt x0 x4) = 95 then (wicketmanref07_Escape.j1 k x0 x3 x4 (bt x0 x4) true) else (wicketmanref07_Escape.j1 k x0 x3 x4 (bt x0 x4) ((bt x0 x4) == 126)))))))) else (none)) else (some x3)
def wicketmanref07_Escape.j1 : Nat → ByteArray → ByteArray → Int → Int → Bool → Option (ByteArray)
 | 0, _, _, _, _, _ => none
 | k + 1, x0, x3, x4, x5, x52 => if x52 = true then (if 0 ≤ x4 then (if x4 ≤ (wrap64 (x4 + 1)) then (if (wrap64 (x4 + 1)) ≤ (x0.size : Int) then (if x3.size + (x0.extract (x4 : Int).toNat ((wrap64 (x4 + 1)) : Int).toNat).size ≤ 9223372036854775807 then (wicketmanref07_Escape.l0 k x0 (x3 ++ (x0.extract (x4 : Int).toNat ((wrap64 (x4 + 1)) : Int).toNat)) (wrap64 (x4 + 1))) else (none)) else (none)) else (none)) else (none)) else (if x5 = 32 then (if x3.size + 1 ≤ 9223372036854775807 then (wicketmanref07_Escape.l0 k x0 (x3 ++ (⟨#[43]⟩ : ByteArray)) (wrap64 (x4 + 1))) else (none)) else (if x3.size + 1 ≤ 9223372036854775807 then (if 0 ≤ ((Int.tdiv x5 16) % 256) then (if ((Int.tdiv x5 16) % 256) ≤ ((((Int.tdiv x5 16) % 256) + 1) % 256) then (if ((((Int.tdiv x5 16) % 256) + 1) % 256) ≤ 16 then (if (x3 ++ (⟨#[37]⟩ : ByteArray)).size + ((⟨#[48, 49, 50, 51, 52, 53, 54, 55, 56, 57, 65, 66, 67, 68, 69, 70]⟩ : ByteArray).extract (((Int.tdiv x5 16) % 256) : Int).toNat (((((Int.tdiv x5 16) % 256) + 1) % 256) : Int).toNat).size ≤ 9223372036854775807 then (if 0 ≤ (Int.tmod x5 16) then (if (Int.tmod x5 16) ≤ (((Int.tmod x5 16) + 1) % 256) then (if (((Int.tmod x5 16) + 1) % 256) ≤ 16 then (if ((x3 ++ (⟨#[37]⟩ : ByteArray)) ++ ((⟨#[48, 49, 50, 51, 52, 53, 54, 55, 56, 57, 65, 66, 67, 68, 69, 70]⟩ : ByteArray).extract (((Int.tdiv x5 16) % 256) : Int).toNat (((((Int.tdiv x5 16) % 256) + 1) % 256) : Int).toNat)).size + ((⟨#[48, 49, 50, 51, 52, 53, 54, 55, 56, 57, 65, 66, 67, 68, 69, 70]⟩ : ByteArray).extract ((Int.tmod x5 16) : Int).toNat ((((Int.tmod x5 16) + 1) % 256) : Int).toNat).size ≤ 9223372036854775807 then (wicketmanref07_Escape.l0 k x0 (((x3 ++ (⟨#[37]⟩ : ByteArray)) ++ ((⟨#[48, 49, 50, 51, 52, 53, 54, 55, 56, 57, 65, 66, 67, 68, 69, 70]⟩ : ByteArray).extract (((Int.tdiv x5 16) % 256) : Int).toNat (((((Int.tdiv x5 16) % 256) + 1) % 256) : Int).toNat)) ++ ((⟨#[48, 49, 50, 51, 52, 53, 54, 55, 56, 57, 65, 66, 67, 68, 69, 70]⟩ : ByteArray).extract ((Int.tmod x5 16) : Int).toNat ((((Int.tmod x5 16) + 1) % 256) : Int).toNat)) (wrap64 (x4 + 1))) else (none)) else (none)) else (none)) else (none)) else (none)) else (none)) else (none)) else (none)) else (none)))
end
def wicketmanref07_Escape.f (k : Nat) (a0 : ByteArray) : Option (ByteArray) := wicketmanref07_Escape.l0 k a0 (⟨#[]⟩ : ByteArray) 0
theorem wicketmanref07_Escape.mono_l : ∀ k, (∀ y0 y1 y2, LeO (wicketmanref07_Escape.l0 k y0 y1 y2) (wicketmanref07_Escape.l0 (k + 1) y0 y1 y2)) ∧ (∀ y0 y1 y2 y3 y4, LeO (wicketmanref07_Escape.j1 k y0 y1 y2 y3 y4) (wicketmanref07_Escape.j1 (k + 1) y0 y1 y2 y3 y4))
 | 0 => ⟨fun _ _ _ r h => by simp [wicketmanref07_Escape.l0] at h, fun _ _ _ _ _ r h => by simp [wicketmanref07_Escape.j1] at h⟩
 | k + 1 => by
  obtain ⟨ih0, ih1⟩ := wicketmanref07_Escape.mono_l k
  refine ⟨?_, ?_⟩
  ·intro y0 y1 y2
   unfold wicketmanref07_Escape.l0
   repeat' first
   | (with_reducible exact ih0 _ _ _)
   | (with_reducible exact ih1 _ _ _ _ _)
   | (with_reducible exact LeO.refl _)
   | (with_reducible exact LeO.none _)
   | (with_reducible refine LeO.ite ?_ ?_)
   | (with_reducible refine LeO.bind ?_ (fun _ => ?_))
   | exact ih0 _ _ _
   | exact ih1 _ _ _ _ _
   | exact LeO.none _
   | refine LeO.ite ?_ ?_
   | refine LeO.bind ?_ (fun _ => ?_)
  ·intro y0 y1 y2 y3 y4
   unfold wicketmanref07_Escape.j1
   repeat' first
   | (with_reducible exact ih0 _ _ _)
   | (with_reducible exact ih1 _ _ _ _ _)
   | (with_reducible exact LeO.refl _)
   | (with_reducible exact LeO.none _)
   | (with_reducible refine LeO.ite ?_ ?_)
   | (with_reducible refine LeO.bind ?_ (fun _ => ?_))
   | exact ih0 _ _ _
   | exact ih1 _ _ _ _ _
   | exact LeO.none _
   | refine LeO.ite ?_ ?_
   | refine LeO.bind ?_ (fun _ => ?_)
theorem wicketmanref07_Escape.mono : ∀ a0 k, LeO (wicketmanref07_Escape.f k a0) (wicketmanref07_Escape.f (k + 1) a0) := by
 intro a0 k
 obtain ⟨ih0, ih1⟩ := wicketmanref07_Escape.mono_l k
 unfold wicketmanref07_Escape.f
 repeat' first
   | (with_reducible exact ih0 _ _ _)
   | (with_reducible exact ih1 _ _ _ _ _)
   | (with_reducible exact LeO.refl _)
   | (with_reducible exact LeO.none _)
   | (with_reducible refine LeO.ite ?_ ?_)
   | (with_reducible refine LeO.bind ?_ (fun _ => ?_))
   | exact ih0 _ _ _
   | exact ih1 _ _ _ _ _
   | exact LeO.none _
   | refine LeO.ite ?_ ?_
   | refine LeO.bind ?_ (fun _ => ?_)
end Go.Proofs.YtpfbemcoblganaaDoor.Pall

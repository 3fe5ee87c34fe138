/-
The plain laws of layer 8, the rest: values, fields, names that are the same, lines.
Fields of lines; rows beside a box: what more than one walk uses.
-/
import Derived.Test.YthdiiiopjkaifaaGreatDoorZdPall0
import Derived.Test.YthdiiiopjkaifaaGreatDoorZdPlb
import Derived.Test.YthdiiiopjkaifaaGreatDoorZdPall6
import Derived.Test.YthdiiiopjkaifaaGreatDoorZdPall7
import Derived.Test.YthdiiiopjkaifaaGreatDoorZdPall8
import Derived.Test.YthdiiiopjkaifaaGreatDoorZdPall9
import Derived.Test.YthdiiiopjkaifaaGreatDoorZdPall2
import Derived.Test.YthdiiiopjkaifaaGreatDoorZdPall4
section
namespace Go.Proofs.YthdiiiopjkaifaaGreatDoor.Pall
open Go.RowKit Go.Proofs.YthdiiiopjkaifaaGreatDoorW.PrintWords Go.Proofs.YthdiiiopjkaifaaGreatDoorW.PrintLast
set_option linter.unusedVariables false
set_option linter.unusedSimpArgs false
def wicketmanlaw19_heavy.l0 : Nat → Int → Int → ByteArray → ByteArray → List (S76) → List Int → Option (Bool)
 | 0, _, _, _, _, _, _ => none
 | k + 1, x3, x4, x418000, x418001, x418002, x418003 => if x4 < (x418002.length : Int) then (if 0 ≤ x4 then (wicketmanlaw19_heavy.l0 k (wrap64 (x3 + (wrap64 ((wrap64 (1 + (((rd_T76 x418002 x4).f0).size : Int))) + (((rd_T76 x418002 x4).f1).size : Int))))) (wrap64 (x4 + 1)) x418000 x418001 x418002 x418003) else (none)) else (some (decide (x3 > 500)))
def wicketmanlaw19_heavy.f (k : Nat) (a0_0 : ByteArray) (a0_1 : ByteArray) (l0_2 : List (S76)) (l0_3 : List Int) : Option (Bool) := wicketmanlaw19_heavy.l0 k (wrap64 ((wrap64 ((a0_0.size : Int) + (a0_1.size : Int))) + (l0_3.length : Int))) 0 a0_0 a0_1 l0_2 l0_3
theorem wicketmanlaw19_heavy.mono_l : ∀ k, (∀ y0 y1 y2 y3 y4 y5, LeO (wicketmanlaw19_heavy.l0 k y0 y1 y2 y3 y4 y5) (wicketmanlaw19_heavy.l0 (k + 1) y0 y1 y2 y3 y4 y5))
 | 0 => fun _ _ _ _ _ _ r h => by simp [wicketmanlaw19_heavy.l0] at h
 | k + 1 => by
  have ih0 := wicketmanlaw19_heavy.mono_l k
  ·intro y0 y1 y2 y3 y4 y5
   unfold wicketmanlaw19_heavy.l0
   repeat' first | (with_reducible first | exact ih0 _ _ _ _ _ _ | exact LeO.refl _ | exact LeO.none _ | refine LeO.ite ?_ ?_ | refine LeO.bind ?_ (fun _ => ?_)) | exact LeO.none _ | refine LeO.ite ?_ ?_ | refine LeO.bind ?_ (fun _ => ?_)
theorem wicketmanlaw19_heavy.mono : ∀ a0 a1 a2 a3 k, LeO (wicketmanlaw19_heavy.f k a0 a1 a2 a3) (wicketmanlaw19_heavy.f (k + 1) a0 a1 a2 a3) := by
 intro a0 a1 a2 a3 k
 have ih0 := wicketmanlaw19_heavy.mono_l k
 unfold wicketmanlaw19_heavy.f
 repeat' first | (with_reducible first | exact ih0 _ _ _ _ _ _ | exact LeO.refl _ | exact LeO.none _ | refine LeO.ite ?_ ?_ | refine LeO.bind ?_ (fun _ => ?_)) | exact LeO.none _ | refine LeO.ite ?_ ?_ | refine LeO.bind ?_ (fun _ => ?_)
def wicketmanref08_small.f (a0 : Int) : Option (Int) := if a0 ≥ 65 then (if a0 ≤ 90 then (some ((a0 + 32) % 256)) else (some a0)) else (some a0)
def wicketmanref08_Same.l0 : Nat → ByteArray → ByteArray → Int → Option (Bool)
 | 0, _, _, _ => none
 | k + 1, x0, x1, x5 => if x5 < (x0.size : Int) then (if 0 ≤ x5 then ((wicketmanref08_small.f (bt x0 x5)).bind fun t420 => (if x5 < (x1.size : Int) then ((wicketmanref08_small.f (bt x1 x5)).bind fun t421 => (if t420 = t421 then (wicketmanref08_Same.l0 k x0 x1 (wrap64 (x5 + 1))) else (some false))) else (none))) else (none)) else (some true)
def wicketmanref08_Same.f (k : Nat) (a0 : ByteArray) (a1 : ByteArray) : Option (Bool) := if (a0.size : Int) = (a1.size : Int) then (wicketmanref08_Same.l0 k a0 a1 0) else (some false)
theorem wicketmanref08_Same.mono_l : ∀ k, (∀ y0 y1 y2, LeO (wicketmanref08_Same.l0 k y0 y1 y2) (wicketmanref08_Same.l0 (k + 1) y0 y1 y2))
 | 0 => fun _ _ _ r h => by simp [wicketmanref08_Same.l0] at h
 | k + 1 => by
  have ih0 := wicketmanref08_Same.mono_l k
  ·intro y0 y1 y2
   unfold wicketmanref08_Same.l0
   repeat' first | (with_reducible first | exact ih0 _ _ _ | exact LeO.refl _ | exact LeO.none _ | refine LeO.ite ?_ ?_ | refine LeO.bind ?_ (fun _ => ?_)) | exact LeO.none _ | refine LeO.ite ?_ ?_ | refine LeO.bind ?_ (fun _ => ?_)
theorem wicketmanref08_Same.mono : ∀ a0 a1 k, LeO (wicketmanref08_Same.f k a0 a1) (wicketmanref08_Same.f (k + 1) a0 a1) := by
 intro a0 a1 k
 have ih0 := wicketmanref08_Same.mono_l k
 unfold wicketmanref08_Same.f
 repeat' first | (with_reducible first | exact ih0 _ _ _ | exact LeO.refl _ | exact LeO.none _ | refine LeO.ite ?_ ?_ | refine LeO.bind ?_ (fun _ => ?_)) | exact LeO.none _ | refine LeO.ite ?_ ?_ | refine LeO.bind ?_ (fun _ => ?_)
def wicketmanref08_All.l0 : Nat → List (S76) → ByteArray → List ByteArray → Int → Option (List ByteArray)
 | 0, _, _, _, _ => none
 | k + 1, x0, x1, x5, x6 => if x6 < (x0.length : Int) then (if 0 ≤ x6 then ((wicketmanref08_Same.f k ((rd_T76 x0 x6).f0) x1).bind fun t423 => (if t423 = true then (if x5.length < 8796093022208 then (wicketmanref08_All.l0 k x0 x1 (x5 ++ [(rd_T76 x0 x6).f1]) (wrap64 (x6 + 1))) else (none)) else (wicketmanref08_All.l0 k x0 x1 x5 (wrap64 (x6 + 1))))) else (none)) else (some x5)
def wicketmanref08_All.f (k : Nat) (l0 : List (S76)) (a1 : ByteArray) : Option (List ByteArray) := wicketmanref08_All.l0 k l0 a1 ([] : List ByteArray) 0
theorem wicketmanref08_All.mono_l : ∀ k, (∀ y0 y1 y2 y3, LeO (wicketmanref08_All.l0 k y0 y1 y2 y3) (wicketmanref08_All.l0 (k + 1) y0 y1 y2 y3))
 | 0 => fun _ _ _ _ r h => by simp [wicketmanref08_All.l0] at h
 | k + 1 => by
  have ih0 := wicketmanref08_All.mono_l k
  ·intro y0 y1 y2 y3
   unfold wicketmanref08_All.l0
   repeat' first | (with_reducible first | exact ih0 _ _ _ _ | exact wicketmanref08_Same.mono _ _ _ | exact LeO.refl _ | exact LeO.none _ | refine LeO.ite ?_ ?_ | refine LeO.bind ?_ (fun _ => ?_)) | exact LeO.none _ | refine LeO.ite ?_ ?_ | refine LeO.bind ?_ (fun _ => ?_)
theorem wicketmanref08_All.mono : ∀ a0 a1 k, LeO (wicketmanref08_All.f k a0 a1) (wicketmanref08_All.f (k + 1) a0 a1) := by
 intro a0 a1 k
 have ih0 := wicketmanref08_All.mono_l k
 unfold wicketmanref08_All.f
 repeat' first | (with_reducible first | exact ih0 _ _ _ _ | exact wicketmanref08_Same.mono _ _ _ | exact LeO.refl _ | exact LeO.none _ | refine LeO.ite ?_ ?_ | refine LeO.bind ?_ (fun _ => ?_)) | exact LeO.none _ | refine LeO.ite ?_ ?_ | refine LeO.bind ?_ (fun _ => ?_)
def wicketmanref19_route.j0 : Nat → ByteArray → Int → Int → Option (Int)
 | 0, _, _, _ => none
 | k + 1, x0, x5, x6 => if x0.toList = ([71, 69, 84] : List UInt8) then (some x5) else (if x0.toList = ([80, 79, 83, 84] : List UInt8) then (some x6) else (some 0))
def wicketmanref19_route.f (k : Nat) (a0 : ByteArray) (a1 : ByteArray) : Option (Int) := if a1.toList = ([47, 108, 111, 103, 105, 110] : List UInt8) then (wicketmanref19_route.j0 k a0 1 3) else (if a1.toList = ([47, 114, 101, 103, 105, 115, 116, 101, 114] : List UInt8) then (wicketmanref19_route.j0 k a0 0 2) else (if a1.toList = ([47, 108, 111, 103, 111, 117, 116] : List UInt8) then (wicketmanref19_route.j0 k a0 0 4) else (if a1.toList = ([47, 109, 101] : List UInt8) then (wicketmanref19_route.j0 k a0 5 0) else (if a1.toList = ([47, 110, 111, 116, 101] : List UInt8) then (wicketmanref19_route.j0 k a0 0 6) else (some (-1))))))
theorem wicketmanref19_route.mono_l : ∀ k, (∀ y0 y1 y2, LeO (wicketmanref19_route.j0 k y0 y1 y2) (wicketmanref19_route.j0 (k + 1) y0 y1 y2))
 | 0 => fun _ _ _ r h => by simp [wicketmanref19_route.j0] at h
 | k + 1 => by
  have ih0 := wicketmanref19_route.mono_l k
  ·intro y0 y1 y2
   unfold wicketmanref19_route.j0
   repeat' first | (with_reducible first | exact ih0 _ _ _ | exact LeO.refl _ | exact LeO.none _ | refine LeO.ite ?_ ?_ | refine LeO.bind ?_ (fun _ => ?_)) | exact LeO.none _ | refine LeO.ite ?_ ?_ | refine LeO.bind ?_ (fun _ => ?_)
theorem wicketmanref19_route.mono : ∀ a0 a1 k, LeO (wicketmanref19_route.f k a0 a1) (wicketmanref19_route.f (k + 1) a0 a1) := by
 intro a0 a1 k
 have ih0 := wicketmanref19_route.mono_l k
 unfold wicketmanref19_route.f
 repeat' first | (with_reducible first | exact ih0 _ _ _ | exact LeO.refl _ | exact LeO.none _ | refine LeO.ite ?_ ?_ | refine LeO.bind ?_ (fun _ => ?_)) | exact LeO.none _ | refine LeO.ite ?_ ?_ | refine LeO.bind ?_ (fun _ => ?_)
def wicketmanref11_pieces.l0 : Nat → ByteArray → List ByteArray → Int → Int → Option (List ByteArray)
 | 0, _, _, _, _ => none
 | k + 1, x0, x3, x4, x5 => if x5 ≤ (x0.size : Int) then (if x5 = (x0.size : Int) then (if 0 ≤ x4 then (if x4 ≤ x5 then (if x3.length < 8796093022208 then (wicketmanref11_pieces.l0 k x0 (x3 ++ [x0.extract (x4 : Int).toNat (x5 : Int).toNat]) (wrap64 (x5 + 2)) (wrap64 (x5 + 1))) else (none)) else (none)) else (none)) else (if (wrap64 (x5 + 1)) < (x0.size : Int) then (if 0 ≤ x5 then (if x5 < (x0.size : Int) then (if (bt x0 x5) = 59 then (if 0 ≤ (wrap64 (x5 + 1)) then (if (bt x0 (wrap64 (x5 + 1))) = 32 then (if x5 ≥ x4 then (if 0 ≤ x4 then (if x4 ≤ x5 then (if x3.length < 8796093022208 then (wicketmanref11_pieces.l0 k x0 (x3 ++ [x0.extract (x4 : Int).toNat (x5 : Int).toNat]) (wrap64 (x5 + 2)) (wrap64 (x5 + 1))) else (none)) else (none)) else (none)) else (wicketmanref11_pieces.l0 k x0 x3 x4 (wrap64 (x5 + 1)))) else (wicketmanref11_pieces.l0 k x0 x3 x4 (wrap64 (x5 + 1)))) else (none)) else (wicketmanref11_pieces.l0 k x0 x3 x4 (wrap64 (x5 + 1)))) else (none)) else (none)) else (wicketmanref11_pieces.l0 k x0 x3 x4 (wrap64 (x5 + 1))))) else (some x3)
def wicketmanref11_pieces.f (k : Nat) (a0 : ByteArray) : Option (List ByteArray) := wicketmanref11_pieces.l0 k a0 ([] : List ByteArray) 0 0
theorem wicketmanref11_pieces.mono_l : ∀ k, (∀ y0 y1 y2 y3, LeO (wicketmanref11_pieces.l0 k y0 y1 y2 y3) (wicketmanref11_pieces.l0 (k + 1) y0 y1 y2 y3))
 | 0 => fun _ _ _ _ r h => by simp [wicketmanref11_pieces.l0] at h
 | k + 1 => by
  have ih0 := wicketmanref11_pieces.mono_l k
  ·intro y0 y1 y2 y3
   unfold wicketmanref11_pieces.l0
   repeat' first | (with_reducible first | exact ih0 _ _ _ _ | exact LeO.refl _ | exact LeO.none _ | refine LeO.ite ?_ ?_ | refine LeO.bind ?_ (fun _ => ?_)) | exact LeO.none _ | refine LeO.ite ?_ ?_ | refine LeO.bind ?_ (fun _ => ?_)
theorem wicketmanref11_pieces.mono : ∀ a0 k, LeO (wicketmanref11_pieces.f k a0) (wicketmanref11_pieces.f (k + 1) a0) := by
 intro a0 k
 have ih0 := wicketmanref11_pieces.mono_l k
 unfold wicketmanref11_pieces.f
 repeat' first | (with_reducible first | exact ih0 _ _ _ _ | exact LeO.refl _ | exact LeO.none _ | refine LeO.ite ?_ ?_ | refine LeO.bind ?_ (fun _ => ?_)) | exact LeO.none _ | refine LeO.ite ?_ ?_ | refine LeO.bind ?_ (fun _ => ?_)
end Go.Proofs.YthdiiiopjkaifaaGreatDoor.Pall
end
section
namespace Go.Proofs.YthdiiiopjkaifaaGreatDoor.Pall
open Go.RowKit Go.Proofs.YthdiiiopjkaifaaGreatDoorW.PrintWords Go.Proofs.YthdiiiopjkaifaaGreatDoorW.PrintLast Go.Proofs.YthdiiiopjkaifaaGreatDoor.Pl
set_option linter.unusedVariables false
set_option linter.unusedSimpArgs false
def blk (c : UInt8) : Bool := [(32 : UInt8), 9].contains c
theorem trimL_tRL (l : List UInt8) : trimL l = tR blk (tL blk l) := by rw [← tLR]; rfl
def none3 (e : Int) : ByteArray × ByteArray × Int := (⟨#[]⟩, ⟨#[]⟩, e)
def fieldS (s : ByteArray) : ByteArray × ByteArray × Int :=
 if (s.size : Int) > 2000 then none3 3
 else if pos s.data.toList 58 = s.data.toList.length then none3 12
 else if (tokL (s.data.toList.take (pos s.data.toList 58)) && valL (trimL (s.data.toList.drop (pos s.data.toList 58 + 1)))) = true then
  (mkB (s.data.toList.take (pos s.data.toList 58)), mkB (trimL (s.data.toList.drop (pos s.data.toList 58 + 1))), 0)
 else none3 12
theorem trimL_le (l : List UInt8) : (trimL l).length ≤ l.length := by
 rw [trimL_tRL]; exact Nat.le_trans (tR_le _ _) (tL_le _ _)
theorem headField (s : ByteArray) : head_Field.f s = some (fieldS s) := by
 unfold head_Field.f fieldS
 by_cases hl : (s.size : Int) > 2000
 ·rw [if_pos hl, if_pos hl]; rfl
 ·rw [if_neg hl, if_neg hl]
  have hc : strings_Cut.f s (⟨#[58]⟩ : ByteArray) = some (⟨(Lib.cut s.data.toList [58]).1.toArray⟩, ⟨(Lib.cut s.data.toList [58]).2.1.toArray⟩, (Lib.cut s.data.toList [58]).2.2) := by
   unfold strings_Cut.f; rw [if_pos (by omega)]
  rw [hc]
  simp only [Option.bind_some]
  rw [cut_one]
  by_cases hp : pos s.data.toList 58 = s.data.toList.length
  ·simp only [if_pos hp]
   have ht : strings_Trim.f (⟨([] : List UInt8).toArray⟩ : ByteArray) (⟨#[32, 9]⟩ : ByteArray) = some ⟨(Lib.trimS [] [32, 9]).toArray⟩ := by
    unfold strings_Trim.f; rw [if_pos (by decide)]
   rw [ht]
   simp [none3]
  ·simp only [if_neg hp]
   have hle : (s.data.toList.drop (pos s.data.toList 58 + 1)).length ≤ 2000 := by rw [List.length_drop, len_data]; omega
   have ht : strings_Trim.f (⟨(s.data.toList.drop (pos s.data.toList 58 + 1)).toArray⟩ : ByteArray) (⟨#[32, 9]⟩ : ByteArray) = some (mkB (trimL (s.data.toList.drop (pos s.data.toList 58 + 1)))) := by
    unfold strings_Trim.f; rw [if_pos ⟨by have := mkB_size (s.data.toList.drop (pos s.data.toList 58 + 1)); show (mkB _).size ≤ _; omega, by decide, by decide⟩]; rfl
   rw [ht]
   simp only [Option.bind_some, if_true]
   have h1 : head_Token.f (⟨(s.data.toList.take (pos s.data.toList 58)).toArray⟩ : ByteArray) = some (tokL (s.data.toList.take (pos s.data.toList 58))) := rfl
   have h2 : head_Value.f (mkB (trimL (s.data.toList.drop (pos s.data.toList 58 + 1)))) = some (valL (trimL (s.data.toList.drop (pos s.data.toList 58 + 1)))) := by
    unfold head_Value.f; rw [if_pos (by rw [mkB_size]; have := trimL_le (s.data.toList.drop (pos s.data.toList 58 + 1)); omega)]; rfl
   rw [h1, h2]
   simp only [Option.bind_some]
   cases tokL (s.data.toList.take (pos s.data.toList 58)) <;> cases valL (trimL (s.data.toList.drop (pos s.data.toList 58 + 1))) <;> simp [none3, mkB]
def sameS (a b : ByteArray) : Bool := smallL a.data.toList == smallL b.data.toList
theorem headSame (a b : ByteArray) (ha : a.size ≤ 140737488351232) (hb : b.size ≤ 140737488351232) : head_Same.f a b = some (sameS a b) := by
 unfold head_Same.f head_small.f
 rw [if_pos ha, if_pos hb]
 simp only [Option.bind_some]
 rw [ByteArray.toList_eq, ByteArray.toList_eq]
 rfl
theorem field_any (s : ByteArray) (w : World) (hS : Sh w) : Calls Tryz.prog 147 #[.string s] w fun e w' => e = .returned (.tuple #[.agg #[.string (fieldS s).1, .string (fieldS s).2.1], .int .u16 (fieldS s).2.2]) ∧ Below w.heap.size w w' :=
 head_Field.calls s _ _ _ w hS (headField s)
end Go.Proofs.YthdiiiopjkaifaaGreatDoor.Pall
end
section
namespace Go.Proofs.YthdiiiopjkaifaaGreatDoor.Pl
open Go.RowKit Go.Proofs.YthdiiiopjkaifaaGreatDoor.Pall Go.Proofs.YthdiiiopjkaifaaGreatDoorW.PrintWords Go.Proofs.YthdiiiopjkaifaaGreatDoorW.PrintLast
set_option linter.unusedVariables false
set_option linter.unusedSimpArgs false
/-- what a line is read as -/
def fldS (l : ByteArray) : S76 := ⟨(fieldS l).1, (fieldS l).2.1⟩
/-- what is wrong with the first bad line -/
def fldsE : List ByteArray → Int
 | [] => 0
 | l :: r => if (fieldS l).2.2 = 0 then fldsE r else (fieldS l).2.2
theorem fldsE_app (xs ys : List ByteArray) (h : fldsE xs = 0) : fldsE (xs ++ ys) = fldsE ys := by
 induction xs with
 | nil => rfl
 | cons x xs ih =>
  unfold fldsE at h
  by_cases hx : (fieldS x).2.2 = 0
  ·rw [if_pos hx] at h
   rw [List.cons_append, fldsE, if_pos hx]
   exact ih h
  ·rw [if_neg hx] at h; exact absurd h hx
theorem fldsE_snoc_ok (xs : List ByteArray) (x : ByteArray) (h : fldsE xs = 0) (hx : (fieldS x).2.2 = 0) : fldsE (xs ++ [x]) = 0 := by
 rw [fldsE_app _ _ h, fldsE, if_pos hx]; rfl
theorem fldsE_bad (pre : List ByteArray) (x : ByteArray) (post : List ByteArray) (h : fldsE pre = 0) (hx : (fieldS x).2.2 ≠ 0) : fldsE (pre ++ x :: post) = (fieldS x).2.2 := by
 rw [fldsE_app _ _ h, fldsE, if_neg hx]
theorem rest_at {rest : List ByteArray} {j : Nat} (h : j < rest.length) : rest = rest.take j ++ rest.getD j ByteArray.empty :: rest.drop (j + 1) := by
 have e : rest.getD j ByteArray.empty = rest[j] := by rw [List.getD, List.getElem?_eq_getElem h]; rfl
 rw [e, List.getElem_cons_drop, List.take_append_drop]
theorem take_at {rest : List ByteArray} {j : Nat} (h : j < rest.length) : rest.take (j + 1) = rest.take j ++ [rest.getD j ByteArray.empty] := by
 have e : rest.getD j ByteArray.empty = rest[j] := by rw [List.getD, List.getElem?_eq_getElem h]; rfl
 rw [e, List.take_succ_eq_append_getElem h]
theorem own_ne {α : Type} {d : Kd α} {e b : Nat} {W : World} {ok : Nat → Prop} {v : Value} {xs : List α} (h : d.R e W (b + 1) ok v xs) : some b ≠ v.ownBlock := by
 obtain ⟨_, inner, ho, _⟩ := h
 intro he
 have := own_base ho b he.symm
 omega
theorem R_past {α : Type} {d : Kd α} {e b i : Nat} {W : World} {v : Value} {xs : List α} (h : d.R e W (b + 1) (fun _ => True) v xs) (u : Value) : d.R e (W.setCell ⟨b, i, none⟩ u) (b + 1) (fun _ => True) v xs :=
 Kd.R_mono (Kd.R_far (p := ⟨b, i, none⟩) (Kd.R_bound h) (fun k hk => by have := hk.2.1; show k ≠ b; omega) u) (fun _ _ => trivial)
theorem cut_bytes (A : Option Addr) (c : Nat) (xs : List Int) (m : Nat) (hm : m ≤ xs.length) (hc : xs.length ≤ c) :
  ∃ A' : Option Addr, (∀ W : World, (Instr.slice 23 (.slice A xs.length c) (some (.int .i64 (m : Int))) none none).run Tryz.prog W = .ok (.slice A' (xs.drop m).length (c - m)) W) ∧
   ∀ W : World, Kd.C (Kd.int .u8) W A xs.length xs → Kd.C (Kd.int .u8) W A' (xs.drop m).length (xs.drop m) := by
 obtain ⟨i, hi, _, hz, _⟩ := info_parts info5
 obtain ⟨A', h1, h2, _⟩ := print_drop_of (P := Tryz.prog) (Value.int .u8) (0 : Int) 23 5 .i64 Tryz.underlying23 hi hz A c xs (m : Int) (by omega) (by omega) hc
 rw [Int.toNat_natCast] at h1 h2
 exact ⟨A', h1, fun W h => Kd.C_of_reads (h1 := fun _ => rfl) (h2 W (Kd.reads_of_C (h1 := fun _ => rfl) h))⟩
theorem fld_size (l : ByteArray) (h : (fieldS l).2.2 = 0) : (fieldS l).1.size ≤ 140737488351232 := by
 unfold fieldS at h ⊢
 split at h
 ·exact absurd h (by decide)
 ·rename_i hl
  rw [if_neg hl]
  split at h
  ·exact absurd h (by decide)
  ·rename_i h2
   rw [if_neg h2]
   split at h
   ·rename_i h3
    rw [if_pos h3]
    show (mkB _).size ≤ _
    rw [mkB_size, List.length_take, len_data]
    omega
   ·exact absurd h (by decide)
end Go.Proofs.YthdiiiopjkaifaaGreatDoor.Pl
end

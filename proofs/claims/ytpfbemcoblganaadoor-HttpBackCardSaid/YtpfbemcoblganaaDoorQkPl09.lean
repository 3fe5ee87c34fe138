/-

The document's answer of layer 9: its Parse comes to what http.Parse comes to.
-/
import Derived.Test.YtpfbemcoblganaaDoorQkPall0
import Derived.Test.YtpfbemcoblganaaDoorQkPall5
import Derived.Test.YtpfbemcoblganaaDoorQkPall6
import Derived.Test.YtpfbemcoblganaaDoorQkPall8
import Derived.Test.YtpfbemcoblganaaDoorQkHp
import Derived.Test.YtpfbemcoblganaaDoorQkPall1
import Derived.Test.YtpfbemcoblganaaDoorQkPall4
section
namespace Go.Proofs.YtpfbemcoblganaaDoor.Pall
open Go.RowKit Go.Proofs.YtpfbemcoblganaaDoorW.PrintWords Go.Proofs.YtpfbemcoblganaaDoorW.PrintLast
set_option linter.unusedVariables false
set_option linter.unusedSimpArgs false
def wicketmanref09_Parse.j0 : Nat → List Int → List ByteArray → Int → Bool → Option (ByteArray × ByteArray × (List (S43)) × List Int × Int)
 | 0, _, _, _, _ => none
 | k + 1, x0, x4, x5, x24 => if x24 = true then (some ((⟨#[]⟩ : ByteArray), (⟨#[]⟩ : ByteArray), ([] : List (S43)), ([] : List Int), 10)) else (if 0 < (x4.length : Int) then ((wicketmanref09_first.f k (rdOf ByteArray.empty x4 0)).bind fun bt240 => (if bt240.2.2.2.2 = 0 then (if 1 ≤ (x4.length : Int) then ((wicketmanref09_fields.f k (x4.drop 1)).bind fun bt254 => (if bt254.2 = 0 then ((wicketmanref09_body.f k bt254.1 (wrap64 ((x0.length : Int) - x5))).bind fun t258 => (if t258 = 0 then (if 0 ≤ x5 then (if x5 ≤ (x0.length : Int) then (some (bt240.1, bt240.2.1, bt254.1, (x0.drop (x5 : Int).toNat), 0)) else (none)) else (none)) else (some ((⟨#[]⟩ : ByteArray), (⟨#[]⟩ : ByteArray), ([] : List (S43)), ([] : List Int), t258)))) else (some ((⟨#[]⟩ : ByteArray), (⟨#[]⟩ : ByteArray), ([] : List (S43)), ([] : List Int), bt254.2)))) else (none)) else (some ((⟨#[]⟩ : ByteArray), (⟨#[]⟩ : ByteArray), ([] : List (S43)), ([] : List Int), bt240.2.2.2.2)))) else (none))
def wicketmanref09_Parse.f (k : Nat) (l0 : List Int) : Option (ByteArray × ByteArray × (List (S43)) × List Int × Int) := (wicketmanref09_Lines.f k l0).bind fun bt234 => (if bt234.2.2 = true then (wicketmanref09_Parse.j0 k l0 bt234.1 bt234.2.1 ((bt234.1.length : Int) == 0)) else (wicketmanref09_Parse.j0 k l0 bt234.1 bt234.2.1 true))
theorem wicketmanref09_Parse.mono_l : ∀ k, (∀ y0 y1 y2 y3, LeO (wicketmanref09_Parse.j0 k y0 y1 y2 y3) (wicketmanref09_Parse.j0 (k + 1) y0 y1 y2 y3))
 | 0 => fun _ _ _ _ r h => by simp [wicketmanref09_Parse.j0] at h
 | k + 1 => by
  have ih0 := wicketmanref09_Parse.mono_l k
  ·intro y0 y1 y2 y3
   unfold wicketmanref09_Parse.j0
   repeat' first
   | (with_reducible exact ih0 _ _ _ _)
   | (with_reducible exact wicketmanref09_Lines.mono _ _)
   | (with_reducible exact wicketmanref09_body.mono _ _ _)
   | (with_reducible exact wicketmanref09_fields.mono _ _)
   | (with_reducible exact wicketmanref09_first.mono _ _)
   | (with_reducible exact LeO.refl _)
   | (with_reducible exact LeO.none _)
   | (with_reducible refine LeO.ite ?_ ?_)
   | (with_reducible refine LeO.bind ?_ (fun _ => ?_))
   | exact ih0 _ _ _ _
   | exact wicketmanref09_Lines.mono _ _
   | exact wicketmanref09_body.mono _ _ _
   | exact wicketmanref09_fields.mono _ _
   | exact wicketmanref09_first.mono _ _
   | exact LeO.none _
   | refine LeO.ite ?_ ?_
   | refine LeO.bind ?_ (fun _ => ?_)
theorem wicketmanref09_Parse.mono : ∀ a0 k, LeO (wicketmanref09_Parse.f k a0) (wicketmanref09_Parse.f (k + 1) a0) := by
 intro a0 k
 have ih0 := wicketmanref09_Parse.mono_l k
 unfold wicketmanref09_Parse.f
 repeat' first
   | (with_reducible exact ih0 _ _ _ _)
   | (with_reducible exact wicketmanref09_Lines.mono _ _)
   | (with_reducible exact wicketmanref09_body.mono _ _ _)
   | (with_reducible exact wicketmanref09_fields.mono _ _)
   | (with_reducible exact wicketmanref09_first.mono _ _)
   | (with_reducible exact LeO.refl _)
   | (with_reducible exact LeO.none _)
   | (with_reducible refine LeO.ite ?_ ?_)
   | (with_reducible refine LeO.bind ?_ (fun _ => ?_))
   | exact ih0 _ _ _ _
   | exact wicketmanref09_Lines.mono _ _
   | exact wicketmanref09_body.mono _ _ _
   | exact wicketmanref09_fields.mono _ _
   | exact wicketmanref09_first.mono _ _
   | exact LeO.none _
   | refine LeO.ite ?_ ?_
   | refine LeO.bind ?_ (fun _ => ?_)
def wicketmanref08_SameTexts.l0 : Nat → List ByteArray → List ByteArray → Int → Option (Bool)
 | 0, _, _, _ => none
 | k + 1, x0, x1, x5 => if x5 < (x0.length : Int) then (if 0 ≤ x5 then (if x5 < (x1.length : Int) then (if (rdOf ByteArray.empty x0 x5).toList = (rdOf ByteArray.empty x1 x5).toList then (wicketmanref08_SameTexts.l0 k x0 x1 (wrap64 (x5 + 1))) else (some false)) else (none)) else (none)) else (some true)
def wicketmanref08_SameTexts.f (k : Nat) (l0 : List ByteArray) (l1 : List ByteArray) : Option (Bool) := if (l0.length : Int) = (l1.length : Int) then (wicketmanref08_SameTexts.l0 k l0 l1 0) else (some false)
theorem wicketmanref08_SameTexts.mono_l : ∀ k, (∀ y0 y1 y2, LeO (wicketmanref08_SameTexts.l0 k y0 y1 y2) (wicketmanref08_SameTexts.l0 (k + 1) y0 y1 y2))
 | 0 => fun _ _ _ r h => by simp [wicketmanref08_SameTexts.l0] at h
 | k + 1 => by
  have ih0 := wicketmanref08_SameTexts.mono_l k
  ·intro y0 y1 y2
   unfold wicketmanref08_SameTexts.l0
   repeat' first
   | (with_reducible exact ih0 _ _ _)
   | (with_reducible exact LeO.refl _)
   | (with_reducible exact LeO.none _)
   | (with_reducible refine LeO.ite ?_ ?_)
   | (with_reducible refine LeO.bind ?_ (fun _ => ?_))
   | exact ih0 _ _ _
   | exact LeO.none _
   | refine LeO.ite ?_ ?_
   | refine LeO.bind ?_ (fun _ => ?_)
theorem wicketmanref08_SameTexts.mono : ∀ a0 a1 k, LeO (wicketmanref08_SameTexts.f k a0 a1) (wicketmanref08_SameTexts.f (k + 1) a0 a1) := by
 intro a0 a1 k
 have ih0 := wicketmanref08_SameTexts.mono_l k
 unfold wicketmanref08_SameTexts.f
 repeat' first
   | (with_reducible exact ih0 _ _ _)
   | (with_reducible exact LeO.refl _)
   | (with_reducible exact LeO.none _)
   | (with_reducible refine LeO.ite ?_ ?_)
   | (with_reducible refine LeO.bind ?_ (fun _ => ?_))
   | exact ih0 _ _ _
   | exact LeO.none _
   | refine LeO.ite ?_ ?_
   | refine LeO.bind ?_ (fun _ => ?_)
end Go.Proofs.YtpfbemcoblganaaDoor.Pall
end
section
namespace Go.Proofs.YtpfbemcoblganaaDoor.Pl
open Go.RowKit Go.Proofs.YtpfbemcoblganaaDoor.Pall Go.Proofs.YtpfbemcoblganaaDoorW.PrintWords Go.Proofs.YtpfbemcoblganaaDoorW.PrintLast
set_option linter.unusedVariables false
set_option linter.unusedSimpArgs false
theorem pairs_same (l : List S43) (hl : l.length ≤ 9223372036854775806) : ∀ d i, l.length - i = d → i ≤ l.length → Ev (fun k => wicketmanref07_Same.l0 k l l (i : Nat)) true := by
  intro d
  induction d with
  | zero =>
    intro i hd hi
    refine Ev.step (f := fun _ => some true) (fun k => ?_) (Ev.now _)
    simp only [wicketmanref07_Same.l0]; rw [if_neg (by omega)]
  | succ d ih =>
    intro i hd hi
    refine Ev.step (fun k => ?_) (ih (i + 1) (by omega) (by omega))
    simp only [wicketmanref07_Same.l0]
    rw [if_pos (by omega), if_pos (by omega), if_pos (by omega), if_neg (by simp), wrap_id (by omega) (by omega)]
    rfl
theorem pairs_same_true (l : List S43) (hl : l.length ≤ 9223372036854775806) : Ev (fun k => wicketmanref07_Same.f k l l) true := by
  refine Ev.congr (f := fun k => wicketmanref07_Same.l0 k l l ((0 : Nat) : Int)) (fun k => ?_) (pairs_same l hl _ 0 rfl (by omega))
  unfold wicketmanref07_Same.f; rw [if_pos rfl]; rfl
def splitC (c : UInt8) : List UInt8 → List (List UInt8)
  | [] => [[]]
  | b :: l => if b = c then [] :: splitC c l else (match splitC c l with | [] => [[b]] | p :: ps => (b :: p) :: ps)
theorem splitC_pos (c : UInt8) : ∀ l, splitC c l = if pos l c = l.length then [l] else l.take (pos l c) :: splitC c (l.drop (pos l c + 1))
  | [] => rfl
  | b :: l => by
    by_cases h : b = c
    · subst h
      have hp : pos (b :: l) b = 0 := by unfold pos; simp
      rw [hp, splitC, if_pos rfl, if_neg (by simp)]; rfl
    · have hp : pos (b :: l) c = pos l c + 1 := by unfold pos; simp [List.takeWhile_cons, h]
      rw [hp, splitC, if_neg h, splitC_pos c l, List.length_cons]
      by_cases e : pos l c = l.length
      · rw [if_pos e, if_pos (by omega)]
      · rw [if_neg e, if_neg (by omega)]; rfl
theorem index_mk (l : List UInt8) : Lib.indexB (mkB l) spB = if pos l 32 = l.length then -1 else (pos l 32 : Int) := by
  have h := Lib.index_one l 32
  rw [indexByte_pos] at h
  exact h
theorem words_split : ∀ (n : Nat) (l : List UInt8), l.length ≤ n → Lib.splitB spB 0 (Lib.countB (mkB l) spB) (mkB l) = (splitC 32 l).map mkB := by
  intro n
  induction n with
  | zero =>
    intro l hl
    obtain rfl := List.eq_nil_of_length_eq_zero (Nat.le_zero.1 hl)
    rfl
  | succ n ih =>
    intro l hl
    have hx := index_mk l
    have hle := pos_le l 32
    rw [splitC_pos]
    by_cases e : pos l 32 = l.length
    · rw [if_pos e] at hx ⊢
      rw [Lib.splitB_miss _ _ _ _ hx]; rfl
    · rw [if_neg e] at hx ⊢
      have hc := Lib.countB_hit (mkB l) spB (pos l 32) (by decide) hx
      rw [hc, Nat.add_comm, Lib.splitB_hit _ _ _ _ _ hx, List.map_cons]
      have e1 : (mkB l).extract 0 (pos l 32 + 0) = mkB (l.take (pos l 32)) := by rw [ext_to]; rfl
      have e2 : (mkB l).extract (pos l 32 + spB.size) (mkB l).size = mkB (l.drop (pos l 32 + 1)) := by rw [ext_from]; rfl
      rw [e1, e2, ih _ (by rw [List.length_drop]; omega)]
theorem wordsL_mk (x : ByteArray) : wordsL x = (splitC 32 x.data.toList).map mkB := by
  have h := words_split _ x.data.toList (Nat.le_refl _)
  rw [mkB_self] at h
  exact h
end Go.Proofs.YtpfbemcoblganaaDoor.Pl
end

/-
  The plain laws of layer 8, the rest: values, fields, names that are the same, lines.
-/
import Derived.Test.YtipbgnhhmgljnaaDoorPlb
import Derived.Test.YtipbgnhhmgljnaaDoorPall21
import Derived.Test.YtipbgnhhmgljnaaDoorPall16
import Derived.Test.YtipbgnhhmgljnaaDoorPall19
namespace Go.Proofs.YtipbgnhhmgljnaaDoor.Pall
open Go.RowKit Go.Proofs.YtipbgnhhmgljnaaDoorW.PrintWords Go.Proofs.YtipbgnhhmgljnaaDoorW.PrintLast Go.Proofs.YtipbgnhhmgljnaaDoorW.PrintMore Go.Proofs.YtipbgnhhmgljnaaDoor.Pl
set_option linter.unusedVariables false
set_option linter.unusedSimpArgs false

/-! ### blanks -/
def blk (c : UInt8) : Bool := [(32 : UInt8), 9].contains c
/-! ### a value -/
/-! ### a field -/
/-! ### a field as a line -/
/-! ### names that are the same -/
def sameS (a b : ByteArray) : Bool := smallL a.data.toList == smallL b.data.toList
theorem headSame (a b : ByteArray) (ha : a.size ≤ 140737488351232) (hb : b.size ≤ 140737488351232) : head_Same.f a b = some (sameS a b) := by
  unfold head_Same.f head_small.f
  rw [if_pos ha, if_pos hb]
  simp only [Option.bind_some]
  rw [ByteArray.toList_eq, ByteArray.toList_eq]
  rfl
theorem refSmall (c : UInt8) : wicketmanref08_small.f c.toNat = some ((smallB c).toNat : Int) := by
  have h := u8_all (fun c => wicketmanref08_small.f c.toNat == some ((smallB c).toNat : Int)) (by decide +kernel) c
  simpa using h
theorem refSame_loop (a b : ByteArray) (hab : a.size = b.size) (hs : a.size ≤ 9223372036854775806) : ∀ d i, a.size - i = d → i ≤ a.size →
    Ev (fun k => wicketmanref08_Same.l0 k a b (i : Nat)) (smallL (a.data.toList.drop i) == smallL (b.data.toList.drop i)) := by
  intro d
  induction d with
  | zero =>
    intro i hd hi
    obtain rfl : i = a.size := by omega
    refine Ev.step (f := fun _ => some true) (fun k => ?_) ?_
    · simp only [wicketmanref08_Same.l0]; rw [if_neg (by omega)]
    · rw [List.drop_of_length_le (by rw [len_data]; exact Nat.le_refl _), List.drop_of_length_le (by rw [len_data]; omega)]; exact Ev.now _
  | succ d ih =>
    intro i hd hi
    have h1 : i < a.size := by omega
    have h2 : i < b.size := by omega
    have hdrop : ∀ s : ByteArray, i < s.size → s.data.toList.drop i = s.data.toList.getD i 0 :: s.data.toList.drop (i + 1) := by
      intro s hlt
      rw [List.drop_eq_getElem_cons (by rw [len_data]; exact hlt), List.getD, List.getElem?_eq_getElem (by rw [len_data]; exact hlt)]; rfl
    rw [hdrop a h1, hdrop b h2]
    refine Ev.step (f := fun k => if smallB (a.data.toList.getD i 0) = smallB (b.data.toList.getD i 0) then wicketmanref08_Same.l0 k a b ((i + 1 : Nat) : Int) else some false) (fun k => ?_) ?_
    · simp only [wicketmanref08_Same.l0]
      rw [if_pos (by omega), if_pos (by omega), bt_nat a i h1, refSmall, Option.bind_some, if_pos (by omega), bt_nat b i h2, refSmall, Option.bind_some, wrap_id (by omega) (by omega)]
      by_cases e : smallB (a.data.toList.getD i 0) = smallB (b.data.toList.getD i 0)
      · rw [if_pos (by rw [e]), if_pos e]; rfl
      · rw [if_neg (by intro h; apply e; apply UInt8.toNat_inj.1; exact Int.ofNat.inj h), if_neg e]
    · by_cases e : smallB (a.data.toList.getD i 0) = smallB (b.data.toList.getD i 0)
      · simp only [if_pos e]
        have := ih (i + 1) (by omega) (by omega)
        have e2 : (smallL (a.data.toList.getD i 0 :: a.data.toList.drop (i + 1)) == smallL (b.data.toList.getD i 0 :: b.data.toList.drop (i + 1))) = (smallL (a.data.toList.drop (i + 1)) == smallL (b.data.toList.drop (i + 1))) := by
          simp only [smallL, List.map_cons, e]; rw [List.cons_beq_cons]; simp
        rw [e2]; exact this
      · simp only [if_neg e]
        have e2 : (smallL (a.data.toList.getD i 0 :: a.data.toList.drop (i + 1)) == smallL (b.data.toList.getD i 0 :: b.data.toList.drop (i + 1))) = false := by
          rw [beq_eq_false_iff_ne]; intro h; simp only [smallL, List.map_cons] at h; injection h with h1 _; exact e h1
        rw [e2]; exact Ev.now _
theorem refSame (a b : ByteArray) (ha : a.size ≤ 9223372036854775806) : Ev (fun k => wicketmanref08_Same.f k a b) (sameS a b) := by
  by_cases hab : a.size = b.size
  · have h := refSame_loop a b hab ha _ 0 rfl (by omega)
    refine Ev.congr (f := fun k => wicketmanref08_Same.l0 k a b ((0 : Nat) : Int)) (fun k => ?_) ?_
    · unfold wicketmanref08_Same.f; rw [if_pos (by omega)]; rfl
    · rw [List.drop_zero, List.drop_zero] at h; exact h
  · refine Ev.congr (f := fun _ => some false) (fun k => ?_) ?_
    · unfold wicketmanref08_Same.f; rw [if_neg (by omega)]
    · have : sameS a b = false := by
        unfold sameS
        rw [beq_eq_false_iff_ne]; intro h
        have := congrArg List.length h
        simp only [smallL, List.length_map, len_data] at this
        exact hab this
      rw [this]; exact Ev.now _

/-! ### the calls, for the laws' walks -/
theorem same_any (a b : ByteArray) (w : World) (ha : a.size ≤ 140737488351232) (hb : b.size ≤ 140737488351232) : Calls Tryd.prog 50 #[.string a, .string b] w fun e w' => e = .returned (.bool (sameS a b)) ∧ Below w.heap.size w w' :=
  head_Same.calls a b _ w (headSame a b ha hb)
/-- letters, as choices say -/
def letW (n : Int) : UInt8 := UInt8.ofNat (97 + n.toNat % 26)
def wordS (l : List Int) : ByteArray := mkB ((l.take 30).map letW)
theorem wordS_size (l : List Int) : (wordS l).size ≤ 30 := by unfold wordS; rw [mkB_size, List.length_map, List.length_take]; omega
theorem strOf1 (n : Int) : strOfNums [n] = mkB [UInt8.ofNat n.toNat] := ba_ext rfl
/-! ### what the laws' helpers come to -/
/-- the pieces of a line, as choices say -/
def tab08 : List ByteArray := [⟨#[72, 111, 115, 116]⟩, ⟨#[67, 111, 111, 107, 105, 101]⟩, ⟨#[58]⟩, ⟨#[58, 32]⟩, ⟨#[32]⟩, ⟨#[9]⟩, ⟨#[97]⟩, ⟨#[67, 111, 110, 116, 101, 110, 116, 45, 76, 101, 110, 103, 116, 104]⟩, ⟨#[53]⟩, ⟨#[95, 95, 72, 111, 115, 116, 45, 105, 100, 61]⟩, ⟨#[59, 32]⟩, ⟨#[0]⟩, ⟨#[127]⟩, ⟨#[233]⟩, ⟨#[40]⟩, ⟨#[120, 61, 49]⟩, ⟨#[34]⟩, ⟨#[44]⟩]
def pc08 (n : Int) : List UInt8 := (rdOf ByteArray.empty tab08 (n % 18)).data.toList
theorem pc08_len (n : Int) (h : 0 ≤ n ∧ n ≤ 255) : (pc08 n).length ≤ 14 := by
  have hall : ((List.range 256).all fun k => decide ((pc08 (k : Int)).length ≤ 14)) = true := by decide +kernel
  obtain ⟨k, rfl⟩ : ∃ k : Nat, n = k := ⟨n.toNat, by omega⟩
  simpa using List.all_eq_true.1 hall k (List.mem_range.2 (by omega))
def lineS (l : List Int) : ByteArray := mkB ((l.take 30).flatMap pc08)
theorem flat_len (l : List Int) (hb : ∀ x ∈ l, 0 ≤ x ∧ x ≤ 255) : (l.flatMap pc08).length ≤ 14 * l.length := by
  induction l with
  | nil => simp
  | cons a l ih =>
    have h1 := pc08_len a (hb a (List.mem_cons_self ..))
    have h2 := ih (fun x hx => hb x (List.mem_cons_of_mem _ hx))
    rw [List.flatMap_cons, List.length_append, List.length_cons]; omega
theorem lineS_size (l : List Int) (hb : ∀ x ∈ l, 0 ≤ x ∧ x ≤ 255) : (lineS l).size ≤ 420 := by
  unfold lineS; rw [mkB_size]
  have := flat_len (l.take 30) (fun x hx => hb x (List.mem_of_mem_take hx))
  rw [List.length_take] at this; omega
theorem line_loop (l : List Int) (hb : ∀ x ∈ l, 0 ≤ x ∧ x ≤ 255) (hl : l.length ≤ 9223372036854775806) : ∀ d i (s : ByteArray), 30 - i = d → i ≤ 30 → i ≤ l.length → s.size ≤ 14 * i →
    Ev (fun k => wicketmanlaw08_Line.l0 k l tab08 s (i : Nat)) (s ++ mkB (((l.take 30).drop i).flatMap pc08)) := by
  intro d
  induction d with
  | zero =>
    intro i s hd hi hil hs
    obtain rfl : i = 30 := by omega
    refine Ev.step (f := fun _ => some s) (fun k => ?_) ?_
    · simp only [wicketmanlaw08_Line.l0]
      by_cases h : ((30 : Nat) : Int) < (l.length : Int)
      · rw [if_pos h, if_neg (by decide)]
      · rw [if_neg h]
    · rw [List.drop_of_length_le (by rw [List.length_take]; omega)]
      have : s ++ mkB (List.flatMap pc08 []) = s := ba_ext (by simp [mkB])
      rw [this]; exact Ev.now _
  | succ d ih =>
    intro i s hd hi hil hs
    by_cases hlt : i < l.length
    · have hx := hb (l.getD i 0) (by rw [List.getD, List.getElem?_eq_getElem hlt]; exact List.getElem_mem hlt)
      have hdrop : (l.take 30).drop i = l.getD i 0 :: (l.take 30).drop (i + 1) := by
        rw [List.drop_eq_getElem_cons (by rw [List.length_take]; omega), List.getElem_take, List.getD, List.getElem?_eq_getElem hlt]; rfl
      have hm : Int.tmod (wrap64 (rd l (i : Nat))) (tab08.length : Int) = l.getD i 0 % 18 := by
        unfold rd; rw [Int.toNat_natCast, wrap_small _ hx.1 (by omega), Int.tmod_eq_emod_of_nonneg hx.1]; rfl
      have hpl := pc08_len (l.getD i 0) hx
      have hp : rdOf ByteArray.empty tab08 (l.getD i 0 % 18) = mkB (pc08 (l.getD i 0)) := ba_ext rfl
      refine Ev.step (f := fun k => wicketmanlaw08_Line.l0 k l tab08 (s ++ mkB (pc08 (l.getD i 0))) ((i + 1 : Nat) : Int)) (fun k => ?_) ?_
      · simp only [wicketmanlaw08_Line.l0]
        rw [if_pos (by omega), if_pos (by omega), if_pos (by omega), if_neg (by decide), hm, if_pos (by omega), if_pos (by show _ < (18 : Int); omega), hp, if_pos (by rw [mkB_size]; omega), wrap_id (by omega) (by omega)]
        rfl
      · have := ih (i + 1) (s ++ mkB (pc08 (l.getD i 0))) (by omega) (by omega) (by omega) (by rw [ByteArray.size_append, mkB_size]; omega)
        rw [hdrop, List.flatMap_cons]
        have e : s ++ mkB (pc08 (l.getD i 0) ++ List.flatMap pc08 ((l.take 30).drop (i + 1))) = s ++ mkB (pc08 (l.getD i 0)) ++ mkB (List.flatMap pc08 ((l.take 30).drop (i + 1))) := ba_ext (by simp [mkB])
        rw [e]; exact this
    · refine Ev.step (f := fun _ => some s) (fun k => ?_) ?_
      · simp only [wicketmanlaw08_Line.l0]; rw [if_neg (by omega)]
      · rw [List.drop_of_length_le (by rw [List.length_take]; omega)]
        have : s ++ mkB (List.flatMap pc08 []) = s := ba_ext (by simp [mkB])
        rw [this]; exact Ev.now _
theorem line_ev (l : List Int) (hb : ∀ x ∈ l, 0 ≤ x ∧ x ≤ 255) (hl : l.length ≤ 9223372036854775806) : Ev (fun k => wicketmanlaw08_Line.f k l) (lineS l) := by
  have h := line_loop l hb hl 30 0 (⟨#[]⟩ : ByteArray) rfl (by omega) (by omega) (Nat.le_refl _)
  have e : (⟨#[]⟩ : ByteArray) ++ mkB (((l.take 30).drop 0).flatMap pc08) = lineS l := ba_ext (by simp [mkB, lineS])
  rw [e] at h; exact h

def letter8 (c : UInt8) : Bool := decide (97 ≤ c.toNat ∧ c.toNat ≤ 122)
theorem letW_letter (n : Int) : letter8 (letW n) = true := by
  unfold letter8 letW
  rw [UInt8.toNat_ofNat']; simp; omega
theorem wordS_letters (l : List Int) : (wordS l).data.toList.all letter8 = true := by
  unfold wordS; rw [mkB_list, List.all_eq_true]
  intro x hx
  obtain ⟨n, _, rfl⟩ := List.mem_map.1 hx
  exact letW_letter n
end Go.Proofs.YtipbgnhhmgljnaaDoor.Pall

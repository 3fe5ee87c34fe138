/-
  Layer 9: what the statements' own words come to: parses, Raw, known.
-/
import Derived.Test.YtpfbemcoblganaaGreatDoorQzPl09
import Derived.Test.YtpfbemcoblganaaGreatDoorQzPall8
import Derived.Test.YtpfbemcoblganaaGreatDoorQzPall3
import Derived.Test.YtpfbemcoblganaaGreatDoorQzPall2
namespace Go.Proofs.YtpfbemcoblganaaGreatDoor.Pl
open Go.RowKit Go.Proofs.YtpfbemcoblganaaGreatDoor.Pall Go.Proofs.YtpfbemcoblganaaGreatDoorW.PrintWords Go.Proofs.YtpfbemcoblganaaGreatDoorW.PrintLast
set_option linter.unusedVariables false
set_option linter.unusedSimpArgs false
theorem fstE_range (x : ByteArray) : 0 ≤ fstE x ∧ fstE x ≤ 14 := by
  unfold fstE; split; exact ⟨by decide, by decide⟩; split <;> exact ⟨by decide, by decide⟩
theorem fldsE_range : ∀ l : List ByteArray, 0 ≤ fldsE l ∧ fldsE l ≤ 14
  | [] => ⟨by decide, by decide⟩
  | x :: l => by
    unfold fldsE; split
    · exact fldsE_range l
    · have := fieldS_err x; omega
theorem bodyE_range (fs : List S34) (n : Nat) : 0 ≤ bodyE fs n ∧ bodyE fs n ≤ 14 := by
  unfold bodyE
  split
  · split
    · split <;> exact ⟨by decide, by decide⟩
    · split <;> exact ⟨by decide, by decide⟩
  · exact ⟨by decide, by decide⟩
theorem parseQ_range (l0 : List Int) : (0 ≤ (parseQ l0).2.2.2.2 ∧ (parseQ l0).2.2.2.2 ≤ 14) ∧ (parseQ l0).2.2.1.length ≤ 40 := by
  unfold parseQ
  split
  · unfold parseL
    split
    · exact ⟨⟨by decide, by decide⟩, by decide⟩
    · rename_i x rest _
      split
      · exact ⟨fstE_range x, Nat.zero_le _⟩
      · split
        · exact ⟨⟨by decide, by decide⟩, by decide⟩
        · split
          · exact ⟨fldsE_range rest, Nat.zero_le _⟩
          · split
            · exact ⟨bodyE_range _ _, Nat.zero_le _⟩
            · refine ⟨⟨by show (0 : Int) ≤ 0; decide, by show (0 : Int) ≤ 14; decide⟩, ?_⟩
              show (rest.map fldS).length ≤ 40
              rw [List.length_map]; omega
  · exact ⟨⟨by decide, by decide⟩, by decide⟩
theorem same09_true (a b : ByteArray) (l : List S34) (n : List Int) (hl : l.length ≤ 9223372036854775806) : Ev (fun k => wicketmanref09_Same.f k a b l n a b l n) true := by
  refine Ev.congr (f := fun k => (wicketmanref07_Same.f k l l).bind fun t => if t = true then some ((strOfNums n).toList == (strOfNums n).toList) else some false) (fun k => ?_) ?_
  · unfold wicketmanref09_Same.f; rw [if_pos rfl, if_pos rfl]
  · refine Ev.bind (pairs_same_true l hl) ?_
    simp only [if_true, beq_self_eq_true]; exact Ev.now _
theorem parse_some (bs : List UInt8) (hb : bs.length ≤ 4000000) : http_Parse.f (numsL bs) = some (parseQ (numsL bs)) := by
  unfold http_Parse.f; rw [if_pos (by rw [numsL_len]; omega)]
theorem btsOf_nums (s : ByteArray) : btsOf s = numsL s.data.toList := rfl
def firstLs : List ByteArray := [⟨#[71, 69, 84, 32, 47, 32, 72, 84, 84, 80, 47, 49, 46, 49]⟩, ⟨#[80, 79, 83, 84, 32, 47, 108, 111, 103, 105, 110, 32, 72, 84, 84, 80, 47, 49, 46, 49]⟩, ⟨#[71, 69, 84, 32, 32, 47, 32, 72, 84, 84, 80, 47, 49, 46, 49]⟩, ⟨#[71, 69, 84, 32, 47, 97, 32, 72, 84, 84, 80, 47, 49, 46, 48]⟩, ⟨#[71, 32, 84, 32, 47, 32, 72, 84, 84, 80, 47, 49, 46, 49]⟩, ⟨#[71, 69, 84, 32, 120, 32, 72, 84, 84, 80, 47, 49, 46, 49]⟩, ⟨#[80, 85, 84, 32, 47, 128, 32, 72, 84, 84, 80, 47, 49, 46, 49]⟩, ⟨#[]⟩]
def fieldLs : List ByteArray := [⟨#[72, 111, 115, 116, 58, 32, 97]⟩, ⟨#[72, 111, 115, 116, 58, 98]⟩, ⟨#[67, 111, 110, 116, 101, 110, 116, 45, 76, 101, 110, 103, 116, 104, 58, 32, 51]⟩, ⟨#[67, 111, 110, 116, 101, 110, 116, 45, 76, 101, 110, 103, 116, 104, 58, 32, 48]⟩, ⟨#[67, 111, 110, 116, 101, 110, 116, 45, 76, 101, 110, 103, 116, 104, 58, 32, 43, 51]⟩, ⟨#[67, 111, 110, 116, 101, 110, 116, 45, 76, 101, 110, 103, 116, 104, 58, 32, 52, 48, 48, 49]⟩, ⟨#[84, 114, 97, 110, 115, 102, 101, 114, 45, 69, 110, 99, 111, 100, 105, 110, 103, 58, 32, 99, 104, 117, 110, 107, 101, 100]⟩, ⟨#[67, 111, 111, 107, 105, 101, 58, 32, 97, 61, 49]⟩, ⟨#[32, 120, 58, 32, 49]⟩, ⟨#[88, 32, 58, 32, 49]⟩, ⟨#[88, 58]⟩, ⟨#[99, 111, 110, 116, 101, 110, 116, 45, 108, 101, 110, 103, 116, 104, 58, 32, 48, 51]⟩]
theorem rdOf_small {l : List ByteArray} {N : Nat} (h : l.all (fun x => decide (x.size ≤ N)) = true) (i : Int) : (rdOf ByteArray.empty l i).size ≤ N := by
  unfold rdOf
  rw [List.getD]
  cases e : l[i.toNat]? with
  | none => exact Nat.zero_le _
  | some x => exact of_decide_eq_true (List.all_eq_true.1 h x (List.mem_of_getElem? e))
theorem raw_end (c : List Int) (a1 : Int) (h0 : 0 ≤ a1) (h1 : a1 ≤ 255) (Ls : List ByteArray) (s : ByteArray) (i : Nat) (hs : s.size ≤ 400) (hi : c.length ≤ i ∨ 8 ≤ i) (hc : c.length ≤ 9223372036854775806) :
    ∃ t : List UInt8, 2 ≤ t.length ∧ t.length ≤ 410 ∧ Ev (fun k => wicketmanlaw09_Raw.l0 k c a1 Ls s (i : Int)) (numsL t) := by
  have hm : Int.tdiv a1 8 = a1 / 8 := Int.tdiv_eq_ediv_of_nonneg h0
  have hsz : (s ++ (⟨#[13, 10]⟩ : ByteArray)).size = s.size + 2 := by rw [ByteArray.size_append]; rfl
  by_cases hp : (((Int.tdiv a1 8) % 256) % 4) > 0
  · have hx : ((⟨#[97, 98, 99]⟩ : ByteArray).extract 0 ((((Int.tdiv a1 8) % 256) % 4) : Int).toNat).size ≤ 3 := by
      rw [ByteArray.size_extract]; show min _ 3 - 0 ≤ 3; omega
    have hsz2 : ((s ++ (⟨#[13, 10]⟩ : ByteArray)) ++ ((⟨#[97, 98, 99]⟩ : ByteArray).extract 0 ((((Int.tdiv a1 8) % 256) % 4) : Int).toNat)).size ≤ s.size + 5 := by rw [ByteArray.size_append, hsz]; omega
    have hsz3 : s.size + 2 ≤ ((s ++ (⟨#[13, 10]⟩ : ByteArray)) ++ ((⟨#[97, 98, 99]⟩ : ByteArray).extract 0 ((((Int.tdiv a1 8) % 256) % 4) : Int).toNat)).size := by rw [ByteArray.size_append, hsz]; omega
    refine ⟨((s ++ (⟨#[13, 10]⟩ : ByteArray)) ++ ((⟨#[97, 98, 99]⟩ : ByteArray).extract 0 ((((Int.tdiv a1 8) % 256) % 4) : Int).toNat)).data.toList, by rw [len_data]; omega, by rw [len_data]; omega, Ev.step (f := fun _ => some _) (fun k => ?_) (Ev.now _)⟩
    simp only [wicketmanlaw09_Raw.l0]
    rw [← btsOf_nums]
    by_cases h8 : (i : Int) < (c.length : Int)
    · rw [if_pos h8, if_neg (by omega), if_pos (by omega), if_pos hp, if_pos (by omega), if_pos (by omega), if_pos (by rw [hsz]; omega), if_pos (by omega)]
    · rw [if_neg h8, if_pos (by omega), if_pos hp, if_pos (by omega), if_pos (by omega), if_pos (by rw [hsz]; omega), if_pos (by omega)]
  · refine ⟨(s ++ (⟨#[13, 10]⟩ : ByteArray)).data.toList, by rw [len_data]; omega, by rw [len_data]; omega, Ev.step (f := fun _ => some _) (fun k => ?_) (Ev.now _)⟩
    simp only [wicketmanlaw09_Raw.l0]
    rw [← btsOf_nums]
    by_cases h8 : (i : Int) < (c.length : Int)
    · rw [if_pos h8, if_neg (by omega), if_pos (by omega), if_neg hp, if_pos (by omega)]
    · rw [if_neg h8, if_pos (by omega), if_neg hp, if_pos (by omega)]
theorem raw_loop (c : List Int) (hb : ∀ x ∈ c, 0 ≤ x ∧ x ≤ 255) (a1 : Int) (h0 : 0 ≤ a1) (h1 : a1 ≤ 255) (hc : c.length ≤ 9223372036854775806) : ∀ d i (s : ByteArray), 8 - i = d → i ≤ 8 → i ≤ c.length → s.size ≤ 60 + 28 * i →
    ∃ t : List UInt8, 2 ≤ t.length ∧ t.length ≤ 410 ∧ Ev (fun k => wicketmanlaw09_Raw.l0 k c a1 fieldLs s (i : Int)) (numsL t) := by
  intro d
  induction d with
  | zero =>
    intro i s hd hi hic hs
    exact raw_end c a1 h0 h1 fieldLs s i (by omega) (.inr (by omega)) hc
  | succ d ih =>
    intro i s hd hi hic hs
    by_cases hlt : i < c.length
    · have hx := hb _ (getD_mem c 0 hlt)
      have hrd : rd c (i : Int) = c.getD i 0 := rd_at c i
      have hw : wrap64 (rd c (i : Int)) = c.getD i 0 := by rw [hrd, wrap_id (by omega) (by omega)]
      have hmod : Int.tmod (c.getD i 0) 12 = (c.getD i 0) % 12 := tmod_pos _ (by omega) 12
      have hL : (fieldLs.length : Int) = 12 := rfl
      have hr := rdOf_small (l := fieldLs) (N := 26) (by decide) ((c.getD i 0) % 12)
      obtain ⟨t, ht1, ht2, ht⟩ := ih (i + 1) ((s ++ rdOf ByteArray.empty fieldLs ((c.getD i 0) % 12)) ++ (⟨#[13, 10]⟩ : ByteArray)) (by omega) (by omega) (by omega) (by
        rw [ByteArray.size_append, ByteArray.size_append]; show _ + _ + 2 ≤ _; omega)
      refine ⟨t, ht1, ht2, Ev.step (fun k => ?_) ht⟩
      simp only [wicketmanlaw09_Raw.l0, hL, hw, hmod]
      rw [if_pos (by omega), if_pos (by omega), if_pos (by omega), if_neg (by decide), if_pos (by omega), if_pos (by omega), if_pos (by omega), if_pos (by rw [ByteArray.size_append]; omega), wrap_id (by omega) (by omega)]
      rfl
    · exact raw_end c a1 h0 h1 fieldLs s i (by omega) (.inl (by omega)) hc
theorem raw_ev (c : List Int) (hb : ∀ x ∈ c, 0 ≤ x ∧ x ≤ 255) (a1 : Int) (h0 : 0 ≤ a1) (h1 : a1 ≤ 255) (hc : c.length ≤ 9223372036854775806) : ∃ t : List UInt8, 2 ≤ t.length ∧ t.length ≤ 410 ∧ Ev (fun k => wicketmanlaw09_Raw.f k c a1) (numsL t) := by
  have hm8 : Int.tmod a1 8 = a1 % 8 := tmod_pos _ h0 8
  have hm2 : Int.tmod a1 2 = a1 % 2 := tmod_pos _ h0 2
  have r8 := rdOf_small (l := firstLs) (N := 20) (by decide) (a1 % 8)
  have r2 := rdOf_small (l := firstLs) (N := 20) (by decide) (a1 % 2)
  have hL : (firstLs.length : Int) = 8 := rfl
  by_cases hk : a1 ≥ 128
  · obtain ⟨t, ht1, ht2, ht⟩ := raw_loop c hb a1 h0 h1 hc _ 0 ((rdOf ByteArray.empty firstLs (a1 % 2) ++ (⟨#[13, 10]⟩ : ByteArray)) ++ (⟨#[72, 111, 115, 116, 58, 32, 97, 13, 10]⟩ : ByteArray)) rfl (by omega) (by omega) (by
      rw [ByteArray.size_append, ByteArray.size_append]; show _ + 2 + 9 ≤ _; omega)
    refine ⟨t, ht1, ht2, Ev.congr (f := fun k => wicketmanlaw09_Raw.j0 k c a1 fieldLs ((rdOf ByteArray.empty firstLs (a1 % 2) ++ (⟨#[13, 10]⟩ : ByteArray)) ++ (⟨#[72, 111, 115, 116, 58, 32, 97, 13, 10]⟩ : ByteArray))) (fun k => ?_) (Ev.step (fun k => ?_) ht)⟩
    · unfold wicketmanlaw09_Raw.f
      rw [hm8, hm2]
      show (if 0 ≤ a1 % 8 then if a1 % 8 < (firstLs.length : Int) then _ else _ else _) = _
      rw [hL, if_pos (by omega), if_pos (by omega)]
      show (if (rdOf ByteArray.empty firstLs (a1 % 8)).size + 2 ≤ 9223372036854775807 then _ else _) = _
      rw [if_pos (by omega), if_pos hk, if_pos (by omega)]
      show (if a1 % 2 < (firstLs.length : Int) then _ else _) = _
      rw [hL, if_pos (by omega)]
      show (if (rdOf ByteArray.empty firstLs (a1 % 2)).size + 2 ≤ 9223372036854775807 then _ else _) = _
      rw [if_pos (by omega)]
      show (if ((rdOf ByteArray.empty firstLs (a1 % 2)) ++ (⟨#[13, 10]⟩ : ByteArray)).size + 9 ≤ 9223372036854775807 then _ else _) = _
      rw [if_pos (by rw [ByteArray.size_append]; show _ + 2 + 9 ≤ _; omega)]
      rfl
    · simp only [wicketmanlaw09_Raw.j0]; rfl
  · obtain ⟨t, ht1, ht2, ht⟩ := raw_loop c hb a1 h0 h1 hc _ 0 (rdOf ByteArray.empty firstLs (a1 % 8) ++ (⟨#[13, 10]⟩ : ByteArray)) rfl (by omega) (by omega) (by
      rw [ByteArray.size_append]; show _ + 2 ≤ _; omega)
    refine ⟨t, ht1, ht2, Ev.congr (f := fun k => wicketmanlaw09_Raw.j0 k c a1 fieldLs (rdOf ByteArray.empty firstLs (a1 % 8) ++ (⟨#[13, 10]⟩ : ByteArray))) (fun k => ?_) (Ev.step (fun k => ?_) ht)⟩
    · unfold wicketmanlaw09_Raw.f
      rw [hm8]
      show (if 0 ≤ a1 % 8 then if a1 % 8 < (firstLs.length : Int) then _ else _ else _) = _
      rw [hL, if_pos (by omega), if_pos (by omega)]
      show (if (rdOf ByteArray.empty firstLs (a1 % 8)).size + 2 ≤ 9223372036854775807 then _ else _) = _
      rw [if_pos (by omega), if_neg hk]
      rfl
    · simp only [wicketmanlaw09_Raw.j0]; rfl
theorem known09_true : wicketmanlaw09_known.f = some true := by decide +kernel
end Go.Proofs.YtpfbemcoblganaaGreatDoor.Pl

/-
  The reference's responses: Reason, Print.
-/
import Derived.Test.YtpfbemcoblganaaDoorQpPl10p
import Derived.Test.YtpfbemcoblganaaDoorQpPl08v
import Derived.Test.YtpfbemcoblganaaDoorQpPall28
import Derived.Test.YtpfbemcoblganaaDoorQpPall29
namespace Go.Proofs.YtpfbemcoblganaaDoor.Pl
open Go.RowKit Go.Proofs.YtpfbemcoblganaaDoor.Pall Go.Proofs.YtpfbemcoblganaaDoorW.PrintWords
set_option linter.unusedVariables false
set_option linter.unusedSimpArgs false
theorem rd_map1 (L : List (Int × ByteArray)) (i : Nat) (h : i < L.length) : rd (L.map (·.1)) (i : Int) = (L[i]).1 := by
  unfold rd; rw [Int.toNat_natCast, List.getD, List.getElem?_map, List.getElem?_eq_getElem h]; rfl
theorem rd_map2 (L : List (Int × ByteArray)) (i : Nat) (h : i < L.length) : rdOf ByteArray.empty (L.map (·.2)) (i : Int) = (L[i]).2 := by
  unfold rdOf; rw [Int.toNat_natCast, List.getD, List.getElem?_map, List.getElem?_eq_getElem h]; rfl
theorem refReason_loop (L : List (Int × ByteArray)) (n : Int) (hL : L.length ≤ 1000) : ∀ d i, L.length - i = d → i ≤ L.length → Ev (fun k => wicketmanref10_Reason.l0 k n (L.map (·.2)) (L.map (·.1)) (i : Int)) ((atI (L.drop i) n).getD ByteArray.empty) := by
  intro d
  induction d with
  | zero =>
    intro i hd hi
    obtain rfl : i = L.length := by omega
    refine Ev.step (f := fun _ => some ByteArray.empty) (fun k => ?_) ?_
    · simp only [wicketmanref10_Reason.l0]; rw [List.length_map, if_neg (by omega)]; rfl
    · rw [List.drop_length]; exact Ev.now _
  | succ d ih =>
    intro i hd hi
    have hlt : i < L.length := by omega
    rw [List.drop_eq_getElem_cons hlt]
    by_cases h : (L[i]).1 = n
    · refine Ev.step (f := fun _ => some (L[i]).2) (fun k => ?_) ?_
      · simp only [wicketmanref10_Reason.l0]
        rw [List.length_map, List.length_map, if_pos (by omega), if_pos (by omega), rd_map1 L i hlt, if_pos h, if_pos (by omega), rd_map2 L i hlt]
      · have e : atI (L[i] :: L.drop (i + 1)) n = some (L[i]).2 := by unfold atI; rw [List.find?_cons, beq_iff_eq.2 h]; rfl
        rw [e]; exact Ev.now _
    · refine Ev.step (f := fun k => wicketmanref10_Reason.l0 k n (L.map (·.2)) (L.map (·.1)) ((i + 1 : Nat) : Int)) (fun k => ?_) ?_
      · simp only [wicketmanref10_Reason.l0]
        rw [List.length_map, if_pos (by omega), if_pos (by omega), rd_map1 L i hlt, if_neg h, wrap_id (by omega) (by omega)]; rfl
      · have e : atI (L[i] :: L.drop (i + 1)) n = atI (L.drop (i + 1)) n := by unfold atI; rw [List.find?_cons, beq_eq_false_iff_ne.2 h]
        rw [e]; exact ih (i + 1) (by omega) (by omega)
theorem refReason (n : Int) : Ev (fun k => wicketmanref10_Reason.f k n) (reasonS n) := by
  have h := refReason_loop reasonsL n (by decide) _ 0 rfl (Nat.zero_le _)
  rw [List.drop_zero] at h
  exact Ev.congr (fun k => rfl) h
theorem fs_getD_mem {α : Type} (l : List α) (d : α) {i : Nat} (h : i < l.length) : l.getD i d ∈ l := getD_memP l d h
theorem refPr_loop (st : Int) (fs : List S43) (bs : List UInt8) (hr : reasonS st ≠ ⟨#[]⟩) (hs : ∀ p ∈ fs, p.f0.size ≤ 140737488351232 ∧ p.f1.size ≤ 140737488351232) (hf : fs.length ≤ 40) (hb : bs.length ≤ 4000) :
    ∀ d i, fs.length - i = d → i ≤ fs.length → fsErr (fs.take i) = 0 → Ev (fun k => wicketmanref10_Print.l0 k (mkB (hdT st ++ fsTxt (fs.take i))) (i : Int) st fs (numsL bs)) (if fsErr fs ≠ 0 then ([], fsErr fs) else (numsL (hdT st ++ fsTxt fs ++ lenT bs.length) ++ numsL bs, 0)) := by
  have hhl := hdT_len st hr
  intro d
  induction d with
  | zero =>
    intro i hd hi he
    obtain rfl : i = fs.length := by omega
    rw [List.take_length] at he ⊢
    have hfl := fsTxt_len fs
    have hz : (mkB (hdT st ++ fsTxt fs)).size ≤ 90000 := by rw [mkB_size, List.length_append]; omega
    have zj : (⟨(Lib.itoa (bs.length : Int)).toArray⟩ : ByteArray).size ≤ 21 := itoa_len (bs.length : Int) (by omega) (by omega)
    rw [if_neg (by rw [he]; simp)]
    refine Ev.step (f := fun _ => some (numsL (hdT st ++ fsTxt fs ++ lenT bs.length) ++ numsL bs, 0)) (fun k => ?_) (Ev.now _)
    simp only [wicketmanref10_Print.l0]
    have hit : strconv_Itoa.f (bs.length : Int) = some ⟨(Lib.itoa (bs.length : Int)).toArray⟩ := by unfold strconv_Itoa.f; rw [if_pos ⟨by omega, by omega⟩]
    rw [if_neg (by omega), if_pos (by omega), numsL_len, hit, Option.bind_some, numsL_str]
    generalize hj : (⟨(Lib.itoa (bs.length : Int)).toArray⟩ : ByteArray) = jt at *
    have s1 : (mkB (hdT st ++ fsTxt fs) ++ (⟨#[67, 111, 110, 116, 101, 110, 116, 45, 76, 101, 110, 103, 116, 104, 58, 32]⟩ : ByteArray)).size = (mkB (hdT st ++ fsTxt fs)).size + 16 := by rw [ByteArray.size_append]; rfl
    have s2 : (mkB (hdT st ++ fsTxt fs) ++ (⟨#[67, 111, 110, 116, 101, 110, 116, 45, 76, 101, 110, 103, 116, 104, 58, 32]⟩ : ByteArray) ++ jt).size = (mkB (hdT st ++ fsTxt fs)).size + 16 + jt.size := by rw [ByteArray.size_append, s1]
    have s3 : (mkB (hdT st ++ fsTxt fs) ++ (⟨#[67, 111, 110, 116, 101, 110, 116, 45, 76, 101, 110, 103, 116, 104, 58, 32]⟩ : ByteArray) ++ jt ++ (⟨#[13, 10, 13, 10]⟩ : ByteArray)).size = (mkB (hdT st ++ fsTxt fs)).size + 16 + jt.size + 4 := by rw [ByteArray.size_append, s2]; rfl
    have s4 : (mkB bs).size = bs.length := mkB_size bs
    have s5 : (mkB (hdT st ++ fsTxt fs) ++ (⟨#[67, 111, 110, 116, 101, 110, 116, 45, 76, 101, 110, 103, 116, 104, 58, 32]⟩ : ByteArray) ++ jt ++ (⟨#[13, 10, 13, 10]⟩ : ByteArray) ++ mkB bs).size = (mkB (hdT st ++ fsTxt fs)).size + 16 + jt.size + 4 + bs.length := by rw [ByteArray.size_append, s3, s4]
    rw [if_pos (by omega), if_pos (by omega), if_pos (by omega), if_pos (by omega)]
    have e : mkB (hdT st ++ fsTxt fs) ++ (⟨#[67, 111, 110, 116, 101, 110, 116, 45, 76, 101, 110, 103, 116, 104, 58, 32]⟩ : ByteArray) ++ jt ++ (⟨#[13, 10, 13, 10]⟩ : ByteArray) ++ mkB bs = mkB (hdT st ++ fsTxt fs ++ lenT bs.length ++ bs) := by
      rw [← hj]
      exact Pall.ba_ext (by simp [mkB, lenT])
    rw [e]
    exact congrArg (fun l => some (l, (0 : Int))) (List.map_append (f := fun c : UInt8 => (c.toNat : Int)) (l₁ := hdT st ++ fsTxt fs ++ lenT bs.length) (l₂ := bs))
  | succ d ih =>
    intro i hd hi he
    have hlt : i < fs.length := by omega
    have hm := hs _ (fs_getD_mem fs z43 hlt)
    have ha := fsErr_at fs i he hlt
    have htx : fsTxt (fs.take (i + 1)) = fsTxt (fs.take i) ++ ((printS (fs.getD i z43).f0 (fs.getD i z43).f1).1.data.toList ++ [13, 10]) := by rw [take_next fs i hlt, fsTxt_app]
    have hfl := fsTxt_len (fs.take i)
    rw [List.length_take] at hfl
    have hpl := printS_len (fs.getD i z43).f0 (fs.getD i z43).f1
    have hz : (mkB (hdT st ++ fsTxt (fs.take i))).size ≤ 90000 := by rw [mkB_size, List.length_append]; omega
    have hrp := refPrint (fs.getD i z43).f0 (fs.getD i z43).f1 hm.1 hm.2
    refine Ev.step (f := fun k => (wicketmanref08_Print.f k (fs.getD i z43).f0 (fs.getD i z43).f1).bind fun bt => if bt.2 = 0 then (if (mkB (hdT st ++ fsTxt (fs.take i))).size + bt.1.size ≤ 9223372036854775807 then (if (mkB (hdT st ++ fsTxt (fs.take i)) ++ bt.1).size + 2 ≤ 9223372036854775807 then wicketmanref10_Print.l0 k ((mkB (hdT st ++ fsTxt (fs.take i)) ++ bt.1) ++ (⟨#[13, 10]⟩ : ByteArray)) ((i + 1 : Nat) : Int) st fs (numsL bs) else none) else none) else some (([] : List Int), bt.2)) (fun k => ?_) ?_
    · simp only [wicketmanref10_Print.l0]
      rw [if_pos (by omega), if_pos (by omega), rdPr, wrap_id (by omega) (by omega)]; rfl
    · refine Ev.bind hrp ?_
      generalize hps : printS (fs.getD i z43).f0 (fs.getD i z43).f1 = ps at *
      by_cases h0 : ps.2 = 0
      · have h1 : ps.1.size ≤ 2000 := hpl
        rw [ByteArray.size_append]
        simp only [if_pos h0, if_pos (show (mkB (hdT st ++ fsTxt (fs.take i))).size + ps.1.size ≤ 9223372036854775807 by omega), if_pos (show (mkB (hdT st ++ fsTxt (fs.take i))).size + ps.1.size + 2 ≤ 9223372036854775807 by omega)]
        have e : (mkB (hdT st ++ fsTxt (fs.take i)) ++ ps.1) ++ (⟨#[13, 10]⟩ : ByteArray) = mkB (hdT st ++ fsTxt (fs.take (i + 1))) := by
          rw [htx]; exact Pall.ba_ext (by simp [mkB])
        rw [e]
        exact ih (i + 1) (by omega) (by omega) (by rw [ha.1, h0])
      · simp only [if_neg h0]
        rw [ha.2 h0, if_pos h0]
        exact Ev.now _
theorem refPr (st : Int) (fs : List S43) (bs : List UInt8) (hs : ∀ p ∈ fs, p.f0.size ≤ 140737488351232 ∧ p.f1.size ≤ 140737488351232) : Ev (fun k => wicketmanref10_Print.f k st fs (numsL bs)) (prS st fs (numsL bs)) := by
  refine Ev.bind (refReason st) ?_
  by_cases h : reasonS st = ⟨#[]⟩
  · have hp : prS st fs (numsL bs) = ([], 1) := by unfold prS; rw [if_pos h]
    rw [hp, h]
    refine Ev.congr (f := fun _ => some (([] : List Int), (1 : Int))) (fun k => ?_) (Ev.now _)
    rw [ByteArray.toList_eq]; rfl
  · have hz : ¬ (reasonS st).toList = [] := by
      rw [ByteArray.toList_eq]; intro hd; exact h (ba_ext hd)
    have long : Ev (fun k => wicketmanref10_Print.j0 k true st fs (numsL bs)) ([], 3) := by
      refine Ev.step (f := fun _ => some (([] : List Int), (3 : Int))) (fun k => ?_) (Ev.now _)
      simp only [wicketmanref10_Print.j0, if_true]
    by_cases h4 : ((numsL bs).length : Int) > 4000
    · rw [prS_long h (.inl (by omega))]
      exact Ev.congr (fun k => by rw [if_neg hz, if_pos h4]) long
    · by_cases h40 : (fs.length : Int) > 40
      · rw [prS_long h (.inr (by omega))]
        exact Ev.congr (fun k => by rw [if_neg hz, if_neg h4, decide_eq_true h40]) long
      · have hst := reason_st h
        have hrl := reason_len st
        have zi : (⟨(Lib.itoa st).toArray⟩ : ByteArray).size ≤ 21 := itoa_len st (by omega) (by omega)
        have hit : strconv_Itoa.f st = some ⟨(Lib.itoa st).toArray⟩ := by unfold strconv_Itoa.f; rw [if_pos ⟨by omega, by omega⟩]
        rw [numsL_len] at h4
        have hl := refPr_loop st fs bs h hs (by omega) (by omega) _ 0 rfl (Nat.zero_le _) rfl
        have hps : prS st fs (numsL bs) = if fsErr fs ≠ 0 then ([], fsErr fs) else (numsL (hdT st ++ fsTxt fs ++ lenT bs.length) ++ numsL bs, 0) := by
          unfold prS; rw [if_neg h, if_neg (by rw [numsL_len]; omega), numsL_len]
        rw [hps]
        refine Ev.congr (f := fun k => wicketmanref10_Print.j0 k false st fs (numsL bs)) (fun k => by rw [if_neg hz, if_neg (by rw [numsL_len]; exact h4), decide_eq_false h40]) ?_
        generalize hi : (⟨(Lib.itoa st).toArray⟩ : ByteArray) = it at *
        have s1 : ((⟨#[72, 84, 84, 80, 47, 49, 46, 49, 32]⟩ : ByteArray) ++ it).size = 9 + it.size := by rw [ByteArray.size_append]; rfl
        have s2 : ((⟨#[72, 84, 84, 80, 47, 49, 46, 49, 32]⟩ : ByteArray) ++ it ++ (⟨#[32]⟩ : ByteArray)).size = 9 + it.size + 1 := by rw [ByteArray.size_append, s1]; rfl
        have s3 : ((⟨#[72, 84, 84, 80, 47, 49, 46, 49, 32]⟩ : ByteArray) ++ it ++ (⟨#[32]⟩ : ByteArray) ++ reasonS st).size = 9 + it.size + 1 + (reasonS st).size := by rw [ByteArray.size_append, s2]
        refine Ev.step (f := fun k => (wicketmanref10_Reason.f k st).bind fun t => if ((⟨#[72, 84, 84, 80, 47, 49, 46, 49, 32]⟩ : ByteArray) ++ it ++ (⟨#[32]⟩ : ByteArray)).size + t.size ≤ 9223372036854775807 then (if ((⟨#[72, 84, 84, 80, 47, 49, 46, 49, 32]⟩ : ByteArray) ++ it ++ (⟨#[32]⟩ : ByteArray) ++ t).size + 2 ≤ 9223372036854775807 then wicketmanref10_Print.l0 k ((⟨#[72, 84, 84, 80, 47, 49, 46, 49, 32]⟩ : ByteArray) ++ it ++ (⟨#[32]⟩ : ByteArray) ++ t ++ (⟨#[13, 10]⟩ : ByteArray)) 0 st fs (numsL bs) else none) else none) (fun k => ?_) ?_
        · simp only [wicketmanref10_Print.j0, Bool.false_eq_true, if_false]
          rw [hit, Option.bind_some, if_pos (by omega), if_pos (by omega)]
        · refine Ev.bind (refReason st) ?_
          simp only [if_pos (show ((⟨#[72, 84, 84, 80, 47, 49, 46, 49, 32]⟩ : ByteArray) ++ it ++ (⟨#[32]⟩ : ByteArray)).size + (reasonS st).size ≤ 9223372036854775807 by omega), if_pos (show ((⟨#[72, 84, 84, 80, 47, 49, 46, 49, 32]⟩ : ByteArray) ++ it ++ (⟨#[32]⟩ : ByteArray) ++ reasonS st).size + 2 ≤ 9223372036854775807 by omega)]
          have e : (⟨#[72, 84, 84, 80, 47, 49, 46, 49, 32]⟩ : ByteArray) ++ it ++ (⟨#[32]⟩ : ByteArray) ++ reasonS st ++ (⟨#[13, 10]⟩ : ByteArray) = mkB (hdT st ++ fsTxt (fs.take 0)) := by
            rw [← hi]; exact Pall.ba_ext (by simp [mkB, hdT, fsTxt])
          rw [e]; exact hl
end Go.Proofs.YtpfbemcoblganaaDoor.Pl

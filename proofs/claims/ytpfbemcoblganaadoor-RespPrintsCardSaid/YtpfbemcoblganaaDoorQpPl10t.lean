/-
  resp.Same and the reference's Same: they say the same of any two.
-/
import Derived.Test.YtpfbemcoblganaaDoorQpPl10s
import Derived.Test.YtpfbemcoblganaaDoorQpPall33
import Derived.Test.YtpfbemcoblganaaDoorQpPall28
namespace Go.Proofs.YtpfbemcoblganaaDoor.Pl
open Go.RowKit Go.Proofs.YtpfbemcoblganaaDoor.Pall Go.Proofs.YtpfbemcoblganaaDoorW.PrintWords
set_option linter.unusedVariables false
set_option linter.unusedSimpArgs false
theorem pairs_both (a b : List S43) (hl : a.length = b.length) (hb : a.length ≤ 9223372036854775806) : ∀ d i, a.length - i = d → i ≤ a.length → ∃ v, Ev (fun k => api_Pair.l0 k a b (a.length : Int) (i : Int)) v ∧ Ev (fun k => wicketmanref07_Same.l0 k a b (i : Int)) v := by
  intro d
  induction d with
  | zero =>
    intro i hd hi
    refine ⟨true, Ev.step (f := fun _ => some true) (fun k => ?_) (Ev.now _), Ev.step (f := fun _ => some true) (fun k => ?_) (Ev.now _)⟩
    · simp only [api_Pair.l0]; rw [if_neg (by omega)]
    · simp only [wicketmanref07_Same.l0]; rw [if_neg (by omega)]
  | succ d ih =>
    intro i hd hi
    have h1 : (i : Int) < (a.length : Int) := by omega
    have h2 : (i : Int) < (b.length : Int) := by omega
    by_cases hc : (!((((rd_T43 a (i : Int)).f0).toList) == (((rd_T43 b (i : Int)).f0).toList)) || (!((((rd_T43 a (i : Int)).f1).toList) == (((rd_T43 b (i : Int)).f1).toList)))) = true
    · refine ⟨false, Ev.step (f := fun _ => some false) (fun k => ?_) (Ev.now _), Ev.step (f := fun _ => some false) (fun k => ?_) (Ev.now _)⟩
      · simp only [api_Pair.l0]; rw [if_pos h1, if_pos (by omega), if_pos h1, if_pos h2, if_pos hc]
      · simp only [wicketmanref07_Same.l0]; rw [if_pos h1, if_pos (by omega), if_pos h2, if_pos hc]
    · obtain ⟨v, e1, e2⟩ := ih (i + 1) (by omega) (by omega)
      refine ⟨v, Ev.step (fun k => ?_) e1, Ev.step (fun k => ?_) e2⟩
      · simp only [api_Pair.l0]; rw [if_pos h1, if_pos (by omega), if_pos h1, if_pos h2, if_neg hc, wrap_id (by omega) (by omega)]; rfl
      · simp only [wicketmanref07_Same.l0]; rw [if_pos h1, if_pos (by omega), if_pos h2, if_neg hc, wrap_id (by omega) (by omega)]; rfl
theorem same_both (a0 : Int) (l0 : List S43) (b0 : List Int) (a1 : Int) (l1 : List S43) (b1 : List Int) (hb : l0.length ≤ 9223372036854775806) : ∃ v, Ev (fun k => resp_Same.f k a0 l0 b0 a1 l1 b1) v ∧ Ev (fun k => wicketmanref10_Same.f k a0 l0 b0 a1 l1 b1) v := by
  by_cases h0 : a0 = a1
  · have hf : ∃ v, Ev (fun k => api_Pair.f k l0 l1) v ∧ Ev (fun k => wicketmanref07_Same.f k l0 l1) v := by
      by_cases hl : l0.length = l1.length
      · obtain ⟨v, e1, e2⟩ := pairs_both l0 l1 hl hb _ 0 rfl (Nat.zero_le _)
        exact ⟨v, Ev.congr (fun k => by unfold api_Pair.f; rw [if_pos (by omega)]; rfl) e1, Ev.congr (fun k => by unfold wicketmanref07_Same.f; rw [if_pos (by omega)]; rfl) e2⟩
      · exact ⟨false, Ev.congr (f := fun _ => some false) (fun k => by unfold api_Pair.f; rw [if_neg (by omega)]) (Ev.now _), Ev.congr (f := fun _ => some false) (fun k => by unfold wicketmanref07_Same.f; rw [if_neg (by omega)]) (Ev.now _)⟩
    obtain ⟨v, e1, e2⟩ := hf
    refine ⟨if v = true then ((strOfNums b0).toList == (strOfNums b1).toList) else false, ?_, ?_⟩
    · refine Ev.congr (f := fun k => (api_Pair.f k l0 l1).bind fun t => if t = true then ((bytes_Equal.f b0 b1).bind fun t => some t) else some false) (fun k => by unfold resp_Same.f; rw [if_pos h0]) (Ev.bind e1 ?_)
      cases v with
      | true => exact Ev.now _
      | false => exact Ev.now _
    · refine Ev.congr (f := fun k => (wicketmanref07_Same.f k l0 l1).bind fun t => if t = true then some ((strOfNums b0).toList == (strOfNums b1).toList) else some false) (fun k => by unfold wicketmanref10_Same.f; rw [if_pos h0]) (Ev.bind e2 ?_)
      cases v with
      | true => exact Ev.now _
      | false => exact Ev.now _
  · exact ⟨false, Ev.congr (f := fun _ => some false) (fun k => by unfold resp_Same.f; rw [if_neg h0]) (Ev.now _), Ev.congr (f := fun _ => some false) (fun k => by unfold wicketmanref10_Same.f; rw [if_neg h0]) (Ev.now _)⟩
theorem ev_one {α : Type} {f : Nat → Option α} {v v' : α} (h : Ev f v) (h' : Ev f v') : v = v' := by
  obtain ⟨k, hk⟩ := h
  obtain ⟨k', hk'⟩ := h'
  exact Option.some.inj ((hk (max k k') (Nat.le_max_left _ _)).symm.trans (hk' (max k k') (Nat.le_max_right _ _)))
theorem same_self (a0 : Int) (l0 : List S43) (b0 : List Int) (hb : l0.length ≤ 9223372036854775806) : Ev (fun k => resp_Same.f k a0 l0 b0 a0 l0 b0) true := by
  obtain ⟨v, e1, e2⟩ := same_both a0 l0 b0 a0 l0 b0 hb
  rw [ev_one e2 (same10_true a0 l0 b0 hb)] at e1
  exact e1
theorem heavy_loop (a : Int) (l : List S43) (b : List Int) (hb : l.length ≤ 9223372036854775806) : ∀ d i (n : Int), l.length - i = d → i ≤ l.length → ∃ v, Ev (fun k => wicketmanlaw10_heavy.l0 k n (i : Int) a l b) v := by
  intro d
  induction d with
  | zero =>
    intro i n hd hi
    refine ⟨decide (n > 400), Ev.step (f := fun _ => some (decide (n > 400))) (fun k => ?_) (Ev.now _)⟩
    simp only [wicketmanlaw10_heavy.l0]; rw [if_neg (by omega)]
  | succ d ih =>
    intro i n hd hi
    obtain ⟨v, e⟩ := ih (i + 1) (wrap64 (n + (wrap64 ((wrap64 (1 + (((rd_T43 l (i : Int)).f0).size : Int))) + (((rd_T43 l (i : Int)).f1).size : Int))))) (by omega) (by omega)
    refine ⟨v, Ev.step (fun k => ?_) e⟩
    simp only [wicketmanlaw10_heavy.l0]
    rw [if_pos (by omega), if_pos (by omega), wrap_id (n := (i : Int) + 1) (by omega) (by omega)]; rfl
theorem heavy_ends (a : Int) (l : List S43) (b : List Int) (hb : l.length ≤ 9223372036854775806) : ∃ v, Ev (fun k => wicketmanlaw10_heavy.f k a l b) v := by
  obtain ⟨v, e⟩ := heavy_loop a l b hb _ 0 (b.length : Int) rfl (Nat.zero_le _)
  exact ⟨v, Ev.congr (fun k => rfl) e⟩
end Go.Proofs.YtpfbemcoblganaaDoor.Pl

/-
  HttpPrints: the reference's Print is http.Print; Same and Same say the same of any two; what is no heavy request is small.
-/
import Derived.Test.YtpfbemcoblganaaGreatDoorQzPl09p
import Derived.Test.YtpfbemcoblganaaGreatDoorQzHq
import Derived.Test.YtpfbemcoblganaaGreatDoorQzPall11
import Derived.Test.YtpfbemcoblganaaGreatDoorQzPall10
import Derived.Test.YtpfbemcoblganaaGreatDoorQzPall2
import Derived.Test.YtpfbemcoblganaaGreatDoorQzPall9
import Derived.Test.YtpfbemcoblganaaGreatDoorQzPall8
import Derived.Test.YtpfbemcoblganaaGreatDoorQzPall3
namespace Go.Proofs.YtpfbemcoblganaaGreatDoor.Pl
open Go.RowKit Go.Proofs.YtpfbemcoblganaaGreatDoor.Pall Go.Proofs.YtpfbemcoblganaaGreatDoorW.PrintWords Go.Proofs.YtpfbemcoblganaaGreatDoorW.PrintLast
set_option linter.unusedVariables false
set_option linter.unusedSimpArgs false
theorem pairs_both (a b : List S34) (hl : a.length = b.length) (hb : a.length ≤ 9223372036854775806) : ∀ d i, a.length - i = d → i ≤ a.length → ∃ v, Ev (fun k => api_Pair.l0 k a b (a.length : Int) (i : Int)) v ∧ Ev (fun k => wicketmanref07_Same.l0 k a b (i : Int)) v := by
  intro d
  induction d with
  | zero =>
    intro i hd hi
    refine ⟨true, Ev.step (f := fun _ => some true) (fun k => ?_) (Ev.now _), Ev.step (f := fun _ => some true) (fun k => ?_) (Ev.now _)⟩
    · simp only [api_Pair.l0]; rw [if_neg (by omega)]
    · simp only [wicketmanref07_Same.l0]; rw [if_neg (by omega)]
  | succ d ih =>
    intro i hd hi
    have h1 : (i : Int) < (a.length : Int) := by omega
    have h2 : (i : Int) < (b.length : Int) := by omega
    by_cases hc : (!((((rd_T34 a (i : Int)).f0).toList) == (((rd_T34 b (i : Int)).f0).toList)) || (!((((rd_T34 a (i : Int)).f1).toList) == (((rd_T34 b (i : Int)).f1).toList)))) = true
    · refine ⟨false, Ev.step (f := fun _ => some false) (fun k => ?_) (Ev.now _), Ev.step (f := fun _ => some false) (fun k => ?_) (Ev.now _)⟩
      · simp only [api_Pair.l0]; rw [if_pos h1, if_pos (by omega), if_pos h1, if_pos h2, if_pos hc]
      · simp only [wicketmanref07_Same.l0]; rw [if_pos h1, if_pos (by omega), if_pos h2, if_pos hc]
    · obtain ⟨v, e1, e2⟩ := ih (i + 1) (by omega) (by omega)
      refine ⟨v, Ev.step (fun k => ?_) e1, Ev.step (fun k => ?_) e2⟩
      · simp only [api_Pair.l0]; rw [if_pos h1, if_pos (by omega), if_pos h1, if_pos h2, if_neg hc, wrap_id (by omega) (by omega)]; rfl
      · simp only [wicketmanref07_Same.l0]; rw [if_pos h1, if_pos (by omega), if_pos h2, if_neg hc, wrap_id (by omega) (by omega)]; rfl
theorem ev_one {α : Type} {f : Nat → Option α} {v v' : α} (h : Ev f v) (h' : Ev f v') : v = v' := by
  obtain ⟨k, hk⟩ := h
  obtain ⟨k', hk'⟩ := h'
  exact Option.some.inj ((hk (max k k') (Nat.le_max_left _ _)).symm.trans (hk' (max k k') (Nat.le_max_right _ _)))
theorem fld_sizes (l : ByteArray) (h : (fieldS l).2.2 = 0) : (fldS l).f0.size ≤ 140737488351232 ∧ (fldS l).f1.size ≤ 140737488351232 := by
  refine ⟨fld_size l h, ?_⟩
  show (fieldS l).2.1.size ≤ _
  unfold fieldS at h ⊢
  split at h
  · exact absurd h (by decide)
  · rename_i hl
    rw [if_neg hl]
    split at h
    · exact absurd h (by decide)
    · rename_i h2
      rw [if_neg h2]
      split at h
      · rename_i h3
        rw [if_pos h3]
        show (mkB _).size ≤ _
        have h4 := trimL_le (l.data.toList.drop (pos l.data.toList 58 + 1))
        rw [List.length_drop, len_data] at h4
        rw [mkB_size]
        omega
      · exact absurd h (by decide)
theorem fldsE_mem : ∀ (ml : List ByteArray), fldsE ml = 0 → ∀ l ∈ ml, (fieldS l).2.2 = 0
  | [], _, l, hl => by cases hl
  | x :: r, hE, l, hl => by
    unfold fldsE at hE
    by_cases hx : (fieldS x).2.2 = 0
    · rw [if_pos hx] at hE
      rcases List.mem_cons.1 hl with rfl | hl
      · exact hx
      · exact fldsE_mem r hE l hl
    · rw [if_neg hx] at hE; exact absurd hE hx
theorem hsame_both (m0 p0 : ByteArray) (l0 : List S34) (b0 : List Int) (m1 p1 : ByteArray) (l1 : List S34) (b1 : List Int) (hb : l0.length ≤ 9223372036854775806) :
    ∃ v, Ev (fun k => http_Same.f k m0 p0 l0 b0 m1 p1 l1 b1) v ∧ Ev (fun k => wicketmanref09_Same.f k m0 p0 l0 b0 m1 p1 l1 b1) v := by
  by_cases h0 : m0.toList = m1.toList
  · by_cases h1 : p0.toList = p1.toList
    · have hf : ∃ v, Ev (fun k => api_Pair.f k l0 l1) v ∧ Ev (fun k => wicketmanref07_Same.f k l0 l1) v := by
        by_cases hl : l0.length = l1.length
        · obtain ⟨v, e1, e2⟩ := pairs_both l0 l1 hl hb _ 0 rfl (Nat.zero_le _)
          exact ⟨v, Ev.congr (fun k => by unfold api_Pair.f; rw [if_pos (by omega)]; rfl) e1, Ev.congr (fun k => by unfold wicketmanref07_Same.f; rw [if_pos (by omega)]; rfl) e2⟩
        · exact ⟨false, Ev.congr (f := fun _ => some false) (fun k => by unfold api_Pair.f; rw [if_neg (by omega)]) (Ev.now _), Ev.congr (f := fun _ => some false) (fun k => by unfold wicketmanref07_Same.f; rw [if_neg (by omega)]) (Ev.now _)⟩
      obtain ⟨v, e1, e2⟩ := hf
      refine ⟨if v = true then ((strOfNums b0).toList == (strOfNums b1).toList) else false, ?_, ?_⟩
      · refine Ev.congr (f := fun k => (api_Pair.f k l0 l1).bind fun t => if t = true then ((bytes_Equal.f b0 b1).bind fun t => some t) else some false) (fun k => by unfold http_Same.f; rw [if_pos h0, if_pos h1]) (Ev.bind e1 ?_)
        cases v with
        | true => exact Ev.now _
        | false => exact Ev.now _
      · refine Ev.congr (f := fun k => (wicketmanref07_Same.f k l0 l1).bind fun t => if t = true then some ((strOfNums b0).toList == (strOfNums b1).toList) else some false) (fun k => by unfold wicketmanref09_Same.f; rw [if_pos h0, if_pos h1]) (Ev.bind e2 ?_)
        cases v with
        | true => exact Ev.now _
        | false => exact Ev.now _
    · exact ⟨false, Ev.congr (f := fun _ => some false) (fun k => by unfold http_Same.f; rw [if_pos h0, if_neg h1]) (Ev.now _), Ev.congr (f := fun _ => some false) (fun k => by unfold wicketmanref09_Same.f; rw [if_pos h0, if_neg h1]) (Ev.now _)⟩
  · exact ⟨false, Ev.congr (f := fun _ => some false) (fun k => by unfold http_Same.f; rw [if_neg h0]) (Ev.now _), Ev.congr (f := fun _ => some false) (fun k => by unfold wicketmanref09_Same.f; rw [if_neg h0]) (Ev.now _)⟩
theorem hsame_self (m p : ByteArray) (fs : List S34) (b : List Int) (hb : fs.length ≤ 9223372036854775806) : Ev (fun k => http_Same.f k m p fs b m p fs b) true := by
  obtain ⟨v, e1, e2⟩ := hsame_both m p fs b m p fs b hb
  rw [ev_one e2 (same09_true m p fs b hb)] at e1
  exact e1
/-- what a request weighs -/
def hvS (l : List S34) : Nat := (l.map fun p => 1 + p.f0.size + p.f1.size).sum
def hvQ (m p : ByteArray) (fs : List S34) (n : Nat) : Nat := m.size + p.size + n + hvS fs
theorem hvS_app (a b : List S34) : hvS (a ++ b) = hvS a + hvS b := by unfold hvS; rw [List.map_append, List.sum_append]
theorem hvS_take (l : List S34) (i : Nat) : hvS (l.take i) ≤ hvS l := by
  have h := hvS_app (l.take i) (l.drop i)
  rw [List.take_append_drop] at h
  omega
theorem hvS_one (p : S34) : hvS [p] = 1 + p.f0.size + p.f1.size := by unfold hvS; simp
theorem hvS_len (l : List S34) : l.length ≤ hvS l := by
  induction l with
  | nil => exact Nat.zero_le _
  | cons p l ih =>
    have h := hvS_app [p] l
    rw [hvS_one] at h
    rw [List.length_cons]
    show _ ≤ hvS ([p] ++ l)
    omega
theorem hvS_mem {l : List S34} {p : S34} (h : p ∈ l) : p.f0.size + p.f1.size ≤ hvS l := by
  obtain ⟨a, b, rfl⟩ := List.append_of_mem h
  have h1 := hvS_app a (p :: b)
  have h2 := hvS_app [p] b
  rw [hvS_one] at h2
  have h3 : hvS (p :: b) = hvS ([p] ++ b) := rfl
  omega
theorem heavy_loop (m p : ByteArray) (fs : List S34) (b : List Int) (hB : hvQ m p fs b.length ≤ 4000000000) : ∀ d i, fs.length - i = d → i ≤ fs.length →
    Ev (fun k => wicketmanlaw09_heavy.l0 k ((m.size + p.size + b.length + hvS (fs.take i) : Nat) : Int) (i : Int) m p fs b) (decide ((hvQ m p fs b.length : Int) > 400)) := by
  have hln := hvS_len fs
  unfold hvQ at hB ⊢
  intro d
  induction d with
  | zero =>
    intro i hd hi
    obtain rfl : i = fs.length := by omega
    refine Ev.step (f := fun _ => some (decide (((m.size + p.size + b.length + hvS fs : Nat) : Int) > 400))) (fun k => ?_) (Ev.now _)
    simp only [wicketmanlaw09_heavy.l0]
    rw [if_neg (by omega), List.take_length]
  | succ d ih =>
    intro i hd hi
    have hlt : i < fs.length := by omega
    have h1 := hvS_app (fs.take i) [fs.getD i z34]
    rw [← take_next fs i hlt, hvS_one] at h1
    have h2 := hvS_take fs (i + 1)
    refine Ev.step (fun k => ?_) (ih (i + 1) (by omega) (by omega))
    simp only [wicketmanlaw09_heavy.l0]
    rw [if_pos (by omega), if_pos (by omega), rdPr, wrap_id (n := 1 + ((fs.getD i z34).f0.size : Int)) (by omega) (by omega), wrap_id (n := 1 + ((fs.getD i z34).f0.size : Int) + ((fs.getD i z34).f1.size : Int)) (by omega) (by omega), wrap_id (by omega) (by omega), wrap_id (by omega) (by omega), h1]
    have e : ((m.size + p.size + b.length + hvS (fs.take i) : Nat) : Int) + (1 + ((fs.getD i z34).f0.size : Int) + ((fs.getD i z34).f1.size : Int)) = ((m.size + p.size + b.length + (hvS (fs.take i) + (1 + (fs.getD i z34).f0.size + (fs.getD i z34).f1.size)) : Nat) : Int) := by omega
    rw [e]; rfl
theorem heavy_ev (m p : ByteArray) (fs : List S34) (b : List Int) (hB : hvQ m p fs b.length ≤ 4000000000) : Ev (fun k => wicketmanlaw09_heavy.f k m p fs b) (decide ((hvQ m p fs b.length : Int) > 400)) := by
  refine Ev.congr (fun k => ?_) (heavy_loop m p fs b hB _ 0 rfl (Nat.zero_le _))
  unfold hvQ at hB
  unfold wicketmanlaw09_heavy.f
  rw [wrap_id (n := (m.size : Int) + (p.size : Int)) (by omega) (by omega), wrap_id (by omega) (by omega)]
  have e : (m.size : Int) + (p.size : Int) + (b.length : Int) = ((m.size + p.size + b.length + hvS (fs.take 0) : Nat) : Int) := by
    have : hvS (fs.take 0) = 0 := rfl
    omega
  rw [e]; rfl
/-- what a request is printed as -/
def ansH (T : List Int) (v : Bool) : List Int × Int := if (parseQ T).2.2.2.2 = 0 then if v = true then (T, 0) else ([], 10) else ([], 10)
theorem ansH_range (T : List Int) (v : Bool) : (ansH T v).2 = 0 ∨ (ansH T v).2 = 10 := by
  unfold ansH; split
  · split
    · exact .inl rfl
    · exact .inr rfl
  · exact .inr rfl
def preL (m p : ByteArray) : List UInt8 := m.data.toList ++ [32] ++ p.data.toList ++ [32, 72, 84, 84, 80, 47, 49, 46, 49, 13, 10]
theorem preL_len (m p : ByteArray) : (preL m p).length = m.size + p.size + 12 := by unfold preL; simp only [List.length_append, List.length_cons, List.length_nil, len_data]; omega
theorem refPr_loop (m p : ByteArray) (fs : List S34) (bs : List UInt8) (hm : m.size ≤ 100000) (hp : p.size ≤ 100000) (hf : fs.length ≤ 500) (hs : ∀ q ∈ fs, q.f0.size ≤ 140737488351232 ∧ q.f1.size ≤ 140737488351232) (hb : bs.length ≤ 100000) (v : Bool)
    (hv : Ev (fun k => wicketmanref09_Same.f k (parseQ (numsL (reqL m p fs ++ bs))).1 (parseQ (numsL (reqL m p fs ++ bs))).2.1 (parseQ (numsL (reqL m p fs ++ bs))).2.2.1 (parseQ (numsL (reqL m p fs ++ bs))).2.2.2.1 m p fs (numsL bs)) v) :
    ∀ d i, fs.length - i = d → i ≤ fs.length → Ev (fun k => wicketmanref09_Print.l0 k (mkB (preL m p ++ fsTxt (fs.take i))) (i : Int) m p fs (numsL bs)) (ansH (numsL (reqL m p fs ++ bs)) v) := by
  have hpl := preL_len m p
  intro d
  induction d with
  | zero =>
    intro i hd hi
    obtain rfl : i = fs.length := by omega
    rw [List.take_length]
    have hfl := fsTxt_len fs
    have hz : (mkB (preL m p ++ fsTxt fs)).size ≤ 1300000 := by rw [mkB_size, List.length_append]; omega
    have s1 : (mkB (preL m p ++ fsTxt fs) ++ (⟨#[13, 10]⟩ : ByteArray)).size = (mkB (preL m p ++ fsTxt fs)).size + 2 := by rw [ByteArray.size_append]; rfl
    have s2 : (mkB (preL m p ++ fsTxt fs) ++ (⟨#[13, 10]⟩ : ByteArray) ++ mkB bs).size = (mkB (preL m p ++ fsTxt fs)).size + 2 + bs.length := by rw [ByteArray.size_append, s1, mkB_size bs]
    have e : mkB (preL m p ++ fsTxt fs) ++ (⟨#[13, 10]⟩ : ByteArray) ++ mkB bs = mkB (reqL m p fs ++ bs) := Pall.ba_ext (by simp [mkB, preL, reqL])
    have hle : (reqL m p fs ++ bs).length ≤ 4000000 := by rw [← mkB_size, ← e, s2]; omega
    refine Ev.step (f := fun k => (wicketmanref09_Parse.f k (numsL (reqL m p fs ++ bs))).bind fun bt => if bt.2.2.2.2 = 0 then (wicketmanref09_Same.f k bt.1 bt.2.1 bt.2.2.1 bt.2.2.2.1 m p fs (numsL bs)).bind fun t => if t = true then some (numsL (reqL m p fs ++ bs), (0 : Int)) else some (([] : List Int), (10 : Int)) else some (([] : List Int), (10 : Int))) (fun k => ?_) (Ev.bind (refParse _ hle) ?_)
    · simp only [wicketmanref09_Print.l0]
      rw [if_neg (by omega), if_pos (by omega), numsL_str, if_pos (by rw [mkB_size]; omega), if_pos (by rw [s2]; omega), e, btsOf_nums, mkB_list]
    · unfold ansH
      by_cases h : (parseQ (numsL (reqL m p fs ++ bs))).2.2.2.2 = 0
      · simp only [if_pos h]
        refine Ev.bind hv ?_
        cases v with
        | true => exact Ev.now _
        | false => exact Ev.now _
      · simp only [if_neg h]
        exact Ev.now _
  | succ d ih =>
    intro i hd hi
    have hlt : i < fs.length := by omega
    have hmm := hs _ (getD_memP fs z34 hlt)
    have htx : fsTxt (fs.take (i + 1)) = fsTxt (fs.take i) ++ ((printS (fs.getD i z34).f0 (fs.getD i z34).f1).1.data.toList ++ [13, 10]) := by rw [take_next fs i hlt, fsTxt_app]
    have hfl := fsTxt_len (fs.take i)
    rw [List.length_take] at hfl
    have hps := printS_len (fs.getD i z34).f0 (fs.getD i z34).f1
    have hz : (mkB (preL m p ++ fsTxt (fs.take i))).size ≤ 1300000 := by rw [mkB_size, List.length_append]; omega
    have hrp := refPrint (fs.getD i z34).f0 (fs.getD i z34).f1 hmm.1 hmm.2
    refine Ev.step (f := fun k => (wicketmanref08_Print.f k (fs.getD i z34).f0 (fs.getD i z34).f1).bind fun bt => if (mkB (preL m p ++ fsTxt (fs.take i))).size + bt.1.size ≤ 9223372036854775807 then (if (mkB (preL m p ++ fsTxt (fs.take i)) ++ bt.1).size + 2 ≤ 9223372036854775807 then wicketmanref09_Print.l0 k ((mkB (preL m p ++ fsTxt (fs.take i)) ++ bt.1) ++ (⟨#[13, 10]⟩ : ByteArray)) ((i + 1 : Nat) : Int) m p fs (numsL bs) else none) else none) (fun k => ?_) ?_
    · simp only [wicketmanref09_Print.l0]
      rw [if_pos (by omega), if_pos (by omega), rdPr, wrap_id (by omega) (by omega)]; rfl
    · refine Ev.bind hrp ?_
      generalize hpr : printS (fs.getD i z34).f0 (fs.getD i z34).f1 = ps at *
      have h1 : ps.1.size ≤ 2000 := hps
      rw [ByteArray.size_append]
      simp only [if_pos (show (mkB (preL m p ++ fsTxt (fs.take i))).size + ps.1.size ≤ 9223372036854775807 by omega), if_pos (show (mkB (preL m p ++ fsTxt (fs.take i))).size + ps.1.size + 2 ≤ 9223372036854775807 by omega)]
      have e : (mkB (preL m p ++ fsTxt (fs.take i)) ++ ps.1) ++ (⟨#[13, 10]⟩ : ByteArray) = mkB (preL m p ++ fsTxt (fs.take (i + 1))) := by
        rw [htx]; exact Pall.ba_ext (by simp [mkB])
      rw [e]
      exact ih (i + 1) (by omega) (by omega)
theorem hprints_true (m p : ByteArray) (fs : List S34) (bs : List UInt8) (hm : m.size ≤ 100000) (hp : p.size ≤ 100000) (hf : fs.length ≤ 500) (hs : ∀ q ∈ fs, q.f0.size ≤ 140737488351232 ∧ q.f1.size ≤ 140737488351232) (hb : bs.length ≤ 100000) :
    Ev (fun k => wicketmanlaw09_prints.f k m p fs (numsL bs)) true := by
  have eT : reqT m p fs (numsL bs) = numsL (reqL m p fs ++ bs) := by unfold reqT numsL; rw [List.map_append]
  have hrl := reqL_len m p fs
  have hle : (reqL m p fs ++ bs).length ≤ 4000000 := by rw [List.length_append]; omega
  have hrg := parseQ_range (numsL (reqL m p fs ++ bs))
  obtain ⟨v, e1, e2⟩ := hsame_both (parseQ (numsL (reqL m p fs ++ bs))).1 (parseQ (numsL (reqL m p fs ++ bs))).2.1 (parseQ (numsL (reqL m p fs ++ bs))).2.2.1 (parseQ (numsL (reqL m p fs ++ bs))).2.2.2.1 m p fs (numsL bs) (by omega)
  have hsm : smallQ m p fs (numsL bs) = true := by
    unfold smallQ smallH bytesL
    rw [Bool.and_eq_true, Bool.and_eq_true, decide_eq_true_eq, List.all_eq_true, List.all_eq_true, numsL_len]
    refine ⟨⟨by omega, by omega, by omega, by omega⟩, fun q hq => decide_eq_true (hs q hq), fun x hx => ?_⟩
    obtain ⟨c, _, rfl⟩ := List.mem_map.1 hx
    have := c.toNat_lt
    exact decide_eq_true (by omega)
  have hP : Ev (fun k => http_Print.f k m p fs (numsL bs)) (ansH (numsL (reqL m p fs ++ bs)) v) := by
    refine Ev.congr (f := fun k => if (parseQ (numsL (reqL m p fs ++ bs))).2.2.2.2 = 0 then (http_Same.f k (parseQ (numsL (reqL m p fs ++ bs))).1 (parseQ (numsL (reqL m p fs ++ bs))).2.1 (parseQ (numsL (reqL m p fs ++ bs))).2.2.1 (parseQ (numsL (reqL m p fs ++ bs))).2.2.2.1 m p fs (numsL bs)).bind fun t => if t = true then some (numsL (reqL m p fs ++ bs), (0 : Int)) else some (([] : List Int), (10 : Int)) else some (([] : List Int), (10 : Int))) (fun k => ?_) ?_
    · unfold http_Print.f
      rw [if_pos hsm, eT, parse_some _ hle, Option.bind_some]
    · unfold ansH
      by_cases h : (parseQ (numsL (reqL m p fs ++ bs))).2.2.2.2 = 0
      · simp only [if_pos h]
        refine Ev.bind e1 ?_
        cases v with
        | true => exact Ev.now _
        | false => exact Ev.now _
      · simp only [if_neg h]
        exact Ev.now _
  have hR : Ev (fun k => wicketmanref09_Print.f k m p fs (numsL bs)) (ansH (numsL (reqL m p fs ++ bs)) v) := by
    have h := refPr_loop m p fs bs hm hp hf hs hb v e2 _ 0 rfl (Nat.zero_le _)
    refine Ev.congr (fun k => ?_) h
    unfold wicketmanref09_Print.f
    have s1 : (m ++ (⟨#[32]⟩ : ByteArray)).size = m.size + 1 := by rw [ByteArray.size_append]; rfl
    have s2 : (m ++ (⟨#[32]⟩ : ByteArray) ++ p).size = m.size + 1 + p.size := by rw [ByteArray.size_append, s1]
    rw [if_pos (by omega), if_pos (by omega), if_pos (by omega)]
    have e : (m ++ (⟨#[32]⟩ : ByteArray) ++ p) ++ (⟨#[32, 72, 84, 84, 80, 47, 49, 46, 49, 13, 10]⟩ : ByteArray) = mkB (preL m p ++ fsTxt (fs.take 0)) := Pall.ba_ext (by simp [mkB, preL, fsTxt])
    rw [e]; rfl
  have hrn := ansH_range (numsL (reqL m p fs ++ bs)) v
  generalize ansH (numsL (reqL m p fs ++ bs)) v = an at *
  refine Ev.congr (f := fun k => (http_Print.f k m p fs (numsL bs)).bind fun a => (wicketmanref09_Print.f k m p fs (numsL bs)).bind fun b => if (strOfNums a.1).toList = (strOfNums b.1).toList then some (wrap64 a.2 == b.2) else some false) (fun k => by unfold wicketmanlaw09_prints.f; rfl) (Ev.bind hP (Ev.bind hR ?_))
  rw [if_pos rfl, wrap_id (by omega) (by omega), beq_self_eq_true]
  exact Ev.now _
/-- what is parsed is small -/
theorem parseQ_small (t : List UInt8) (ht : t.length ≤ 100000) : (parseQ (numsL t)).1.size ≤ 100000 ∧ (parseQ (numsL t)).2.1.size ≤ 100000 ∧ (∀ q ∈ (parseQ (numsL t)).2.2.1, q.f0.size ≤ 140737488351232 ∧ q.f1.size ≤ 140737488351232) ∧ ∃ bs : List UInt8, (parseQ (numsL t)).2.2.2.1 = numsL bs ∧ bs.length ≤ 100000 := by
  have hno : ∀ e, (noReq e).1.size ≤ 100000 ∧ (noReq e).2.1.size ≤ 100000 ∧ (∀ q ∈ (noReq e).2.2.1, q.f0.size ≤ 140737488351232 ∧ q.f1.size ≤ 140737488351232) ∧ ∃ bs : List UInt8, (noReq e).2.2.2.1 = numsL bs ∧ bs.length ≤ 100000 :=
    fun e => ⟨Nat.zero_le _, Nat.zero_le _, (fun q hq => by cases hq), [], rfl, Nat.zero_le _⟩
  unfold parseQ
  generalize linesS (strOfNums (numsL t)).data.toList = r
  split
  · unfold parseL
    cases hr : r.1 with
    | nil => exact hno 10
    | cons x rest =>
      dsimp only
      split
      · exact hno _
      · rename_i hx
        have hx0 : fstE x = 0 := Decidable.byContradiction hx
        have hxs : x.size ≤ 2000 := by
          unfold fstE at hx0
          split at hx0
          · exact absurd hx0 (by decide)
          · omega
        have hw : ∀ i, ((wordsL x).getD i ByteArray.empty).size ≤ 2000 := by
          intro i
          rcases Nat.lt_or_ge i (wordsL x).length with hi | hi
          · have hmem := getD_memP (wordsL x) ByteArray.empty hi
            rw [wordsL_mk] at hmem ⊢
            obtain ⟨z, hz, hze⟩ := List.mem_map.1 hmem
            rw [← hze, mkB_size]
            have := splitC_mem 32 _ z hz
            rw [len_data] at this
            omega
          · rw [List.getD, List.getElem?_eq_none hi]; exact Nat.zero_le _
        split
        · exact hno _
        · split
          · exact hno _
          · rename_i hfe
            have hfe0 : fldsE rest = 0 := Decidable.byContradiction hfe
            split
            · exact hno _
            · refine ⟨Nat.le_trans (hw 0) (by omega), Nat.le_trans (hw 1) (by omega), ?_, t.drop ((numsL t).length - r.2.1), ?_, ?_⟩
              · intro q hq
                obtain ⟨l, hl, rfl⟩ := List.mem_map.1 hq
                exact fld_sizes l (fldsE_mem _ hfe0 l hl)
              · unfold numsL; exact (List.map_drop).symm
              · rw [List.length_drop]; omega
  · exact hno 10
theorem plain_prints (m0 p0 : ByteArray) (l0 : List S34) (b0 : List UInt8) (m1 p1 : ByteArray) (l1 : List S34) (b1 : List UInt8) (c : List Int) (a3 : Int)
    (h0 : hvQ m0 p0 l0 b0.length ≤ 4000000000) (h1 : hvQ m1 p1 l1 b1.length ≤ 4000000000) (hc : ∀ x ∈ c, 0 ≤ x ∧ x ≤ 255) (hcl : c.length ≤ 9223372036854775806) (ha : 0 ≤ a3 ∧ a3 ≤ 255) :
    Ev (fun k => wicketmanlaw09_HttpPrints.f k m0 p0 l0 (numsL b0) m1 p1 l1 (numsL b1) c a3) true := by
  have hj : Ev (fun k => wicketmanlaw09_HttpPrints.j0 k c a3 true m0 p0 l0 (numsL b0) m1 p1 l1 (numsL b1)) true := by
    refine Ev.step (f := fun _ => some true) (fun k => ?_) (Ev.now _)
    simp only [wicketmanlaw09_HttpPrints.j0, if_true, known09_true, Option.bind_some]
  have e0 := heavy_ev m0 p0 l0 (numsL b0) (by rw [numsL_len]; exact h0)
  have e1 := heavy_ev m1 p1 l1 (numsL b1) (by rw [numsL_len]; exact h1)
  rw [numsL_len] at e0 e1
  unfold wicketmanlaw09_HttpPrints.f
  refine Ev.bind e0 ?_
  by_cases g0 : ((hvQ m0 p0 l0 b0.length : Int) > 400)
  · simp only [decide_eq_true g0, if_true]; exact hj
  · simp only [decide_eq_false g0, Bool.false_eq_true, if_false]
    refine Ev.bind e1 ?_
    by_cases g1 : ((hvQ m1 p1 l1 b1.length : Int) > 400)
    · simp only [decide_eq_true g1, if_true]; exact hj
    · simp only [decide_eq_false g1, Bool.false_eq_true, if_false, known09_true, Option.bind_some, Bool.not_true]
      obtain ⟨t, t1, t2, et⟩ := raw_ev c hc a3 ha.1 ha.2 hcl
      obtain ⟨q1, q2, q3, bs, q4, q5⟩ := parseQ_small t (by omega)
      have qr := (parseQ_range (numsL t)).2
      have ln0 := hvS_len l0
      unfold hvQ at g0 g1
      have pr0 := hprints_true m0 p0 l0 b0 (by omega) (by omega) (by omega) (fun q hq => by have := hvS_mem hq; omega) (by omega)
      have prx := hprints_true (parseQ (numsL t)).1 (parseQ (numsL t)).2.1 (parseQ (numsL t)).2.2.1 bs q1 q2 (by omega) q3 q5
      rw [← q4] at prx
      obtain ⟨v, ea, eb⟩ := hsame_both m0 p0 l0 (numsL b0) m1 p1 l1 (numsL b1) (by omega)
      obtain ⟨u, ec, ed⟩ := hsame_both (parseQ (numsL t)).1 (parseQ (numsL t)).2.1 (parseQ (numsL t)).2.2.1 (parseQ (numsL t)).2.2.2.1 m0 p0 l0 (numsL b0) (by omega)
      have ee := hsame_self (parseQ (numsL t)).1 (parseQ (numsL t)).2.1 (parseQ (numsL t)).2.2.1 (parseQ (numsL t)).2.2.2.1 (by omega)
      refine Ev.step (fun k => by simp only [wicketmanlaw09_HttpPrints.j0, Bool.false_eq_true, if_false]; rfl) (Ev.bind et (Ev.bind (refParse t (by omega)) (Ev.bind pr0 ?_)))
      simp only [if_true]
      refine Ev.bind prx ?_
      simp only [if_true]
      refine Ev.bind ea (Ev.bind eb ?_)
      simp only [beq_self_eq_true, if_true]
      refine Ev.bind ec (Ev.bind ed ?_)
      simp only [beq_self_eq_true, if_true]
      exact Ev.bind ee (Ev.now _)
end Go.Proofs.YtpfbemcoblganaaGreatDoor.Pl

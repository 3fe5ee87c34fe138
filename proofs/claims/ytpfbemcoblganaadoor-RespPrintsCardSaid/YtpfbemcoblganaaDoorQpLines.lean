/-
  Lines of a head: what http.Lines and the document's own come to.
-/
import Derived.Test.YtpfbemcoblganaaDoorQpPlb
import Derived.Test.YtpfbemcoblganaaDoorQpPall2
import Derived.Test.YtpfbemcoblganaaDoorQpPall5
namespace Go.Proofs.YtpfbemcoblganaaDoor.Pl
open Go.RowKit Go.Proofs.YtpfbemcoblganaaDoor.Pall Go.Proofs.YtpfbemcoblganaaDoorW.PrintWords Go.Proofs.YtpfbemcoblganaaDoorW.PrintLast
set_option linter.unusedVariables false
set_option linter.unusedSimpArgs false
theorem first_at (p : Nat → Bool) : ∀ n, (∃ i, i < n ∧ p i = true ∧ ∀ j, j < i → p j = false) ∨ ∀ i, i < n → p i = false
  | 0 => .inr (fun i h => by omega)
  | n + 1 => by
    rcases first_at p n with ⟨i, h1, h2, h3⟩ | h
    · exact .inl ⟨i, by omega, h2, h3⟩
    · cases hp : p n with
      | true => exact .inl ⟨n, by omega, hp, h⟩
      | false => exact .inr (fun i hi => by by_cases e : i = n; (· subst e; exact hp); exact h i (by omega))
def crlf (l : List UInt8) (i : Nat) : Bool := decide (i + 1 < l.length) && (l.getD i 0 == 13 && l.getD (i + 1) 0 == 10)
theorem occ_crlf (l : List UInt8) (i : Nat) : Lib.occAt l [13, 10] i = crlf l i := by
  unfold Lib.occAt crlf
  by_cases h : i + 1 < l.length
  · rw [decide_eq_true h, Bool.true_and, List.drop_eq_getElem_cons (by omega), List.drop_eq_getElem_cons h, List.getD, List.getD, List.getElem?_eq_getElem (by omega), List.getElem?_eq_getElem h]
    show (((13 : UInt8) == _) && (((10 : UInt8) == _) && _)) = ((_ == (13 : UInt8)) && (_ == (10 : UInt8)))
    rw [List.isPrefixOf, Bool.and_true, Option.getD_some, Option.getD_some]
    congr 1
    · rw [Bool.eq_iff_iff, beq_iff_eq, beq_iff_eq]; exact eq_comm
    · rw [Bool.eq_iff_iff, beq_iff_eq, beq_iff_eq]; exact eq_comm
  · rw [decide_eq_false h, Bool.false_and]
    by_cases h2 : i < l.length
    · rw [List.drop_eq_getElem_cons h2, List.drop_of_length_le (by omega)]
      simp [List.isPrefixOf]
    · rw [List.drop_of_length_le (by omega)]; rfl
theorem crlf_cut (l : List UInt8) : (∃ i, crlf l i = true ∧ (∀ j, j < i → crlf l j = false) ∧ i + 1 < l.length ∧ Lib.cut l [13, 10] = (l.take i, l.drop (i + 2), true)) ∨ ((∀ i, crlf l i = false) ∧ Lib.cut l [13, 10] = (l, [], false)) := by
  rcases first_at (crlf l) l.length with ⟨i, h1, h2, h3⟩ | h
  · have hi : i + 1 < l.length := by unfold crlf at h2; simp at h2; exact h2.1
    refine .inl ⟨i, h2, h3, hi, ?_⟩
    have e := Lib.index_first (s := l) (sub := [13, 10]) (i := i) (by omega) (by rw [occ_crlf]; exact h2) (fun j hj => by rw [occ_crlf]; exact h3 j hj)
    unfold Lib.cut
    rw [e, if_pos (by omega), Int.toNat_natCast]; rfl
  · have h' : ∀ i, crlf l i = false := fun i => by
      by_cases hi : i < l.length
      · exact h i hi
      · unfold crlf; rw [decide_eq_false (by omega)]; rfl
    refine .inr ⟨h', ?_⟩
    have e := Lib.index_none (s := l) (sub := [13, 10]) (fun j _ => by rw [occ_crlf]; exact h' j)
    unfold Lib.cut
    rw [e, if_neg (by decide)]
/-- lines up to an empty one, how many bytes stand behind it, and whether there is one -/
def linesK : Nat → List UInt8 → List ByteArray → List ByteArray × Nat × Bool
  | 0, _, _ => ([], 0, false)
  | k + 1, l, out => if (Lib.cut l [13, 10]).2.2 = true then (if (Lib.cut l [13, 10]).1 = [] then (out, (Lib.cut l [13, 10]).2.1.length, true) else linesK k (Lib.cut l [13, 10]).2.1 (out ++ [mkB (Lib.cut l [13, 10]).1])) else ([], 0, false)
def linesS (l : List UInt8) : List ByteArray × Nat × Bool := linesK (l.length + 1) l []
def lnR (n : Nat) (r : List ByteArray × Nat × Bool) : List ByteArray × Int × Bool := if r.2.2 = true then (r.1, (n : Int) - (r.2.1 : Int), true) else ([], 0, false)
theorem linesK_no (k : Nat) {l : List UInt8} (out : List ByteArray) (h : Lib.cut l [13, 10] = (l, [], false)) : linesK (k + 1) l out = ([], 0, false) := by
  rw [linesK, h]; rfl
theorem linesK_end (k : Nat) {l x : List UInt8} (out : List ByteArray) (h : Lib.cut l [13, 10] = ([], x, true)) : linesK (k + 1) l out = (out, x.length, true) := by
  rw [linesK, h]; rfl
theorem linesK_more (k : Nat) {l a x : List UInt8} (out : List ByteArray) (h : Lib.cut l [13, 10] = (a, x, true)) (ha : a ≠ []) : linesK (k + 1) l out = linesK k x (out ++ [mkB a]) := by
  rw [linesK, h]
  simp only [if_true, if_neg ha]
theorem linesK_fuel : ∀ (n : Nat) (l : List UInt8) (k : Nat) (out : List ByteArray), l.length ≤ n → n ≤ k → linesK (k + 1) l out = linesK (n + 1) l out := by
  intro n
  induction n with
  | zero =>
    intro l k out hl hk
    obtain rfl := List.eq_nil_of_length_eq_zero (Nat.le_zero.1 hl)
    rfl
  | succ n ih =>
    intro l k out hl hk
    obtain ⟨k, rfl⟩ : ∃ m, k = m + 1 := ⟨k - 1, by omega⟩
    rcases crlf_cut l with ⟨i, h1, h2, hi, hc⟩ | ⟨_, hc⟩
    · by_cases h0 : l.take i = []
      · rw [h0] at hc; rw [linesK_end _ _ hc, linesK_end _ _ hc]
      · rw [linesK_more _ _ hc h0, linesK_more _ _ hc h0]
        exact ih _ _ _ (by rw [List.length_drop]; omega) (by omega)
    · rw [linesK_no _ _ hc, linesK_no _ _ hc]
theorem linesK_len : ∀ (k : Nat) (l : List UInt8) (out : List ByteArray), (linesK k l out).2.1 ≤ l.length := by
  intro k
  induction k with
  | zero => intro l out; exact Nat.zero_le _
  | succ k ih =>
    intro l out
    rcases crlf_cut l with ⟨i, h1, h2, hi, hc⟩ | ⟨_, hc⟩
    · by_cases h0 : l.take i = []
      · rw [h0] at hc; rw [linesK_end _ _ hc]; show (l.drop (i + 2)).length ≤ _; rw [List.length_drop]; omega
      · rw [linesK_more _ _ hc h0]
        have := ih (l.drop (i + 2)) (out ++ [mkB (l.take i)])
        rw [List.length_drop] at this; omega
    · rw [linesK_no _ _ hc]; exact Nat.zero_le _
theorem linesS_len (l : List UInt8) : (linesS l).2.1 ≤ l.length := linesK_len _ _ _
theorem linesK_count : ∀ (k : Nat) (l : List UInt8) (out : List ByteArray), (linesK k l out).1.length ≤ out.length + l.length := by
  intro k
  induction k with
  | zero => intro l out; exact Nat.zero_le _
  | succ k ih =>
    intro l out
    rcases crlf_cut l with ⟨i, h1, h2, hi, hc⟩ | ⟨_, hc⟩
    · by_cases h0 : l.take i = []
      · rw [h0] at hc; rw [linesK_end _ _ hc]; exact Nat.le_add_right _ _
      · rw [linesK_more _ _ hc h0]
        have := ih (l.drop (i + 2)) (out ++ [mkB (l.take i)])
        rw [List.length_drop, List.length_append] at this
        simp only [List.length_cons, List.length_nil] at this; omega
    · rw [linesK_no _ _ hc]; exact Nat.zero_le _
theorem httpLines_loop (x0 : List Int) (hx : x0.length < 4294967281) : ∀ n (l : List UInt8) (out : List ByteArray), l.length ≤ n → l.length ≤ x0.length → out.length + l.length ≤ 4294967281 →
    Ev (fun k => http_Lines.l0 k x0 out (mkB l)) (lnR x0.length (linesK (n + 1) l out)) := by
  intro n
  induction n with
  | zero =>
    intro l out hl hx0 ho
    obtain rfl := List.eq_nil_of_length_eq_zero (Nat.le_zero.1 hl)
    refine Ev.step (f := fun _ => some _) (fun k => ?_) (Ev.now _)
    simp only [http_Lines.l0, strings_Cut.f]
    rfl
  | succ n ih =>
    intro l out hl hx0 ho
    have hs : (mkB l).size < 4294967281 := by rw [mkB_size]; omega
    rcases crlf_cut l with ⟨i, h1, h2, hi, hc⟩ | ⟨_, hc⟩
    · by_cases h0 : l.take i = []
      · rw [h0] at hc
        rw [linesK_end _ _ hc]
        refine Ev.step (f := fun _ => some _) (fun k => ?_) (Ev.now _)
        simp only [http_Lines.l0, strings_Cut.f]
        rw [if_pos hs]
        show (Option.some (mkB (Lib.cut l [13, 10]).1, mkB (Lib.cut l [13, 10]).2.1, (Lib.cut l [13, 10]).2.2)).bind _ = _
        rw [hc, Option.bind_some]
        simp only [if_true]
        rw [if_pos (show (mkB []).toList = [] by rw [ByteArray.toList_eq]; rfl), mkB_size, wrap_id (by rw [List.length_drop]; omega) (by omega)]
        rfl
      · rw [linesK_more _ _ hc h0]
        have hne : ¬ (mkB (l.take i)).toList = [] := fun h => h0 (by rw [ByteArray.toList_eq] at h; exact h)
        refine Ev.step (f := fun k => http_Lines.l0 k x0 (out ++ [mkB (l.take i)]) (mkB (l.drop (i + 2)))) (fun k => ?_) (ih _ _ (by rw [List.length_drop]; omega) (by rw [List.length_drop]; omega) (by rw [List.length_append, List.length_drop]; simp only [List.length_cons, List.length_nil]; omega))
        simp only [http_Lines.l0, strings_Cut.f]
        rw [if_pos hs]
        show (Option.some (mkB (Lib.cut l [13, 10]).1, mkB (Lib.cut l [13, 10]).2.1, (Lib.cut l [13, 10]).2.2)).bind _ = _
        rw [hc, Option.bind_some]
        simp only [if_true]
        rw [if_neg hne, if_pos (by omega)]
    · rw [linesK_no _ _ hc]
      refine Ev.step (f := fun _ => some _) (fun k => ?_) (Ev.now _)
      simp only [http_Lines.l0, strings_Cut.f]
      rw [if_pos hs]
      show (Option.some (mkB (Lib.cut l [13, 10]).1, mkB (Lib.cut l [13, 10]).2.1, (Lib.cut l [13, 10]).2.2)).bind _ = _
      rw [hc]; rfl
theorem httpLines_ev (x0 : List Int) (hx : x0.length < 4294967281) : Ev (fun k => http_Lines.f k x0) (lnR x0.length (linesS (strOfNums x0).data.toList)) := by
  have hl : (strOfNums x0).data.toList.length = x0.length := by rw [strOfNums_data, List.length_map]
  have h := httpLines_loop x0 hx x0.length (strOfNums x0).data.toList [] (by omega) (by omega) (by rw [hl]; simp; omega)
  unfold linesS
  rw [hl]
  exact h
/-- a text's bytes as the numbers that a row of bytes has -/
def numsL (bs : List UInt8) : List Int := bs.map fun c => (c.toNat : Int)
theorem numsL_len (bs : List UInt8) : (numsL bs).length = bs.length := List.length_map _
theorem numsL_str (bs : List UInt8) : strOfNums (numsL bs) = mkB bs := by
  refine Pall.ba_ext ?_
  rw [strOfNums_data]
  show List.map _ (List.map _ bs) = bs
  rw [List.map_map]
  exact (List.map_congr_left (fun a _ => by simp)).trans (List.map_id _)
theorem numsL_rd (bs : List UInt8) (i : Nat) (h : i < bs.length) : rd (numsL bs) (i : Int) = ((bs.getD i 0).toNat : Int) := by
  unfold rd numsL
  rw [Int.toNat_natCast, List.getD, List.getD, List.getElem?_map, List.getElem?_eq_getElem h]; rfl
theorem nums_of (l : List Int) (h : ∀ x ∈ l, 0 ≤ x ∧ x ≤ 255) : ∃ bs, l = numsL bs := by
  refine ⟨l.map fun n => UInt8.ofNat n.toNat, ?_⟩
  unfold numsL
  rw [List.map_map]
  refine ((List.map_congr_left (fun a ha => ?_)).trans (List.map_id _)).symm
  have := h a ha
  simp only [Function.comp, UInt8.toNat_ofNat', id]
  omega
theorem crlf_drop (bs : List UInt8) (f j : Nat) : crlf (bs.drop f) j = crlf bs (f + j) := by
  unfold crlf
  rw [List.length_drop, List.getD, List.getD, List.getD, List.getD, List.getElem?_drop, List.getElem?_drop]
  have : decide (j + 1 < bs.length - f) = decide (f + j + 1 < bs.length) := by rw [Bool.eq_iff_iff, decide_eq_true_eq, decide_eq_true_eq]; omega
  rw [this]; rfl
theorem eq13 (c : UInt8) : ((c.toNat : Int) = 13) ↔ (c == 13) = true := by
  have h := u8_all (fun c => (decide ((c.toNat : Int) = 13)) == (c == 13)) (by decide +kernel) c
  rw [beq_iff_eq] at h
  rw [← h, decide_eq_true_eq]
theorem eq10 (c : UInt8) : ((c.toNat : Int) = 10) ↔ (c == 10) = true := by
  have h := u8_all (fun c => (decide ((c.toNat : Int) = 10)) == (c == 10)) (by decide +kernel) c
  rw [beq_iff_eq] at h
  rw [← h, decide_eq_true_eq]
theorem refLines_skip (bs : List UInt8) (hx : bs.length < 4294967281) (out : List ByteArray) (f i : Nat) (h1 : i + 1 < bs.length) (h : crlf bs i = false ∨ i < f) {r : List ByteArray × Int × Bool}
    (k : Ev (fun k => wicketmanref09_Lines.l0 k (numsL bs) out (f : Int) ((i + 1 : Nat) : Int)) r) : Ev (fun k => wicketmanref09_Lines.l0 k (numsL bs) out (f : Int) (i : Int)) r := by
  refine Ev.step (f := fun k => wicketmanref09_Lines.j1 k (numsL bs) out (f : Int) (i : Int) true) (fun k => ?_) ?_
  · simp only [wicketmanref09_Lines.l0, numsL_len]
    rw [wrap_id (by omega) (by omega), if_pos (by omega), if_pos (by omega), if_pos (by omega), numsL_rd bs i (by omega)]
    rw [show ((i : Int) + 1) = ((i + 1 : Nat) : Int) by omega, numsL_rd bs (i + 1) h1, if_pos (show (0 : Int) ≤ ((i + 1 : Nat) : Int) by omega)]
    by_cases e : crlf bs i = true
    · have hlt : i < f := h.resolve_left (by rw [e]; decide)
      have e2 := e
      unfold crlf at e2
      rw [Bool.and_eq_true, Bool.and_eq_true] at e2
      rw [if_pos ((eq13 _).2 e2.2.1), if_pos ((eq10 _).2 e2.2.2), decide_eq_true (by omega)]
    · by_cases e1 : (bs.getD i 0 == 13) = true
      · rw [if_pos ((eq13 _).2 e1), if_neg (fun h2 => e (by unfold crlf; rw [decide_eq_true h1, e1, (eq10 _).1 h2]; rfl))]
      · rw [if_neg (fun h2 => e1 ((eq13 _).1 h2))]
  · refine Ev.step (f := fun k => wicketmanref09_Lines.l0 k (numsL bs) out (f : Int) ((i + 1 : Nat) : Int)) (fun k => ?_) k
    simp only [wicketmanref09_Lines.j1, if_true]
    rw [wrap_id (by omega) (by omega)]; rfl
theorem refLines_loop (bs : List UInt8) (hx : bs.length < 4294967281) : ∀ d i f (out : List ByteArray), bs.length - i ≤ d → f ≤ i → i ≤ bs.length → (∀ j, f + j < i → crlf bs (f + j) = false) → out.length ≤ i →
    Ev (fun k => wicketmanref09_Lines.l0 k (numsL bs) out (f : Int) (i : Int)) (lnR bs.length (linesK (bs.length - f + 1) (bs.drop f) out)) := by
  intro d
  induction d using Nat.strongRecOn with
  | _ d ih =>
    intro i f out hd hf hi hno ho
    by_cases h1 : i + 1 < bs.length
    · by_cases hc : crlf bs i = true
      · have hcut : Lib.cut (bs.drop f) [13, 10] = ((bs.drop f).take (i - f), (bs.drop f).drop (i - f + 2), true) := by
          rcases crlf_cut (bs.drop f) with ⟨q, hq1, hq2, _, hq⟩ | ⟨hn, _⟩
          · have : q = i - f := by
              rcases Nat.lt_trichotomy q (i - f) with h | h | h
              · rw [crlf_drop, hno q (by omega)] at hq1; cases hq1
              · exact h
              · have := hq2 (i - f) h
                rw [crlf_drop, show f + (i - f) = i by omega, hc] at this; cases this
            subst this; exact hq
          · have := hn (i - f)
            rw [crlf_drop, show f + (i - f) = i by omega, hc] at this; cases this
        have e2 := hc
        unfold crlf at e2
        rw [Bool.and_eq_true, Bool.and_eq_true] at e2
        refine Ev.step (f := fun k => wicketmanref09_Lines.j1 k (numsL bs) out (f : Int) (i : Int) false) (fun k => ?_) ?_
        · simp only [wicketmanref09_Lines.l0, numsL_len]
          rw [wrap_id (by omega) (by omega), if_pos (by omega), if_pos (by omega), if_pos (by omega), numsL_rd bs i (by omega)]
          rw [show ((i : Int) + 1) = ((i + 1 : Nat) : Int) by omega, numsL_rd bs (i + 1) h1, if_pos (show (0 : Int) ≤ ((i + 1 : Nat) : Int) by omega)]
          rw [if_pos ((eq13 _).2 e2.2.1), if_pos ((eq10 _).2 e2.2.2), decide_eq_false (by omega)]
        · by_cases he : i = f
          · subst he
            rw [Nat.sub_self, List.take_zero] at hcut
            rw [linesK_end _ _ hcut]
            refine Ev.step (f := fun _ => some _) (fun k => ?_) (Ev.now _)
            simp only [wicketmanref09_Lines.j1]
            rw [if_neg (by decide), if_pos True.intro, wrap_id (by omega) (by omega)]
            show _ = some (out, (bs.length : Int) - (((bs.drop i).drop (0 + 2)).length : Int), true)
            rw [List.drop_drop, List.length_drop, show (i : Int) + 2 = (bs.length : Int) - ((bs.length - (i + (0 + 2)) : Nat) : Int) by omega]
          · have hne : (bs.drop f).take (i - f) ≠ [] := by
              intro h
              have := congrArg List.length h
              rw [List.length_take, List.length_drop] at this
              simp only [List.length_nil] at this
              omega
            rw [linesK_more _ _ hcut hne, List.drop_drop, show f + (i - f + 2) = i + 2 by omega]
            have hstr : strOfNums ((List.take ((i : Int)).toNat (numsL bs)).drop ((f : Int)).toNat) = mkB ((bs.drop f).take (i - f)) := by
              rw [Int.toNat_natCast, Int.toNat_natCast, ← numsL_str]
              unfold numsL
              rw [← List.map_take, ← List.map_drop, List.drop_take]
            refine Ev.step (f := fun k => wicketmanref09_Lines.l0 k (numsL bs) (out ++ [mkB ((bs.drop f).take (i - f))]) ((i + 2 : Nat) : Int) ((i + 1 : Nat) : Int)) (fun k => ?_) ?_
            · simp only [wicketmanref09_Lines.j1, numsL_len]
              rw [if_neg (by decide), if_neg (by omega), if_pos (by omega), if_pos (by omega), if_pos (by omega), if_pos (by omega), wrap_id (by omega) (by omega), wrap_id (by omega) (by omega), hstr]
              rfl
            · have hfu : linesK (bs.length - f) (bs.drop (i + 2)) (out ++ [mkB ((bs.drop f).take (i - f))]) = linesK (bs.length - (i + 2) + 1) (bs.drop (i + 2)) (out ++ [mkB ((bs.drop f).take (i - f))]) := by
                obtain ⟨m, hm⟩ : ∃ m, bs.length - f = m + 1 := ⟨bs.length - f - 1, by omega⟩
                rw [hm]
                exact linesK_fuel _ _ _ _ (by rw [List.length_drop]; exact Nat.le_refl _) (by omega)
              rw [hfu]
              by_cases h2 : i + 2 < bs.length
              · refine refLines_skip bs hx _ (i + 2) (i + 1) h2 (.inr (by omega)) ?_
                exact ih (bs.length - (i + 2)) (by omega) (i + 2) (i + 2) _ (Nat.le_refl _) (Nat.le_refl _) (by omega) (fun j hj => by omega) (by rw [List.length_append]; simp only [List.length_cons, List.length_nil]; omega)
              · obtain hn : bs.drop (i + 2) = [] := List.drop_of_length_le (by omega)
                rw [hn, linesK_no _ _ (by rfl)]
                refine Ev.step (f := fun _ => some _) (fun k => ?_) (Ev.now _)
                simp only [wicketmanref09_Lines.l0, numsL_len]
                rw [wrap_id (by omega) (by omega), if_neg (by omega)]; rfl
      · refine refLines_skip bs hx out f i h1 (.inl (by simpa using hc)) ?_
        refine ih (bs.length - (i + 1)) (by omega) (i + 1) f out (Nat.le_refl _) (by omega) (by omega) (fun j hj => ?_) (by omega)
        by_cases e : f + j = i
        · rw [e]; simpa using hc
        · exact hno j (by omega)
    · have hcut : Lib.cut (bs.drop f) [13, 10] = (bs.drop f, [], false) := by
        rcases crlf_cut (bs.drop f) with ⟨q, hq1, _, hq3, _⟩ | ⟨_, h⟩
        · exfalso
          rw [List.length_drop] at hq3
          rw [crlf_drop, hno q (by omega)] at hq1; cases hq1
        · exact h
      rw [linesK_no _ _ hcut]
      refine Ev.step (f := fun _ => some _) (fun k => ?_) (Ev.now _)
      simp only [wicketmanref09_Lines.l0, numsL_len]
      rw [wrap_id (by omega) (by omega), if_neg (by omega)]; rfl
theorem refLines_ev (bs : List UInt8) (hx : bs.length < 4294967281) : Ev (fun k => wicketmanref09_Lines.f k (numsL bs)) (lnR bs.length (linesS bs)) := by
  have h := refLines_loop bs hx _ 0 0 [] (Nat.le_refl _) (Nat.le_refl _) (by omega) (fun j hj => by omega) (by simp)
  exact h
end Go.Proofs.YtpfbemcoblganaaDoor.Pl

/-
  Package cookie and the laws of its layer: plain facts; contracts for the laws' walks.
  Where a text of cookies is cut: plain facts for the laws.
  Texts of cookies that are put together: what they are read as; four digits of a number.
-/
import Derived.Test.YtipbgnhhmgljnaaDoorCk
import Derived.Test.YtipbgnhhmgljnaaDoorRow
import Derived.Test.YtipbgnhhmgljnaaDoorPall2
import Derived.Lib.ItoaLen
import Derived.Test.YtipbgnhhmgljnaaDoorPlb
import Derived.Test.YtipbgnhhmgljnaaDoorPall3
import Derived.Laws.BitsLemmas
import Derived.Test.YtipbgnhhmgljnaaDoorPall12
namespace Go.Proofs.YtipbgnhhmgljnaaDoor.Pl
open Go.RowKit Go.Proofs.YtipbgnhhmgljnaaDoor.Pall Go.Proofs.YtipbgnhhmgljnaaDoor.Split Go.Proofs.YtipbgnhhmgljnaaDoorW.PrintWords
set_option linter.unusedVariables false
set_option linter.unusedSimpArgs false

theorem row_lit (W : World) (xs : List ByteArray) (h : xs.length ≤ 9223372036854775807) : Kd.C Kd.string (W.alloc (.cells (xs.map Value.string).toArray 9)) (some ⟨W.heap.size, 0, none⟩) xs.length xs :=
  (Kd.R_reads' (d := Kd.string) (e := 9) (base := W.heap.size) (ok := fun _ => True) (c := xs.length) ⟨fun _ _ => trivial, OwnRow.lit W W.heap.size (Kd.reps_scalar (enc := Value.string) xs) (Nat.le_refl _) h⟩).2.2

/-! ### Set -/
def restB : ByteArray := ⟨#[59, 32, 80, 97, 116, 104, 61, 47, 59, 32, 83, 101, 99, 117, 114, 101, 59, 32, 72, 116, 116, 112, 79, 110, 108, 121, 59, 32, 83, 97, 109, 101, 83, 105, 116, 101, 61, 83, 116, 114, 105, 99, 116]⟩
def setT (n v : ByteArray) (t : Int) : ByteArray := ((((n ++ ⟨#[61]⟩) ++ v) ++ ⟨#[59, 32]⟩) ++ ⟨#[77, 97, 120, 45, 65, 103, 101, 61]⟩) ++ (⟨(Lib.itoa t).toArray⟩ : ByteArray) ++ restB
def setS (n v : ByteArray) (t : Int) : ByteArray × Int := if tokL n.data.toList = true ∧ octL v.data.toList = true ∧ 0 ≤ t ∧ t ≤ 999999999 then (setT n v t, 0) else (⟨#[]⟩, 1)
theorem itoa_small (t : Int) (h0 : 0 ≤ t) (h1 : t ≤ 999999999) : (Lib.itoa t).length ≤ 1000 := by
  have := Lib.itoa_length_le t (by omega) (by omega); omega
theorem set_ev (n v : ByteArray) (t : Int) (hn : n.size ≤ 140737488351232) (hv : v.size ≤ 140737488351232) : cookie_Set.f n v t = some (setS n v t) := by
  unfold cookie_Set.f head_Token.f cookie_octets.f strconv_Itoa.f setS
  simp only [Option.bind_some]
  by_cases h1 : tokL n.data.toList = true
  · rw [if_pos h1]
    by_cases h2 : octL v.data.toList = true
    · rw [if_pos h2]
      by_cases h3 : t < 0
      · rw [if_pos h3, if_neg (fun h => by omega)]
      · rw [if_neg h3]
        by_cases h4 : t > 999999999
        · rw [if_pos h4, if_neg (fun h => by omega)]
        · have hi := itoa_small t (by omega) (by omega)
          have hsz : (⟨(Lib.itoa t).toArray⟩ : ByteArray).size = (Lib.itoa t).length := rfl
          have e1 : (⟨#[61]⟩ : ByteArray).size = 1 := rfl
          have e2 : (⟨#[59, 32]⟩ : ByteArray).size = 2 := rfl
          have e3 : (⟨#[77, 97, 120, 45, 65, 103, 101, 61]⟩ : ByteArray).size = 8 := rfl
          simp only [ByteArray.size_append, hsz, e1, e2, e3]
          rw [if_neg h4, if_pos (by omega), if_pos (by omega), if_pos (by omega), if_pos (by omega), if_pos (show -9223372036854775808 ≤ t ∧ t ≤ 9223372036854775807 from ⟨by omega, by omega⟩), Option.bind_some, if_pos (by omega), if_pos (by omega), if_pos ⟨h1, h2, by omega, by omega⟩]
          rfl
    · rw [if_neg h2, if_neg (fun h => h2 h.2.1)]
  · rw [if_neg h1, if_neg (fun h => h1 h.1)]
theorem set_any (n v : ByteArray) (t : Int) (hn : n.size ≤ 140737488351232) (hv : v.size ≤ 140737488351232) (w : World) (hS : Sh w) :
    Calls Tryd.prog 18 #[.agg #[.string n, .string v], .int .i64 t] w fun e w' => e = .returned (.tuple #[.string (setS n v t).1, .int .u16 (setS n v t).2]) ∧ Below w.heap.size w w' :=
  cookie_Set.calls n v t _ _ w hS (set_ev n v t hn hv)

/-! ### the chapter's example -/
theorem known_one : sessS [(⟨#[97, 61, 49, 59, 32, 95, 95, 72, 111, 115, 116, 45, 105, 100, 61, 53]⟩ : ByteArray)] = (⟨#[53]⟩, true) := by decide +kernel
theorem known_two : sessS [(⟨#[95, 95, 72, 111, 115, 116, 45, 105, 100, 61, 53, 59, 32, 95, 95, 72, 111, 115, 116, 45, 105, 100, 61, 53]⟩ : ByteArray)] = (⟨#[]⟩, false) := by decide +kernel
theorem known_set : setS (⟨#[97]⟩ : ByteArray) (⟨#[49]⟩ : ByteArray) 7 = ((⟨#[97, 61, 49, 59, 32, 77, 97, 120, 45, 65, 103, 101, 61, 55]⟩ : ByteArray) ++ restB, 0) := by decide +kernel
set_option maxRecDepth 100000 in
theorem known11_any (w : World) (hS : Sh w) : Calls Tryd.prog 11 #[] w fun e w' => e = .returned (.bool true) ∧ Below w.heap.size w w' := by
  go_enter Tryd.func11, Tryd.ntmps11
  have HB0 := hid (Below.refl w.heap.size w)
  go_wp2_with fail
  have r1 := row_lit w [(⟨#[97, 61, 49, 59, 32, 95, 95, 72, 111, 115, 116, 45, 105, 100, 61, 53]⟩ : ByteArray)] (by decide)
  refine (session_any _ 1 _ _ r1 (by decide) (by intro v hv; rw [List.mem_singleton.1 hv]; decide) (by decide) (hS.of_below (by repeat (first | (with_reducible first | exact HB0.out | apply below_alloc | apply pw_below_drewN | apply below_drew1) | exact HB0.out)))).mono ?_
  rintro e w1 ⟨rfl, hb1⟩
  rw [known_one]
  have HB1 := hid (below_step (by repeat (first | (with_reducible first | exact HB0.out | apply below_alloc | apply pw_below_drewN | apply below_drew1) | exact HB0.out)) hb1)
  clear r1 hb1
  go_wp2_with fail
  have r2 := row_lit w1 [(⟨#[95, 95, 72, 111, 115, 116, 45, 105, 100, 61, 53, 59, 32, 95, 95, 72, 111, 115, 116, 45, 105, 100, 61, 53]⟩ : ByteArray)] (by decide)
  refine (session_any _ 1 _ _ r2 (by decide) (by intro v hv; rw [List.mem_singleton.1 hv]; decide) (by decide) (hS.of_below (by repeat (first | (with_reducible first | exact HB1.out | apply below_alloc | apply pw_below_drewN | apply below_drew1) | exact HB1.out)))).mono ?_
  rintro e w2 ⟨rfl, hb2⟩
  rw [known_two]
  have HB2 := hid (below_step (by repeat (first | (with_reducible first | exact HB1.out | apply below_alloc | apply pw_below_drewN | apply below_drew1) | exact HB1.out)) hb2)
  clear r2 hb2
  go_wp2_with fail
  refine (set_any _ _ _ (by decide) (by decide) _ (hS.of_below (by repeat (first | (with_reducible first | exact HB2.out | apply below_alloc | apply pw_below_drewN | apply below_drew1) | exact HB2.out)))).mono ?_
  rintro e w3 ⟨rfl, hb3⟩
  rw [known_set]
  have HB3 := hid (below_step (by repeat (first | (with_reducible first | exact HB2.out | apply below_alloc | apply pw_below_drewN | apply below_drew1) | exact HB2.out)) hb3)
  clear hb3
  go_wp2
  go_ret
  exact ⟨congrArg (fun b => Ending.returned (Value.bool b)) (show (_ : Bool) = true by decide +kernel), HB3.out⟩
end Go.Proofs.YtipbgnhhmgljnaaDoor.Pl
namespace Go.Proofs.YtipbgnhhmgljnaaDoor.Pl
open Go.RowKit Go.Proofs.YtipbgnhhmgljnaaDoor.Pall Go.Proofs.YtipbgnhhmgljnaaDoor.Split Go.Proofs.YtipbgnhhmgljnaaDoorW.PrintWords Go.Proofs.YtipbgnhhmgljnaaDoorW.PrintLast Go.Proofs.YtipbgnhhmgljnaaDoorW.PrintMore
set_option linter.unusedVariables false
set_option linter.unusedSimpArgs false

theorem occ_semi (l : List UInt8) (j : Nat) : Lib.occAt l [59, 32] j = (decide (l[j]? = some 59) && decide (l[j + 1]? = some 32)) := by
  unfold Lib.occAt
  have e0 : (l.drop j)[0]? = l[j]? := by simp
  have e1 : (l.drop j)[1]? = l[j + 1]? := by simp
  rw [← e0, ← e1]
  generalize l.drop j = d
  match d with
  | [] => rfl
  | [a] => simp [List.isPrefixOf]
  | a :: b :: r =>
    have e2 : (a :: b :: r)[0]? = some a := rfl
    have e3 : (a :: b :: r)[1]? = some b := rfl
    rw [e2, e3]
    show ((59 : UInt8) == a && ((32 : UInt8) == b && true)) = (decide (some a = some 59) && decide (some b = some 32))
    have f : ∀ (x y : UInt8), (x == y) = decide (some y = some x) := fun x y => by
      by_cases e : y = x
      · subst e; simp
      · rw [decide_eq_false (fun h => e (Option.some.inj h)), beq_eq_false_iff_ne]; exact fun h => e h.symm
    rw [f, f, Bool.and_true]
theorem split_none (k : Nat) (l : List UInt8) (h : 32 ∉ l) : splitK [59, 32] k l = [l] := by
  have hi : Lib.index l [59, 32] = -1 := Lib.index_none (fun j hj => by
    rw [occ_semi]
    have : ¬ l[j + 1]? = some 32 := fun e => h (List.mem_of_getElem? e)
    rw [decide_eq_false this, Bool.and_false])
  cases k with
  | zero => rfl
  | succ k => unfold splitK; rw [hi, if_pos (by decide)]
theorem split_app (k : Nat) (a b : List UInt8) (h : 59 ∉ a) : splitK [59, 32] (k + 1) (a ++ 59 :: 32 :: b) = a :: splitK [59, 32] k b := by
  have hi : Lib.index (a ++ 59 :: 32 :: b) [59, 32] = (a.length : Nat) := Lib.index_first (by simp) (by
    rw [occ_semi]
    have e1 : (a ++ 59 :: 32 :: b)[a.length]? = some 59 := by simp
    have e2 : (a ++ 59 :: 32 :: b)[a.length + 1]? = some 32 := by simp
    rw [e1, e2]; rfl) (fun j hj => by
    rw [occ_semi]
    have : ¬ (a ++ 59 :: 32 :: b)[j]? = some 59 := fun e => by
      rw [List.getElem?_append_left hj] at e
      exact h (List.mem_of_getElem? e)
    rw [decide_eq_false this, Bool.false_and])
  conv => lhs; unfold splitK
  rw [hi, if_neg (by omega), Int.toNat_natCast]
  simp
/-- pieces with '; ' between -/
def joinS : List (List UInt8) → List UInt8
  | [] => []
  | [p] => p
  | p :: q :: r => p ++ 59 :: 32 :: joinS (q :: r)
theorem split_join : ∀ (k : Nat) (ps : List (List UInt8)), ps ≠ [] → ps.length ≤ k + 1 → (∀ p ∈ ps, 59 ∉ p ∧ 32 ∉ p) → splitK [59, 32] k (joinS ps) = ps
  | k, [], h, _, _ => absurd rfl h
  | k, [p], _, _, h => split_none k p (h p (List.mem_singleton_self p)).2
  | 0, p :: q :: r, _, hl, _ => by simp at hl
  | k + 1, p :: q :: r, _, hl, h => by
    unfold joinS
    rw [split_app k p _ (h p List.mem_cons_self).1, split_join k (q :: r) (by simp) (by simp at hl ⊢; omega) (fun x hx => h x (List.mem_cons_of_mem _ hx))]
theorem pieces_mk (l : List UInt8) : piecesS (mkS l) = (splitK [59, 32] l.length l).map mkS := rfl
theorem parse_mk (l : List UInt8) (h : l ≠ []) : parseS (mkS l) = if ((splitK [59, 32] l.length l).map mkS).all okS = true then (((splitK [59, 32] l.length l).map mkS).map pairS, true) else ([], false) := by
  unfold parseS
  rw [if_neg (by rw [ByteArray.toList_eq]; exact h), pieces_mk]
/-- a text without a blank is one piece -/
theorem parse_one (l : List UInt8) (h : l ≠ []) (hb : 32 ∉ l) : parseS (mkS l) = if okS (mkS l) = true then ([pairS (mkS l)], true) else ([], false) := by
  rw [parse_mk l h, split_none _ _ hb]; simp
/-- a cookie: a name without '=', then a value -/
theorem one_mk (n v : List UInt8) (hn : 61 ∉ n) : Lib.cut (n ++ 61 :: v) [61] = (n, v, true) := by
  have hp : pos (n ++ 61 :: v) 61 = n.length := pos_eq (by simp) (by simp [List.getD]) (fun j hj => by
    rw [List.getD, List.getElem?_append_left hj, List.getElem?_eq_getElem hj]
    intro e
    exact hn (e ▸ List.getElem_mem hj))
  rw [cut_one, hp, if_neg (by simp)]
  simp
theorem oneS_mk (n v : List UInt8) (hn : 61 ∉ n) : oneS (mkS (n ++ 61 :: v)) = (mkS n, bareS (mkS v), tokL n && octL (bareS (mkS v)).data.toList) := by
  unfold oneS
  have e : (mkS (n ++ 61 :: v)).data.toList = n ++ 61 :: v := rfl
  rw [e, one_mk n v hn]
  simp
/-- no quote stands first: the value is as it is -/
theorem bare_plain (v : List UInt8) (h : 34 ∉ v) : bareS (mkS v) = mkS v := by
  unfold bareS
  rw [if_neg]
  rintro ⟨_, hp, _⟩
  cases v with
  | nil => cases hp
  | cons a v =>
    have : Lib.hasPrefix (a :: v) [34] = true := hp
    unfold Lib.hasPrefix at this
    simp at this
    exact h (by simp [this])
theorem mkS_list (s : ByteArray) : mkS s.data.toList = s := Split.ba_ext rfl
theorem mkS_size (l : List UInt8) : (mkS l).size = l.length := by simp [mkS, ByteArray.size]
theorem ext_mid (s : ByteArray) (a b : Nat) : s.extract a b = mkS ((s.data.toList.drop a).take (b - a)) := Split.ba_ext (by rw [Lib.extract_data]; rfl)

theorem rdB (l : List ByteArray) (i : Nat) : rdOf ByteArray.empty l (i : Int) = l.getD i ByteArray.empty := by unfold rdOf; rw [Int.toNat_natCast]
theorem drop_get {α : Type} (l : List α) (d : α) {i : Nat} (h : i < l.length) : l.drop i = l.getD i d :: l.drop (i + 1) := by
  rw [List.drop_eq_getElem_cons h, List.getD, List.getElem?_eq_getElem h]; rfl
theorem getD_in {α : Type} (l : List α) (d : α) {i : Nat} (h : i < l.length) : l.getD i d ∈ l := by
  rw [List.getD, List.getElem?_eq_getElem h]; exact List.getElem_mem h
theorem parse_f (s : ByteArray) (hs : s.size ≤ 1000000) : cookie_Parse.f s = some (parseS s) := by unfold cookie_Parse.f; rw [if_pos hs]
theorem session_f (vs : List ByteArray) (hl : vs.length ≤ 1000000) (hs : ∀ v ∈ vs, v.size ≤ 1000000) : cookie_Session.f vs = some (sessS vs) := by
  unfold cookie_Session.f; rw [if_pos ⟨hl, List.all_eq_true.2 fun v hv => decide_eq_true (hs v hv)⟩]
theorem known11_true : wicketmanlaw11_known.f = some true := by decide +kernel
end Go.Proofs.YtipbgnhhmgljnaaDoor.Pl
namespace Go.Proofs.YtipbgnhhmgljnaaDoor.Pl
open Go.RowKit Go.Proofs.YtipbgnhhmgljnaaDoor.Pall Go.Proofs.YtipbgnhhmgljnaaDoor.Split Go.Proofs.YtipbgnhhmgljnaaDoorW.PrintWords Go.Proofs.YtipbgnhhmgljnaaDoorW.PrintLast Go.Proofs.YtipbgnhhmgljnaaDoorW.PrintMore
set_option linter.unusedVariables false
set_option linter.unusedSimpArgs false
/-- a cookie's text -/
def pcL (p : List UInt8 × List UInt8) : List UInt8 := p.1 ++ 61 :: p.2
def goodP (p : List UInt8 × List UInt8) : Prop := tokL p.1 = true ∧ octL p.2 = true
theorem tok_no (l : List UInt8) (h : tokL l = true) (c : UInt8) (hc : tokB c = false) : c ∉ l := by
  intro hm
  unfold tokL at h
  rw [Bool.and_eq_true, List.all_eq_true] at h
  rw [h.1 c hm] at hc; cases hc
theorem oct_no (l : List UInt8) (h : octL l = true) (c : UInt8) (hc : octB c = false) : c ∉ l := by
  intro hm
  unfold octL at h
  rw [List.all_eq_true] at h
  rw [h c hm] at hc; cases hc
theorem pc_good {p : List UInt8 × List UInt8} (h : goodP p) : okS (mkS (pcL p)) = true ∧ pairS (mkS (pcL p)) = ⟨mkS p.1, mkS p.2⟩ := by
  have e := oneS_mk p.1 p.2 (tok_no _ h.1 61 (by decide +kernel))
  rw [bare_plain _ (oct_no _ h.2 34 (by decide +kernel))] at e
  unfold okS pairS pcL
  rw [e]
  exact ⟨by show (tokL p.1 && octL p.2) = true; rw [h.1, h.2]; rfl, rfl⟩
theorem pc_no {p : List UInt8 × List UInt8} (h : goodP p) : 59 ∉ pcL p ∧ 32 ∉ pcL p := by
  unfold pcL
  simp only [List.mem_append, List.mem_cons, not_or]
  exact ⟨⟨tok_no _ h.1 _ (by decide +kernel), by decide, oct_no _ h.2 _ (by decide +kernel)⟩, ⟨tok_no _ h.1 _ (by decide +kernel), by decide, oct_no _ h.2 _ (by decide +kernel)⟩⟩
theorem join_ne : ∀ (ps : List (List UInt8)), ps ≠ [] → (∀ p ∈ ps, p ≠ []) → joinS ps ≠ []
  | [], h, _ => absurd rfl h
  | [p], _, h => h p (List.mem_singleton_self p)
  | p :: q :: r, _, h => by unfold joinS; simp
theorem join_len : ∀ (ps : List (List UInt8)), ps.length ≤ (joinS ps).length + 1
  | [] => by simp
  | [p] => by simp
  | p :: q :: r => by unfold joinS; have := join_len (q :: r); simp at this ⊢; omega
/-- all of them good: they are read as they are -/
theorem parse_good (ps : List (List UInt8 × List UInt8)) (hne : ps ≠ []) (hg : ∀ p ∈ ps, goodP p) : parseS (mkS (joinS (ps.map pcL))) = (ps.map fun p => ⟨mkS p.1, mkS p.2⟩, true) := by
  have h1 : joinS (ps.map pcL) ≠ [] := join_ne _ (by simpa using hne) (fun p hp => by
    obtain ⟨q, _, rfl⟩ := List.mem_map.1 hp
    unfold pcL; simp)
  rw [parse_mk _ h1, split_join _ _ (by simpa using hne) (join_len _) (fun p hp => by
    obtain ⟨q, hq, rfl⟩ := List.mem_map.1 hp
    exact pc_no (hg q hq))]
  rw [if_pos (by
    rw [List.all_map, List.all_map, List.all_eq_true]
    intro p hp
    exact (pc_good (hg p hp)).1), List.map_map, List.map_map]
  exact Prod.ext (List.map_congr_left fun p hp => (pc_good (hg p hp)).2) rfl
/-- other names turn nothing -/
theorem sess_others (xs : List (List UInt8 × List UInt8)) (h : ∀ p ∈ xs, mkS p.1 ≠ nameB) (st : Nat × ByteArray) : (xs.map fun p => (⟨mkS p.1, mkS p.2⟩ : S38)).foldl sess1 st = st := by
  induction xs generalizing st with
  | nil => rfl
  | cons p xs ih =>
    rw [List.map_cons, List.foldl_cons]
    have e : sess1 st (⟨mkS p.1, mkS p.2⟩ : S38) = st := if_neg (h p List.mem_cons_self)
    rw [e]; exact ih (fun q hq => h q (List.mem_cons_of_mem _ hq)) st
def nameL : List UInt8 := [95, 95, 72, 111, 115, 116, 45, 105, 100]
theorem sess_name (v : List UInt8) (st : Nat × ByteArray) : sess1 st (⟨mkS nameL, mkS v⟩ : S38) = (st.1 + 1, mkS v) := if_pos rfl
theorem join_cons (p : List UInt8) (ps : List (List UInt8)) (h : ps ≠ []) : joinS (p :: ps) = p ++ 59 :: 32 :: joinS ps := by
  cases ps with
  | nil => exact absurd rfl h
  | cons q r => rfl
/-- pieces, each with its end, ahead of one more -/
theorem join_ends {α : Type} (f : α → List UInt8) (l : List α) (z : List UInt8) : joinS (l.map f ++ [z]) = (l.flatMap fun a => f a ++ [59, 32]) ++ z := by
  induction l with
  | nil => rfl
  | cons a l ih =>
    rw [List.map_cons, List.cons_append, join_cons _ _ (by simp), ih, List.flatMap_cons]
    simp
/-- ahead of one that is the session's: read as its value -/
theorem sess_single (xs : List (List UInt8 × List UInt8)) (hx : ∀ p ∈ xs, goodP p ∧ mkS p.1 ≠ nameB) (v : List UInt8) (hv : octL v = true) :
    sessS [mkS (joinS (xs.map pcL ++ [pcL (nameL, v)]))] = (mkS v, true) := by
  have hp := parse_good (xs ++ [(nameL, v)]) (by simp) (fun p hp => by
    rcases List.mem_append.1 hp with h | h
    · exact (hx p h).1
    · rw [List.mem_singleton.1 h]; exact ⟨show tokL nameL = true by decide +kernel, hv⟩)
  rw [List.map_append] at hp
  unfold sessS
  rw [if_pos (by rw [List.all_cons, List.all_nil]; rw [List.map_cons, List.map_nil] at hp; rw [hp]; rfl)]
  rw [List.foldl_cons, List.foldl_nil]
  unfold sessF
  rw [List.map_cons, List.map_nil] at hp
  rw [hp, List.map_append, List.foldl_append, sess_others xs (fun p hp => (hx p hp).2)]
  show (if 1 < (sess1 (0, ⟨#[]⟩) (⟨mkS nameL, mkS v⟩ : S38)).1 then _ else _) = _
  rw [sess_name, if_neg (show ¬ 1 < 0 + 1 by decide)]
  rfl
/-- two of them, anyhow: none -/
theorem sess_two (vs : List ByteArray) (st : Nat × ByteArray) (h : 2 ≤ (vs.foldl sessF (0, ⟨#[]⟩)).1) : sessS vs = (⟨#[]⟩, false) := by
  unfold sessS
  split
  · rw [if_pos (by omega)]
  · rfl
theorem sess_bad (vs : List ByteArray) (v : ByteArray) (hv : v ∈ vs) (h : (parseS v).2 = false) : sessS vs = (⟨#[]⟩, false) := by
  unfold sessS
  rw [if_neg]
  intro hall
  have := List.all_eq_true.1 hall v hv
  rw [h] at this; cases this

/-! ### four digits -/
def digL : List UInt8 := [48, 49, 50, 51, 52, 53, 54, 55, 56, 57, 97, 98, 99, 100, 101, 102]
def dgt (n : Nat) : UInt8 := digL.getD n 0
theorem dgt_ext (n : Nat) (h : n < 16) : (⟨#[48, 49, 50, 51, 52, 53, 54, 55, 56, 57, 97, 98, 99, 100, 101, 102]⟩ : ByteArray).extract n (n + 1) = mkS [dgt n] := by
  have hall : ∀ n, n < 16 → (⟨#[48, 49, 50, 51, 52, 53, 54, 55, 56, 57, 97, 98, 99, 100, 101, 102]⟩ : ByteArray).extract n (n + 1) = mkS [dgt n] := by decide +kernel
  exact hall n h
theorem dgt_oct (n : Nat) (h : n < 16) : octB (dgt n) = true := by
  have hall : ∀ n, n < 16 → octB (dgt n) = true := by decide +kernel
  exact hall n h
theorem oct4 (a b c d : Nat) (ha : a < 16) (hb : b < 16) (hc : c < 16) (hd : d < 16) : octL [dgt a, dgt b, dgt c, dgt d] = true := by
  unfold octL
  simp [dgt_oct, ha, hb, hc, hd]
def hexL (n : Nat) : List UInt8 := [dgt (n / 4096), dgt (n / 256 % 16), dgt (n / 16 % 16), dgt (n % 16)]
theorem hexL_oct (n : Nat) (h : n < 65536) : octL (hexL n) = true := oct4 _ _ _ _ (by omega) (by omega) (by omega) (by omega)
theorem and15 (x : Int) (h0 : 0 ≤ x) (h1 : x < 65536) : Go.bits .and .u16 x 15 = x % 16 := bits_mask .u16 16 (by decide) (fun n a b => by rw [IntKind.wrap_u16]; omega) 4 (by decide) x h0 h1
set_option maxRecDepth 4000 in
theorem hex_f (n : Nat) (h : n < 65536) : wicketmanlaw11_hex.f (n : Int) = some (mkS (hexL n)) := by
  have e0 : ((n : Int) / 4096) = ((n / 4096 : Nat) : Int) := by omega
  have e1 : Go.bits .and .u16 ((n : Int) / 256) 15 = ((n / 256 % 16 : Nat) : Int) := by rw [and15 _ (by omega) (by omega)]; omega
  have e2 : Go.bits .and .u16 ((n : Int) / 16) 15 = ((n / 16 % 16 : Nat) : Int) := by rw [and15 _ (by omega) (by omega)]; omega
  have e3 : Go.bits .and .u16 (n : Int) 15 = ((n % 16 : Nat) : Int) := by rw [and15 _ (by omega) (by omega)]; omega
  unfold wicketmanlaw11_hex.f hexL
  rw [e0, e1, e2, e3]
  have g0 : n / 4096 < 16 := by omega
  have g1 : n / 256 % 16 < 16 := by omega
  have g2 : n / 16 % 16 < 16 := by omega
  have g3 : n % 16 < 16 := by omega
  generalize n / 4096 = a at *
  generalize n / 256 % 16 = b at *
  generalize n / 16 % 16 = c at *
  generalize n % 16 = d at *
  have hw : ∀ m : Nat, m < 16 → IntKind.u16.wrap ((m : Int) + 1) = ((m + 1 : Nat) : Int) := fun m hm => by rw [IntKind.wrap_u16]; omega
  have hs : ∀ l : List UInt8, (mkS l).size = l.length := mkS_size
  rw [hw a g0, hw b g1, hw c g2, hw d g3]
  simp only [Int.toNat_natCast, dgt_ext a g0, dgt_ext b g1, dgt_ext c g2, dgt_ext d g3, ByteArray.size_append, hs, List.length_singleton]
  rw [if_pos (by omega), if_pos (by omega), if_pos (by omega), if_pos (by omega), if_pos (by omega), if_pos (by omega), if_pos (by omega), if_pos (by omega), if_pos (by omega), if_pos (by omega), if_pos (by omega), if_pos (by omega), if_pos (by omega), if_pos (by omega), if_pos (by omega)]
  exact congrArg some (Split.ba_ext (by simp [mkS]))
end Go.Proofs.YtipbgnhhmgljnaaDoor.Pl

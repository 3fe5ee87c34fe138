/-
  cookie.Parse: what it comes to; its walk, over strings.SplitSeq's contract.
-/
import Derived.Test.YtipbgnhhmgljnaaDoorSplitLaw
import Derived.Test.YtipbgnhhmgljnaaDoorPallF
import Derived.Outline
namespace Go.Proofs.YtipbgnhhmgljnaaDoor.Split
open Go.RowKit Go.Shelf Go.Proofs.YtipbgnhhmgljnaaDoor.Pall Go.Proofs.YtipbgnhhmgljnaaDoorW.PrintWords
attribute [local go_sem] Oper.semAt_some
set_option linter.unusedVariables false
set_option linter.unusedSimpArgs false

/-! ### one cookie -/
def bareS (v : ByteArray) : ByteArray := if 2 ≤ v.size ∧ Lib.hasPrefix v.data.toList [34] = true ∧ Lib.hasSuffix v.data.toList [34] = true then v.extract 1 (v.size - 1) else v
def oneS (x : ByteArray) : ByteArray × ByteArray × Bool :=
  (mkS (Lib.cut x.data.toList [61]).1, bareS (mkS (Lib.cut x.data.toList [61]).2.1), (Lib.cut x.data.toList [61]).2.2 && (tokL (Lib.cut x.data.toList [61]).1 && octL (bareS (mkS (Lib.cut x.data.toList [61]).2.1)).data.toList))
def pairS (x : ByteArray) : S38 := ⟨(oneS x).1, (oneS x).2.1⟩
def okS (x : ByteArray) : Bool := (oneS x).2.2
theorem one_j0 (k : Nat) (n v : ByteArray) (c q : Bool) (hv : v.size < 4294967281) (hq : q = true → 2 ≤ v.size) :
    cookie_one.j0 (k + 1) n v c q = some (n, (if q = true then v.extract 1 (v.size - 1) else v), c && (tokL n.data.toList && octL (if q = true then v.extract 1 (v.size - 1) else v).data.toList)) := by
  simp only [cookie_one.j0, head_Token.f, cookie_octets.f]
  cases q with
  | true =>
    have h2 := hq rfl
    have hw : wrap64 ((v.size : Int) - 1) = ((v.size - 1 : Nat) : Int) := by unfold wrap64; omega
    simp only [hw, if_true, if_pos (show (1 : Int) ≤ ((v.size - 1 : Nat) : Int) by omega), if_pos (show ((v.size - 1 : Nat) : Int) ≤ (v.size : Int) by omega), Int.toNat_natCast]
    cases c <;> cases hT : tokL n.data.toList <;> simp
  | false =>
    cases c <;> cases hT : tokL n.data.toList <;> simp
theorem cut_size (l s : List UInt8) : (Lib.cut l s).2.1.length ≤ l.length := by
  unfold Lib.cut; split <;> simp
theorem one_ev (k : Nat) (x : ByteArray) (hx : x.size < 4294967281) : cookie_one.f (k + 1) x = some (oneS x) := by
  have hv : (mkS (Lib.cut x.data.toList [61]).2.1).size < 4294967281 := by
    have h := cut_size x.data.toList [61]
    show (Lib.cut x.data.toList [61]).2.1.length < _
    have : x.data.toList.length = x.size := rfl
    omega
  unfold cookie_one.f strings_Cut.f oneS bareS
  rw [if_pos hx]
  generalize hn : (Lib.cut x.data.toList [61]).1 = n at *
  generalize hq : (Lib.cut x.data.toList [61]).2.1 = vl at *
  generalize hc : (Lib.cut x.data.toList [61]).2.2 = c at *
  have e1 : (Lib.cut x.data.toList (⟨#[61]⟩ : ByteArray).data.toList) = (n, vl, c) := by rw [← hn, ← hq, ← hc]
  simp only [e1, Option.bind_some]
  show (if ((mkS vl).size : Int) ≥ 2 then ((strings_HasPrefix.f (mkS vl) (⟨#[34]⟩ : ByteArray)).bind fun t106 => (if t106 = true then ((strings_HasSuffix.f (mkS vl) (⟨#[34]⟩ : ByteArray)).bind fun t107 => (cookie_one.j0 (k + 1) (mkS n) (mkS vl) c t107)) else (cookie_one.j0 (k + 1) (mkS n) (mkS vl) c false))) else (cookie_one.j0 (k + 1) (mkS n) (mkS vl) c false)) = _
  generalize mkS vl = v at *
  simp only [strings_HasPrefix.f, strings_HasSuffix.f, if_pos (show v.size ≤ 9223372036854775807 by omega), Option.bind_some]
  by_cases h2 : (v.size : Int) ≥ 2
  · rw [if_pos h2]
    by_cases hp : Lib.hasPrefix v.data.toList (⟨#[34]⟩ : ByteArray).data.toList = true
    · rw [if_pos hp]
      by_cases hs : Lib.hasSuffix v.data.toList (⟨#[34]⟩ : ByteArray).data.toList = true
      · rw [if_pos ⟨by omega, hp, hs⟩, hs, one_j0 k _ _ _ true hv (fun _ => by omega), if_pos rfl]; rfl
      · rw [if_neg (fun h => hs h.2.2), Bool.eq_false_iff.2 hs, one_j0 k _ _ _ false hv (fun h => by cases h), if_neg (by decide)]; rfl
    · rw [if_neg hp, one_j0 k _ _ _ false hv (fun h => by cases h), if_neg (by decide), if_neg (fun h => hp h.2.1)]; rfl
  · rw [if_neg h2, one_j0 k _ _ _ false hv (fun h => by cases h), if_neg (by decide), if_neg (fun h => h2 (by omega))]; rfl
theorem one_any (x : ByteArray) (hx : x.size < 4294967281) (w : World) (hS : Sh w) :
    Calls Tryd.prog 31 #[.string x] w fun e w' => e = .returned (.tuple #[.agg #[.string (pairS x).f0, .string (pairS x).f1], .bool (okS x)]) ∧ Below w.heap.size w w' :=
  cookie_one.calls 1 x _ _ _ w hS (one_ev 0 x hx)

/-! ### the cookies -/
def semiB : ByteArray := ⟨#[59, 32]⟩
def piecesS (s : ByteArray) : List ByteArray := (splitK semiB.data.toList s.size s.data.toList).map mkS
def parseS (s : ByteArray) : List S38 × Bool := if s.toList = [] then ([], true) else if (piecesS s).all okS = true then ((piecesS s).map pairS, true) else ([], false)

theorem splitSeq_any (s sep : ByteArray) (w : World) : Calls Tryd.prog 30 #[.string s, .string sep] w fun e w' =>
    e = .returned (.func (.func 55) #[] #[.pointer (some ⟨w.heap.size + 1, 0, none⟩), .pointer (some ⟨w.heap.size, 0, none⟩), .pointer (some ⟨w.heap.size + 2, 0, none⟩)]) ∧
    w' = ((w.alloc (.cells #[.string s] 9)).alloc (.cells #[.string sep] 9)).alloc (.cells #[.int .i64 0] 3) := by
  have inner : ∀ w : World, Calls Tryd.prog 44 #[.string s, .string sep, .int .i64 0] w fun e w' =>
      e = .returned (.func (.func 55) #[] #[.pointer (some ⟨w.heap.size + 1, 0, none⟩), .pointer (some ⟨w.heap.size, 0, none⟩), .pointer (some ⟨w.heap.size + 2, 0, none⟩)]) ∧
      w' = ((w.alloc (.cells #[.string s] 9)).alloc (.cells #[.string sep] 9)).alloc (.cells #[.int .i64 0] 3) := by
    intro w
    go_enter Tryd.func44, Tryd.ntmps44
    go_wp2
    go_ret
    exact ⟨rfl, rfl⟩
  go_enter Tryd.func30, Tryd.ntmps30
  go_wp2_with (go_at_call 44; refine (inner _).mono ?_; rintro e w' ⟨rfl, rfl⟩)
  go_ret
  exact ⟨rfl, rfl⟩

def cells2 (x : S38) : List Value := [.string x.f0, .string x.f1]
theorem reps2 (w : World) (base : Nat) (ok : Nat → Prop) (xs : List S38) : Reps (k38.M w base ok) 2 xs (xs.flatMap cells2) := by
  have h : ∀ (ys zs : List S38), Reps (k38.M w base ok) 2 ys (ys.flatMap cells2) → Reps (k38.M w base ok) 2 (ys ++ zs) ((ys ++ zs).flatMap cells2) := by
    intro ys zs
    induction zs generalizing ys with
    | nil => intro h; simpa using h
    | cons z zs ih =>
      intro h
      have := ih (ys ++ [z]) (by
        rw [List.flatMap_append]
        have e : [z].flatMap cells2 = cells2 z := by simp
        rw [e]
        exact h.snoc (k38_mkM w base ok z) rfl)
      simpa using this
  simpa using h [] xs (Reps.none _ _)
theorem row_of_owns {w : World} {base : Nat} {v : Value} {xs : List S38} (h : w.ownsRow base 38 2 v xs.length (xs.flatMap cells2)) : Kd.R k38 38 w base (fun _ => True) v xs :=
  ⟨fun _ _ => trivial, xs.flatMap cells2, h, reps2 _ _ _ _⟩
theorem pieces_len (sep : List UInt8) : ∀ (k : Nat) (l : List UInt8), (splitK sep k l).length ≤ k + 1
  | 0, l => Nat.le_refl _
  | k + 1, l => by
    unfold splitK; split
    · simp
    · rw [List.length_cons]; have := pieces_len sep k (l.drop ((Lib.index l sep).toNat + sep.length)); omega
theorem piece_le (sep : List UInt8) : ∀ (k : Nat) (l x : List UInt8), x ∈ splitK sep k l → x.length ≤ l.length
  | 0, l, x, h => by rw [List.mem_singleton.1 h]; exact Nat.le_refl _
  | k + 1, l, x, h => by
    unfold splitK at h; split at h
    · rw [List.mem_singleton.1 h]; exact Nat.le_refl _
    · rcases List.mem_cons.1 h with rfl | h
      · simp; omega
      · have := piece_le sep k _ x h; simp at this; omega
theorem parse_results (tmps : Array Value) (w : World) (g1 g2 : Nat) (h2 : tmps.getD 2 undef = .pointer (some ⟨g1, 0, none⟩)) (h3 : tmps.getD 3 undef = .pointer (some ⟨g2, 0, none⟩)) (v b : Value)
    (c1 : w.cell? ⟨g1, 0, none⟩ = some v) (c2 : w.cell? ⟨g2, 0, none⟩ = some b) : (results Tryd.f17 tmps).run Tryd.prog w = .ok (.tuple #[v, b]) w := by
  have hr : Tryd.f17.results = #[.cell 2 34, .cell 3 4] := rfl
  have hu := Tryd.underlying34
  have hb := Tryd.underlying4
  unfold results
  rw [hr]
  rw [Array.getD_eq_getD_getElem?] at h2 h3
  simp [h2, h3, loadVar, c1, c2, go_sem, hu, hb, isAgg, asAddr]
theorem owns_slice {W : World} {base : Nat} {e : TypeId} {size n : Nat} {v : Value} {xs : List Value} (h : W.ownsRow base e size v n xs) : ∃ A m c, v = .slice A m c := by
  rcases h.2 with ⟨rfl, _⟩ | ⟨g, cap, _, rfl, _⟩
  · exact ⟨_, _, _, rfl⟩
  · exact ⟨_, _, _, rfl⟩
theorem piece_in {s x : ByteArray} {pre : List ByteArray} (h : (pre ++ [x]) <+: (splitK semiB.data.toList s.size s.data.toList).map mkS) : x.size ≤ s.size ∧ pre.length ≤ s.size := by
  constructor
  · have hm := h.subset (List.mem_append_right pre (List.mem_singleton_self x))
    obtain ⟨l, hl, rfl⟩ := List.mem_map.1 hm
    exact piece_le _ _ _ _ hl
  · have h1 := h.length_le
    rw [List.length_append, List.length_map] at h1
    have h2 := pieces_len semiB.data.toList s.size s.data.toList
    simp at h1
    omega
theorem cell_two_new (w : World) (x y : Value) (t : TypeId) (n : Nat) (hn : n = w.heap.size) : ∀ (j : Nat) (u : Value), [x, y][j]? = some u → (w.alloc (.cells #[x, y] t)).cell? ((⟨n, 0, none⟩ : Addr).add j) = some u := by
  intro j u hj
  subst hn
  match j, hj with
  | 0, hj =>
    have e : (⟨w.heap.size, 0, none⟩ : Addr).add 0 = ⟨w.heap.size, 0, none⟩ := rfl
    rw [e]; unfold World.cell?; rw [World.alloc_heap_new]; simpa using hj
  | 1, hj =>
    have e : (⟨w.heap.size, 0, none⟩ : Addr).add 1 = ⟨w.heap.size, 1, none⟩ := rfl
    rw [e]; unfold World.cell?; rw [World.alloc_heap_new]; simpa using hj
theorem boxE_own {β : Type} (B : Nat) (t : TypeId) : Own (fun (_ : β) W => ∃ u, Boxed W B t u) := fun s X Y row ⟨u, hs⟩ hg hrow => ⟨u, boxed_own B t (fun _ : β => u) s X Y row hs hg hrow⟩
/-- between two rounds -/
def ParseI (w : World) (N Bs : Nat) (pre : List ByteArray) (W : World) : Prop :=
  (∃ v, Boxed W (N + 2) 34 v ∧ W.ownsRow N 38 2 v pre.length ((pre.map pairS).flatMap cells2) ∧ True) ∧ Below N w W ∧ Boxed W N 34 (.slice none 0 0) ∧ Boxed W (N + 1) 4 (.bool false) ∧ (∃ u, Boxed W Bs 9 u) ∧ (∃ u, Boxed W (Bs + 1) 9 u) ∧ (∃ u, Boxed W (Bs + 2) 3 u) ∧ pre.all okS = true
/-- where a round has left -/
def ParseX (w : World) (N : Nat) (pre : List ByteArray) (W : World) : Prop :=
  Below N w W ∧ Boxed W N 34 (.slice none 0 0) ∧ Boxed W (N + 1) 4 (.bool false) ∧ pre.all okS = false
theorem ParseI.own {w : World} {N Bs B : Nat} (hN : N ≤ w.heap.size) (hB : N ≤ B) : OwnFrom B (ParseI w N Bs) :=
  OwnFrom.and (Own.from (holdsRow_own N (N + 2) 34 38 2 (fun pre : List ByteArray => pre.length) (fun pre => (pre.map pairS).flatMap cells2) (fun _ _ => True)) _)
    (OwnFrom.and (ownFrom_below hN hB) (OwnFrom.and (Own.from (boxed_own N _ (fun _ => .slice none 0 0)) _) (OwnFrom.and (Own.from (boxed_own (N + 1) _ (fun _ => .bool false)) _) (OwnFrom.and (Own.from (boxE_own Bs _) _) (OwnFrom.and (Own.from (boxE_own (Bs + 1) _) _) (OwnFrom.and (Own.from (boxE_own (Bs + 2) _) _) (ownFrom_pure _ _)))))))
theorem ParseX.own {w : World} {N B : Nat} (hN : N ≤ w.heap.size) (hB : N ≤ B) : OwnFrom B (ParseX w N) :=
  OwnFrom.and (ownFrom_below hN hB) (OwnFrom.and (Own.from (boxed_own N _ (fun _ => .slice none 0 0)) _) (OwnFrom.and (Own.from (boxed_own (N + 1) _ (fun _ => .bool false)) _) (ownFrom_pure _ _)))
theorem ParseI.set {w : World} {N Bs : Nat} (hb : N + 2 < Bs) {pre : List ByteArray} {W : World} (v : Value) (h : ParseI w N Bs pre W) : ParseI w N Bs pre (W.setCell ⟨Bs, 0, none⟩ v) := by
  obtain ⟨⟨u, h1, h2, _⟩, h3, h4, h5, ⟨z, h6⟩, ⟨z1, h8⟩, ⟨z2, h9⟩, h7⟩ := h
  have hg := grownBy_setCell' W Bs v
  exact ⟨⟨u, h1.kept hg (by simp; omega), h2.kept hg (.inr (h6.not_row (by decide) h2).symm), trivial⟩, h3.setCell (p := ⟨Bs, 0, none⟩) (by show N ≤ Bs; omega) v, h4.kept hg (by simp; omega), h5.kept hg (by simp; omega), ⟨_, h6.set v⟩, ⟨_, h8.kept hg (by simp)⟩, ⟨_, h9.kept hg (by simp)⟩, h7⟩
set_option maxRecDepth 100000 in
set_option maxHeartbeats 2000000 in
theorem parse_any (s : ByteArray) (hs : s.size ≤ 4000000000) (w : World) (hS : Sh w) :
    Calls Tryd.prog 17 #[.string s] w fun e w' => ∃ v : Value, e = .returned (.tuple #[v, .bool (parseS s).2]) ∧ Kd.R k38 38 w' w.heap.size (fun _ => True) v (parseS s).1 ∧ Below w.heap.size w w' := by
  refine (callsIn_wide (n := 3)).1 ?_
  have hu := Tryd.underlying38
  obtain ⟨i0, hi, hz0, hz1, hz2⟩ := info_parts info38
  refine callsIn_of_wp_marks Tryd.func17 rfl trivial ?_ rfl
  simp only [Tryd.ntmps17, List.size_toArray, List.length_cons, List.length_nil, Nat.reduceAdd, Nat.reduceSub, Array.replicate_succ, Array.replicate_zero, List.push_toArray, List.append_toArray, List.nil_append, List.cons_append]
  by_cases hnil : s.toList = []
  · have hp : parseS s = ([], true) := by unfold parseS; rw [if_pos hnil]
    have he : s.toList.isEmpty = true := List.isEmpty_iff.2 hnil
    clear hnil
    rw [hp]
    gi_wp2
    refine ⟨_, parse_results _ _ _ _ rfl rfl _ _ (by simp [go_sem]) (by simp [go_sem]), _, rfl, Kd.R_nil _ _ _ _ _, ?_⟩
    exact ((Below.refl _ w).alloc (Nat.le_refl _) _).alloc (by simp) _
  · have hp : parseS s = (if (piecesS s).all okS = true then ((piecesS s).map pairS, true) else ([], false)) := by unfold parseS; rw [if_neg hnil]
    have he : s.toList.isEmpty = false := by cases h : s.toList.isEmpty with | false => rfl | true => exact absurd (List.isEmpty_iff.1 h) hnil
    clear hnil
    have b0 := Boxed.new w 34 (.slice none 0 0)
    have b1 := Boxed.new (w.alloc (.cells #[.slice none 0 0] 34)) 4 (.bool false)
    have b2 := Boxed.new ((w.alloc (.cells #[.slice none 0 0] 34)).alloc (.cells #[.bool false] 4)) 34 (.slice none 0 0)
    have b3 := Boxed.new (((w.alloc (.cells #[.slice none 0 0] 34)).alloc (.cells #[.bool false] 4)).alloc (.cells #[.slice none 0 0] 34)) 9 (.string s)
    have b4 := Boxed.new ((((w.alloc (.cells #[.slice none 0 0] 34)).alloc (.cells #[.bool false] 4)).alloc (.cells #[.slice none 0 0] 34)).alloc (.cells #[.string s] 9)) 9 (.string semiB)
    have b5 := Boxed.new (((((w.alloc (.cells #[.slice none 0 0] 34)).alloc (.cells #[.bool false] 4)).alloc (.cells #[.slice none 0 0] 34)).alloc (.cells #[.string s] 9)).alloc (.cells #[.string semiB] 9)) 3 (.int .i64 0)
    simp only [World.size_alloc] at b1 b2 b3 b4 b5
    have hB0 : Below w.heap.size w ((((((w.alloc (.cells #[.slice none 0 0] 34)).alloc (.cells #[.bool false] 4)).alloc (.cells #[.slice none 0 0] 34)).alloc (.cells #[.string s] 9)).alloc (.cells #[.string semiB] 9)).alloc (.cells #[.int .i64 0] 3)) :=
      ((((((Below.refl _ w).alloc (Nat.le_refl _) _).alloc (by simp) _).alloc (by simp; omega) _).alloc (by simp; omega) _).alloc (by simp; omega) _).alloc (by simp; omega) _
    gi_wp2_with (refine ⟨trivial, ?_⟩; gi_at_call 30; refine (callsIn_wide.2 (splitSeq_any s semiB _)).mono ?_; rintro e w' ⟨rfl, rfl⟩)
    refine range_split (n := 3) (Bp := w.heap.size + 4) (Bs := w.heap.size + 3) (Bv := w.heap.size + 5) (sep := semiB) (s0 := s) (by omega) rfl (by omega) rfl ⟨by omega, by omega⟩ (by simp) (by simp) (by simp) ?caps rfl
      (ParseI w w.heap.size (w.heap.size + 3)) (ParseX w w.heap.size) (ParseI.own (Nat.le_refl _) (by simp; omega)) (ParseX.own (Nat.le_refl _) (by simp; omega)) (fun pre W v h => h.set (by omega) v) (fun pre W h => hS.of_below h.2.1) ?start
      (fun x => { tmps := #[.string s, undef, .pointer (some ⟨w.heap.size, 0, none⟩), .pointer (some ⟨w.heap.size + 1, 0, none⟩), .pointer (some ⟨w.heap.size + 1 + 1, 0, none⟩), .string x, undef, undef, .string s, .bool false, .string s, .func (.func 55) #[] #[.pointer (some ⟨w.heap.size + 4, 0, none⟩), .pointer (some ⟨w.heap.size + 3, 0, none⟩), .pointer (some ⟨w.heap.size + 5, 0, none⟩)], .string x, undef, undef, undef, undef, undef, undef, undef, undef, undef, undef, undef, undef], defers := [] }) ?assign ?body ?done ?stop
    case caps => exact ⟨(b4.alloc _).cell, ((b3.alloc _).alloc _).cell, b5.cell, ((b3.alloc _).alloc _).frozen⟩
    case start => exact ⟨⟨_, ((b2.alloc _).alloc _).alloc _, World.ownsRow_nil _ _ _ _, trivial⟩, hB0, ((((b0.alloc _).alloc _).alloc _).alloc _).alloc _, (((b1.alloc _).alloc _).alloc _).alloc _, ⟨_, (b3.alloc _).alloc _⟩, ⟨_, b4.alloc _⟩, ⟨_, b5⟩, rfl⟩
    case assign =>
      intro l x W K hK
      gi_wp2
      exact hK
    case done =>
      rintro D W hD ⟨⟨v, hv, hrow, _⟩, hB, hr1, hr2, _, _, _, hall⟩ hK
      obtain ⟨A, nn, cc, rfl⟩ := owns_slice hrow
      have hc := hv.cell
      have hc1 := hr1.cell
      have hf1 := hr1.frozen
      have hc2 := hr2.cell
      have hf2 := hr2.frozen
      gi_wp2
      have hDs : w.heap.size + 6 ≤ D := by simp at hD; omega
      have hK2 := (Below.heap_setCell (W.setCell ⟨w.heap.size, 0, none⟩ (.slice A nn cc)) ⟨w.heap.size + 1, 0, none⟩ (.bool true) D (by show D ≠ w.heap.size + 1; omega)).trans ((Below.heap_setCell W ⟨w.heap.size, 0, none⟩ (.slice A nn cc) D (by show D ≠ w.heap.size; omega)).trans hK)
      have k1 : Boxed ((W.setCell ⟨w.heap.size, 0, none⟩ (.slice A nn cc)).setCell ⟨w.heap.size + 1, 0, none⟩ (.bool true)) w.heap.size 34 (.slice A nn cc) := (hr1.set _).other (by omega) _
      have k2 : Boxed ((W.setCell ⟨w.heap.size, 0, none⟩ (.slice A nn cc)).setCell ⟨w.heap.size + 1, 0, none⟩ (.bool true)) (w.heap.size + 1) 4 (.bool true) := (hr2.other (by omega) _).set _
      have g1 := hrow.kept (grownBy_setCell' W w.heap.size (.slice A nn cc)) (.inr (hr1.not_row (by decide) hrow).symm)
      have g2 := g1.kept (grownBy_setCell' _ (w.heap.size + 1) (.bool true)) (.inr ((hr2.other (B' := w.heap.size) (by omega) (.slice A nn cc)).not_row (by decide) g1).symm)
      have hB2 := (hB.setCell (p := ⟨w.heap.size, 0, none⟩) (Nat.le_refl _) (.slice A nn cc)).setCell (p := ⟨w.heap.size + 1, 0, none⟩) (by show w.heap.size ≤ w.heap.size + 1; omega) (.bool true)
      generalize (W.setCell ⟨w.heap.size, 0, none⟩ (.slice A nn cc)).setCell ⟨w.heap.size + 1, 0, none⟩ (.bool true) = W2 at *
      refine ⟨by simp, .inl ⟨_, _, rfl, run_takeDeferred hK2, ?_⟩⟩
      have k3 : Boxed (W2.putObj D (.deferred none)) w.heap.size 34 (.slice A nn cc) := (World.putObj_heap_other (by omega)).trans k1
      have k4 : Boxed (W2.putObj D (.deferred none)) (w.heap.size + 1) 4 (.bool true) := (World.putObj_heap_other (by omega)).trans k2
      refine ⟨_, parse_results _ _ w.heap.size (w.heap.size + 1) rfl rfl _ _ k3.cell k4.cell, ?_⟩
      have hall' : (piecesS s).all okS = true := hall
      rw [hp, if_pos hall']
      refine ⟨_, rfl, row_of_owns ?_, hB2.trans (belowK_b (w := w) (Nat.le_refl _) W2 D _ _ (by omega) hK2 rfl rfl)⟩
      have := ownsRow_putObj g2 (.deferred none) hK2 rfl
      rw [List.length_map]
      exact this
    case stop =>
      rintro D pre W hD hpre ⟨hB, hr1, hr2, hbad⟩ hK
      have hDs : w.heap.size + 6 ≤ D := by simp at hD; omega
      gi_wp2
      refine ⟨by simp, .inl ⟨_, _, rfl, run_takeDeferred hK, ?_⟩⟩
      have k3 : Boxed (W.putObj D (.deferred none)) w.heap.size 34 (.slice none 0 0) := (World.putObj_heap_other (by omega)).trans hr1
      have k4 : Boxed (W.putObj D (.deferred none)) (w.heap.size + 1) 4 (.bool false) := (World.putObj_heap_other (by omega)).trans hr2
      refine ⟨_, parse_results _ _ w.heap.size (w.heap.size + 1) rfl rfl _ _ k3.cell k4.cell, ?_⟩
      have hall' : ¬ (piecesS s).all okS = true := by
        intro h
        rw [List.all_eq_true] at h
        rw [List.all_eq_false] at hbad
        obtain ⟨x, hx, hn⟩ := hbad
        exact hn (h x (hpre.subset hx))
      rw [hp, if_neg hall']
      exact ⟨_, rfl, Kd.R_nil _ _ _ _ _, hB.trans (belowK_b (w := w) (Nat.le_refl _) W D _ _ (by omega) hK rfl rfl)⟩
    case body =>
      rintro l pre x rest W hWs ⟨⟨v, hv, hrow, _⟩, hB, hr1, hr2, ⟨u, hbs⟩, ⟨u1, hbp⟩, ⟨u2, hbv⟩, hall⟩ hcap hpre
      obtain ⟨hxs, hpl⟩ := piece_in hpre
      obtain ⟨A, nn, cc, rfl⟩ := owns_slice hrow
      have HV := hid hv
      have HROW := hid hrow
      have HR1 := hid hr1
      have HR2 := hid hr2
      have HBS := hid hbs
      have HBP := hid hbp
      have HBV := hid hbv
      have HCAP := hid hcap
      have HB := hid hB
      have hWs6 : w.heap.size + 6 ≤ W.heap.size := by simp at hWs; omega
      clear hv hrow hr1 hr2 hbs hbp hbv hcap hB b0 b1 b2 b3 b4 b5 hB0 hWs
      cases hok : okS x with
      | false =>
        have HX := hid (show (pre ++ [x]).all okS = false by rw [List.all_append, hall]; simp [hok])
        gi_wp2_with (refine ⟨trivial, ?_⟩; gi_at_call 31; refine (CallsIn.inRound l (callsIn_wide.2 (one_any x (by omega) _ (hS.of_below HB.out)))).mono ?_; rintro e w1 ⟨rfl, hb1⟩; rw [hok]; have R1 := Boxed.alloc ((hb1.block _ HR1.out.lt).trans HR1.out) (.cells #[.string (pairS x).f0, .string (pairS x).f1] 38); have R2 := Boxed.alloc ((hb1.block _ HR2.out.lt).trans HR2.out) (.cells #[.string (pairS x).f0, .string (pairS x).f1] 38); have c1 := R1.cell; have f1 := R1.frozen; have c2 := R2.cell; have f2 := R2.frozen; have hz1 := hb1.size)
        have kO : KeepsOthers W w1 := ⟨hb1.size, fun k o hk _ => (hb1.block k (Array.getElem?_eq_some_iff.1 hk).1).trans hk⟩
        refine ⟨(((kO.trans (KeepsOthers.alloc _ _)).trans (KeepsOthers.setCell _ _ _)).trans (KeepsOthers.setCell _ _ _)).from _, ?_, ?_, ?_, HX.out⟩
        · exact (((HB.out.trans (hb1.mono HB.out.size)).alloc (by omega) _).setCell (p := ⟨w.heap.size, 0, none⟩) (Nat.le_refl _) _).setCell (p := ⟨w.heap.size + 1, 0, none⟩) (by show w.heap.size ≤ w.heap.size + 1; omega) _
        · exact (R1.set _).other (by omega) _
        · exact (R2.other (by omega) _).set _
      | true =>
        have HX := hid (show (pre ++ [x]).all okS = true by rw [List.all_append, hall]; simp [hok])
        gi_wp2_with first
          | (refine ⟨trivial, ?_⟩; gi_at_call 31; refine (CallsIn.inRound l (callsIn_wide.2 (one_any x (by omega) _ (hS.of_below HB.out)))).mono ?_; rintro e w1 ⟨rfl, hb1⟩; rw [hok]; have V1 := hid (Boxed.alloc ((hb1.block _ HV.out.lt).trans HV.out) (.cells #[.string (pairS x).f0, .string (pairS x).f1] 38)); have c1 := V1.out.cell; have hzz := hb1.size; have ROW := hid (World.ownsRow.alloc (pw_own_below HROW.out hb1) (.cells #[.string (pairS x).f0, .string (pairS x).f1] 38)))
          | (gi_at_builtin; refine Hid.out ?_)
        refine hid ?_
        refine wpListIn_append_own _ rfl _ _ 34 rfl w.heap.size 38 i0 (.agg #[.string ⟨#[]⟩, .string ⟨#[]⟩]) 2 32 Tryd.underlying34 hi hz0 hz1 hz2 rfl (by decide) _ _ _ rfl (ROW.out.alloc _) ⟨w1.heap.size + 1, 0, none⟩ 1 1 [.string (pairS x).f0, .string (pairS x).f1] rfl rfl (cell_two_new _ _ _ _ _ (by simp)) (by intro u hu; simp at hu; rcases hu with rfl | rfl <;> rfl) (show pre.length + 1 ≤ maxLen by unfold maxLen; omega) (by omega) (by simp; omega) ?_
        intro v' w2 hown' hgrow _
        obtain ⟨g', cap', rfl⟩ := ownsRow_succ hown'
        obtain ⟨hv1, hv2, hr2, hk2, hb2⟩ := V1.out.appended (by decide) ROW.out (by simp; omega) (by omega) hown' hgrow
        rename_i hdrop
        clear hdrop
        have hg2 : ((w1.alloc (.cells #[.string (pairS x).f0, .string (pairS x).f1] 38)).alloc (.cells #[.string (pairS x).f0, .string (pairS x).f1] 38)).grownBy w2 (Value.slice A nn cc).ownBlock := hgrow
        clear hgrow
        have c2 := hv1.cell
        have f2 := hv1.frozen
        have LIFT := hid (show ∀ (B : Nat) (t : TypeId) (u : Value), t ≠ 38 → B ≠ w.heap.size + 2 → Boxed W B t u → Boxed (w2.setCell ⟨w.heap.size + 2, 0, none⟩ (.slice (some ⟨g', 0, none⟩) (pre.length + 1) cap')) B t u from fun B t u ht hne h => by
          have h1 : Boxed w1 B t u := (hb1.block _ h.lt).trans h
          have h2 := (h1.alloc (.cells #[.string (pairS x).f0, .string (pairS x).f1] 38)).alloc (.cells #[.string (pairS x).f0, .string (pairS x).f1] 38)
          exact (h2.kept hg2 (h2.not_row ht (ROW.out.alloc _))).other hne _)
        have kO : KeepsOthers W w1 := ⟨hb1.size, fun k o hk _ => (hb1.block k (Array.getElem?_eq_some_iff.1 hk).1).trans hk⟩
        have KF := hid (((kO.trans (KeepsOthers.alloc _ _)).trans hk2).from (w.heap.size + 6))
        have HB3 := hid (((HB.out.trans (hb1.mono HB.out.size)).alloc (by omega) (.cells #[.string (pairS x).f0, .string (pairS x).f1] 38)).trans hb2)
        have HV2 := hid hv2
        have HR := hid hr2
        clear hv1 hv2 hr2 hk2 hb2 hg2 kO hown'
        gi_wp2
        refine ⟨?_, ?_, ⟨_, HV2.out, ?_, trivial⟩, HB3.out, LIFT.out _ _ _ (by decide) (by omega) HR1.out, LIFT.out _ _ _ (by decide) (by omega) HR2.out, ⟨_, LIFT.out _ _ _ (by decide) (by omega) HBS.out⟩, ⟨_, LIFT.out _ _ _ (by decide) (by omega) HBP.out⟩, ⟨_, LIFT.out _ _ _ (by decide) (by omega) HBV.out⟩, HX.out⟩
        · have := KF.out
          simpa using this
        · exact HCAP.out.of_heap ((LIFT.out _ _ _ (by decide) (by omega) HBP.out).trans HBP.out.symm) ((LIFT.out _ _ _ (by decide) (by omega) HBS.out).trans HBS.out.symm) ((LIFT.out _ _ _ (by decide) (by omega) HBV.out).trans HBV.out.symm)
        · have := HR.out
          simpa [cells2] using this
end Go.Proofs.YtipbgnhhmgljnaaDoor.Split

/-
Lines of a head: what http.Lines and the document's own come to.
resp.Print, resp.Reason.
-/
import Derived.Test.YthdiiiopjkaifaaGreatDoorZdPlb
import Derived.Test.YthdiiiopjkaifaaGreatDoorZdPall4
import Derived.Test.YthdiiiopjkaifaaGreatDoorZdPall6
import Derived.Test.YthdiiiopjkaifaaGreatDoorZdShelf
import Derived.Test.YthdiiiopjkaifaaGreatDoorZdReason
import Derived.Test.YthdiiiopjkaifaaGreatDoorZdPall0
import Derived.Deep.RegionWith
import Derived.Lib.ItoaLen
section
namespace Go.Proofs.YthdiiiopjkaifaaGreatDoor.Pl
open Go.RowKit Go.Proofs.YthdiiiopjkaifaaGreatDoor.Pall Go.Proofs.YthdiiiopjkaifaaGreatDoorW.PrintWords Go.Proofs.YthdiiiopjkaifaaGreatDoorW.PrintLast
set_option linter.unusedVariables false
set_option linter.unusedSimpArgs false
theorem first_at (p : Nat → Bool) : ∀ n, (∃ i, i < n ∧ p i = true ∧ ∀ j, j < i → p j = false) ∨ ∀ i, i < n → p i = false
 | 0 => .inr (fun i h => by omega)
 | n + 1 => by
  rcases first_at p n with ⟨i, h1, h2, h3⟩ | h
  ·exact .inl ⟨i, by omega, h2, h3⟩
  ·cases hp : p n with
   | true => exact .inl ⟨n, by omega, hp, h⟩
   | false => exact .inr (fun i hi => by by_cases e : i = n; (· subst e; exact hp); exact h i (by omega))
def crlf (l : List UInt8) (i : Nat) : Bool := decide (i + 1 < l.length) && (l.getD i 0 == 13 && l.getD (i + 1) 0 == 10)
theorem occ_crlf (l : List UInt8) (i : Nat) : Lib.occAt l [13, 10] i = crlf l i := by
 unfold Lib.occAt crlf
 by_cases h : i + 1 < l.length
 ·rw [decide_eq_true h, Bool.true_and, List.drop_eq_getElem_cons (by omega), List.drop_eq_getElem_cons h, List.getD, List.getD, List.getElem?_eq_getElem (by omega), List.getElem?_eq_getElem h]
  show (((13 : UInt8) == _) && (((10 : UInt8) == _) && _)) = ((_ == (13 : UInt8)) && (_ == (10 : UInt8)))
  rw [List.isPrefixOf, Bool.and_true, Option.getD_some, Option.getD_some]
  congr 1
  ·rw [Bool.eq_iff_iff, beq_iff_eq, beq_iff_eq]; exact eq_comm
  ·rw [Bool.eq_iff_iff, beq_iff_eq, beq_iff_eq]; exact eq_comm
 ·rw [decide_eq_false h, Bool.false_and]
  by_cases h2 : i < l.length
  ·rw [List.drop_eq_getElem_cons h2, List.drop_of_length_le (by omega)]
   simp [List.isPrefixOf]
  ·rw [List.drop_of_length_le (by omega)]; rfl
theorem crlf_cut (l : List UInt8) : (∃ i, crlf l i = true ∧ (∀ j, j < i → crlf l j = false) ∧ i + 1 < l.length ∧ Lib.cut l [13, 10] = (l.take i, l.drop (i + 2), true)) ∨ ((∀ i, crlf l i = false) ∧ Lib.cut l [13, 10] = (l, [], false)) := by
 rcases first_at (crlf l) l.length with ⟨i, h1, h2, h3⟩ | h
 ·have hi : i + 1 < l.length := by unfold crlf at h2; simp at h2; exact h2.1
  refine .inl ⟨i, h2, h3, hi, ?_⟩
  have e := Lib.index_first (s := l) (sub := [13, 10]) (i := i) (by omega) (by rw [occ_crlf]; exact h2) (fun j hj => by rw [occ_crlf]; exact h3 j hj)
  unfold Lib.cut
  rw [e, if_pos (by omega), Int.toNat_natCast]; rfl
 ·have h' : ∀ i, crlf l i = false := fun i => by
   by_cases hi : i < l.length
   ·exact h i hi
   ·unfold crlf; rw [decide_eq_false (by omega)]; rfl
  refine .inr ⟨h', ?_⟩
  have e := Lib.index_none (s := l) (sub := [13, 10]) (fun j _ => by rw [occ_crlf]; exact h' j)
  unfold Lib.cut
  rw [e, if_neg (by decide)]
/-- lines up to an empty one, how many bytes stand behind it, and whether there is one -/
def linesK : Nat → List UInt8 → List ByteArray → List ByteArray × Nat × Bool
 | 0, _, _ => ([], 0, false)
 | k + 1, l, out => if (Lib.cut l [13, 10]).2.2 = true then (if (Lib.cut l [13, 10]).1 = [] then (out, (Lib.cut l [13, 10]).2.1.length, true) else linesK k (Lib.cut l [13, 10]).2.1 (out ++ [mkB (Lib.cut l [13, 10]).1])) else ([], 0, false)
def linesS (l : List UInt8) : List ByteArray × Nat × Bool := linesK (l.length + 1) l []
def lnR (n : Nat) (r : List ByteArray × Nat × Bool) : List ByteArray × Int × Bool := if r.2.2 = true then (r.1, (n : Int) - (r.2.1 : Int), true) else ([], 0, false)
theorem linesK_no (k : Nat) {l : List UInt8} (out : List ByteArray) (h : Lib.cut l [13, 10] = (l, [], false)) : linesK (k + 1) l out = ([], 0, false) := by
 rw [linesK, h]; rfl
theorem linesK_end (k : Nat) {l x : List UInt8} (out : List ByteArray) (h : Lib.cut l [13, 10] = ([], x, true)) : linesK (k + 1) l out = (out, x.length, true) := by
 rw [linesK, h]; rfl
theorem linesK_more (k : Nat) {l a x : List UInt8} (out : List ByteArray) (h : Lib.cut l [13, 10] = (a, x, true)) (ha : a ≠ []) : linesK (k + 1) l out = linesK k x (out ++ [mkB a]) := by
 rw [linesK, h]
 simp only [if_true, if_neg ha]
theorem linesK_len : ∀ (k : Nat) (l : List UInt8) (out : List ByteArray), (linesK k l out).2.1 ≤ l.length := by
 intro k
 induction k with
 | zero => intro l out; exact Nat.zero_le _
 | succ k ih =>
  intro l out
  rcases crlf_cut l with ⟨i, h1, h2, hi, hc⟩ | ⟨_, hc⟩
  ·by_cases h0 : l.take i = []
   ·rw [h0] at hc; rw [linesK_end _ _ hc]; show (l.drop (i + 2)).length ≤ _; rw [List.length_drop]; omega
   ·rw [linesK_more _ _ hc h0]
    have := ih (l.drop (i + 2)) (out ++ [mkB (l.take i)])
    rw [List.length_drop] at this; omega
  ·rw [linesK_no _ _ hc]; exact Nat.zero_le _
theorem linesS_len (l : List UInt8) : (linesS l).2.1 ≤ l.length := linesK_len _ _ _
theorem linesK_count : ∀ (k : Nat) (l : List UInt8) (out : List ByteArray), (linesK k l out).1.length ≤ out.length + l.length := by
 intro k
 induction k with
 | zero => intro l out; exact Nat.zero_le _
 | succ k ih =>
  intro l out
  rcases crlf_cut l with ⟨i, h1, h2, hi, hc⟩ | ⟨_, hc⟩
  ·by_cases h0 : l.take i = []
   ·rw [h0] at hc; rw [linesK_end _ _ hc]; exact Nat.le_add_right _ _
   ·rw [linesK_more _ _ hc h0]
    have := ih (l.drop (i + 2)) (out ++ [mkB (l.take i)])
    rw [List.length_drop, List.length_append] at this
    simp only [List.length_cons, List.length_nil] at this; omega
  ·rw [linesK_no _ _ hc]; exact Nat.zero_le _
theorem httpLines_loop (x0 : List Int) (hx : x0.length < 4294967281) : ∀ n (l : List UInt8) (out : List ByteArray), l.length ≤ n → l.length ≤ x0.length → out.length + l.length ≤ 4294967281 →
  Ev (fun k => http_Lines.l0 k x0 out (mkB l)) (lnR x0.length (linesK (n + 1) l out)) := by
 intro n
 induction n with
 | zero =>
  intro l out hl hx0 ho
  obtain rfl := List.eq_nil_of_length_eq_zero (Nat.le_zero.1 hl)
  refine Ev.step (f := fun _ => some _) (fun k => ?_) (Ev.now _)
  simp only [http_Lines.l0, strings_Cut.f]
  rfl
 | succ n ih =>
  intro l out hl hx0 ho
  have hs : (mkB l).size < 4294967281 := by rw [mkB_size]; omega
  rcases crlf_cut l with ⟨i, h1, h2, hi, hc⟩ | ⟨_, hc⟩
  ·by_cases h0 : l.take i = []
   ·rw [h0] at hc
    rw [linesK_end _ _ hc]
    refine Ev.step (f := fun _ => some _) (fun k => ?_) (Ev.now _)
    simp only [http_Lines.l0, strings_Cut.f]
    rw [if_pos hs]
    show (Option.some (mkB (Lib.cut l [13, 10]).1, mkB (Lib.cut l [13, 10]).2.1, (Lib.cut l [13, 10]).2.2)).bind _ = _
    rw [hc, Option.bind_some]
    simp only [if_true]
    rw [if_pos (show (mkB []).toList = [] by rw [ByteArray.toList_eq]; rfl), mkB_size, wrap_id (by rw [List.length_drop]; omega) (by omega)]
    rfl
   ·rw [linesK_more _ _ hc h0]
    have hne : ¬ (mkB (l.take i)).toList = [] := fun h => h0 (by rw [ByteArray.toList_eq] at h; exact h)
    refine Ev.step (f := fun k => http_Lines.l0 k x0 (out ++ [mkB (l.take i)]) (mkB (l.drop (i + 2)))) (fun k => ?_) (ih _ _ (by rw [List.length_drop]; omega) (by rw [List.length_drop]; omega) (by rw [List.length_append, List.length_drop]; simp only [List.length_cons, List.length_nil]; omega))
    simp only [http_Lines.l0, strings_Cut.f]
    rw [if_pos hs]
    show (Option.some (mkB (Lib.cut l [13, 10]).1, mkB (Lib.cut l [13, 10]).2.1, (Lib.cut l [13, 10]).2.2)).bind _ = _
    rw [hc, Option.bind_some]
    simp only [if_true]
    rw [if_neg hne, if_pos (by omega)]
  ·rw [linesK_no _ _ hc]
   refine Ev.step (f := fun _ => some _) (fun k => ?_) (Ev.now _)
   simp only [http_Lines.l0, strings_Cut.f]
   rw [if_pos hs]
   show (Option.some (mkB (Lib.cut l [13, 10]).1, mkB (Lib.cut l [13, 10]).2.1, (Lib.cut l [13, 10]).2.2)).bind _ = _
   rw [hc]; rfl
theorem httpLines_ev (x0 : List Int) (hx : x0.length < 4294967281) : Ev (fun k => http_Lines.f k x0) (lnR x0.length (linesS (strOfNums x0).data.toList)) := by
 have hl : (strOfNums x0).data.toList.length = x0.length := by rw [strOfNums_data, List.length_map]
 have h := httpLines_loop x0 hx x0.length (strOfNums x0).data.toList [] (by omega) (by omega) (by rw [hl]; simp; omega)
 unfold linesS
 rw [hl]
 exact h
/-- a text's bytes as the numbers that a row of bytes has -/
def numsL (bs : List UInt8) : List Int := bs.map fun c => (c.toNat : Int)
end Go.Proofs.YthdiiiopjkaifaaGreatDoor.Pl
end
section
namespace Go.Proofs.YthdiiiopjkaifaaGreatDoor.Pl
open Go.RowKit Go.Proofs.YthdiiiopjkaifaaGreatDoor.Pall Go.Proofs.YthdiiiopjkaifaaGreatDoorW.PrintWords Go.Proofs.YthdiiiopjkaifaaGreatDoorW.PrintLast
set_option linter.unusedVariables false
set_option linter.unusedSimpArgs false
/-- the box of a response -/
structure Bx (w W : World) (o : Array Value) : Prop where
 bel : Below w.heap.size w W
 box : W.heap[w.heap.size]? = some (.cells o 71 (0, 0))
theorem Bx.new (w : World) (o : Array Value) : Bx w (w.alloc (.cells o 71)) o := ⟨(Below.refl _ _).alloc (Nat.le_refl _) _, blk_new w _⟩
theorem Bx.below {w W W' : World} {o : Array Value} (h : Bx w W o) (hb : Below W.heap.size W W') : Bx w W' o := ⟨h.bel.trans (hb.mono h.bel.size), blk_below h.box hb⟩
theorem Bx.cells {w W : World} {a b c : Value} (h : Bx w W #[a, b, c]) : W.cell? ⟨w.heap.size, 0, none⟩ = some a ∧ W.cell? ⟨w.heap.size, 1, none⟩ = some b ∧ W.cell? ⟨w.heap.size, 2, none⟩ = some c := ⟨blk_cell h.box 0, blk_cell h.box 1, blk_cell h.box 2⟩
/-- what stands while a response is printed -/
structure Bf (w W : World) (o : Array Value) (b : Nat) (l : List UInt8) : Prop where
 bx : Bx w W o
 buf : Lib.IsBuffer 231 5 b b (Lib.byteCells l) W
 lt : w.heap.size < b
 ge : b < W.heap.size
theorem buf_below {T e : TypeId} {B b : Nat} {bs : List Value} {W W' : World} (h : Lib.IsBuffer T e B b bs W) (hb : Below W.heap.size W W') : Lib.IsBuffer T e B b bs W' := by
 obtain ⟨h0, v, lr, h1, h2, h3⟩ := h
 refine ⟨h0, v, lr, blk_below h1 hb, ⟨h2.1, ?_⟩, h3⟩
 rcases h2.2 with h | ⟨g, cap, cur, e1, e2, e3, e4⟩
 ·exact .inl h
 ·exact .inr ⟨g, cap, cur, e1, e2, blk_below e3 hb, e4⟩
theorem Bf.below {w W W' : World} {o : Array Value} {b : Nat} {l : List UInt8} (h : Bf w W o b l) (hb : Below W.heap.size W W') : Bf w W' o b l :=
 ⟨h.bx.below hb, buf_below h.buf hb, h.lt, Nat.lt_of_lt_of_le h.ge hb.size⟩
theorem Bf.new {w W : World} {o : Array Value} (h : Bx w W o) : Bf w (W.alloc (.cells #[.slice none 0 0, .int .i64 0, .int .i8 0] 231)) o W.heap.size [] :=
 ⟨h.below ((Below.refl _ _).alloc (Nat.le_refl _) _), Lib.fresh_isBuffer _ _ W, blk_lt h.box, by show _ < (W.heap.push _).size; simp⟩
theorem Bx.drew {w W : World} {o : Array Value} (h : Bx w W o) : Bx w W.drew o := ⟨h.bel.drew, h.box⟩
theorem Bf.drew {w W : World} {o : Array Value} {b : Nat} {l : List UInt8} (h : Bf w W o b l) : Bf w W.drew o b l := ⟨h.bx.drew, h.buf, h.lt, h.ge⟩
theorem byteCells_app (a b : List UInt8) : Lib.byteCells (a ++ b) = Lib.byteCells a ++ Lib.byteCells b := by unfold Lib.byteCells; rw [List.map_append]
theorem byteCells_one {l : List UInt8} : ∀ v ∈ Lib.byteCells l, v.oneCell' = true := by
 intro v hv
 unfold Lib.byteCells at hv
 obtain ⟨c, _, rfl⟩ := List.mem_map.1 hv
 rfl
theorem Bf.put {w W : World} {o : Array Value} {b : Nat} {l : List UInt8} (h : Bf w W o b l) (s : ByteArray) (hz : l.length + s.size ≤ 140737488355328) :
  Calls Tryz.prog 151 #[.pointer (some ⟨b, 0, none⟩), .string s] W fun e w' => e = .returned (.tuple #[.int .i64 s.size, .nilIface]) ∧ Bf w w' o b (l ++ s.data.toList) := by
 refine (Tryz.Buffer_WriteString b b (Lib.byteCells l) s W h.buf (Nat.le_of_lt h.ge) byteCells_one (by unfold Lib.byteCells; rw [List.length_map]; exact hz)).mono ?_
 rintro e w' ⟨rfl, h1, h2⟩
 exact ⟨rfl, ⟨h.bx.bel.trans (h2.mono (Nat.le_of_lt h.lt)), (h2.block _ h.lt).trans h.bx.box⟩, by rw [byteCells_app]; exact h1, h.lt, Nat.lt_of_lt_of_le h.ge h2.size⟩
set_option maxRecDepth 100000 in
set_option maxHeartbeats 1000000 in
theorem write_nil (b : Nat) (bs : List Value) (A : Option Addr) (c : Nat) (W : World) (h : Lib.IsBuffer 231 5 b b bs W) :
  Calls Tryz.prog 153 #[.pointer (some ⟨b, 0, none⟩), .slice A 0 c] W fun e w' => (∃ v, e = .returned v) ∧ Lib.IsBuffer 231 5 b b bs w' ∧ Below b W w' := by
 have hu := Tryz.underlying231
 have h' := h.setLast 0
 obtain ⟨-, v0, lr, hbk, -, -⟩ := id h
 have c2 : W.cell? ⟨b, 2, none⟩ = some (.int .i8 lr) := blk_cell hbk 2
 have f2 : W.frozen? ⟨b, 2, none⟩ = false := blk_frozen hbk 2
 have hbel0 : Below b W (W.setCell ⟨b, 2, none⟩ (.int .i8 0)) := (Below.refl b W).setCell (p := ⟨b, 2, none⟩) (Nat.le_refl _) _
 clear hbk v0 h
 have hce : ∀ d dLen dCap W, (Builtin.copy_ #[23, 23] 3 #[.slice d dLen dCap, .slice A 0 c]).run Tryz.prog W = .ok (goInt 0) W := fun d dLen dCap W => run_copy_none W 23 23 3 5 d A dLen dCap 0 c Tryz.underlying23 (by kernel_rfl) (Nat.zero_min _)
 have HT := hid (fun W hW => Tryz.Buffer_tryGrow b b 0 bs W hW)
 go_enter Tryz.func153, Tryz.ntmps153
 go_wp2_with (go_at_call 201; refine (HT.out _ ?_).mono ?_)
 ·exact h'
 rintro e W1 (⟨rfl, xs, hxl, hI, hbel⟩ | ⟨rfl, rfl, hnr⟩)
 ·clear h' c2 f2 HT
  obtain rfl := List.eq_nil_of_length_eq_zero hxl
  rw [List.append_nil] at hI
  have hbe := hbel0.trans hbel
  clear hbel0 hbel
  obtain ⟨_, v, lr2, hbk2, hv, _⟩ := id hI
  have d0 : W1.cell? ⟨b, 0, none⟩ = some v := blk_cell hbk2 0
  rcases hv.2 with ⟨rfl, hn0⟩ | ⟨g, cap, cur, rfl, _, _, hnc, hcm, _⟩
  ·obtain rfl := List.eq_nil_of_length_eq_zero hn0
   go_wp2
   all_goals (go_ret2; exact ⟨⟨_, rfl⟩, hI, hbe⟩)
  ·unfold maxLen at hcm
   go_wp2
   all_goals (go_ret2; exact ⟨⟨_, rfl⟩, hI, hbe⟩)
 ·obtain ⟨_, _, _, _, hlt⟩ := hnr
  omega
theorem Bf.write {w W : World} {o : Array Value} {b : Nat} {l : List UInt8} (h : Bf w W o b l) (A : Option Addr) (c : Nat) (bs : List Int) (hC : Kd.C (Kd.int .u8) w A bs.length bs) (hz : l.length + bs.length ≤ 140737488355328) :
  Calls Tryz.prog 153 #[.pointer (some ⟨b, 0, none⟩), .slice A bs.length c] W fun e w' => (∃ v, e = .returned v) ∧ Below w.heap.size w w' ∧ Lib.IsBuffer 231 5 b b (encs (Value.int .u8) (numsL l ++ bs)) w' ∧ w.heap.size ≤ b := by
 have he : encs (Value.int .u8) (numsL l ++ bs) = Lib.byteCells l ++ bs.map (Value.int .u8) := by unfold encs numsL Lib.byteCells; rw [List.map_append, List.map_map]; rfl
 rw [he]
 cases bs with
 | nil =>
  refine (write_nil b _ A c W h.buf).mono ?_
  rintro e w' ⟨h1, h2, h3⟩
  exact ⟨h1, h.bx.bel.trans (h3.mono (Nat.le_of_lt h.lt)), by rw [List.map_nil, List.append_nil]; exact h2, Nat.le_of_lt h.lt⟩
 | cons x bs =>
  obtain ⟨a, rfl, h0⟩ := Kd.at_int hC 0 (by omega) (by simp)
  have hall : ∀ v ∈ (x :: bs).map (Value.int .u8), v.oneCell' = true := by
   intro v hv
   obtain ⟨x, _, rfl⟩ := List.mem_map.1 hv
   rfl
  have hlt : a.block < w.heap.size := World.block_lt_of_cell? _ _ h0
  refine (Tryz.Buffer_Write b b (Lib.byteCells l) ((x :: bs).map (Value.int .u8)) a (x :: bs).length c W h.buf (Nat.le_of_lt h.ge) byteCells_one (by rw [List.length_map]) (Nat.lt_trans hlt h.lt) ?_ hall (by unfold Lib.byteCells; rw [List.length_map]; exact hz)).mono ?_
  ·intro j v hv
   rw [List.getElem?_map] at hv
   obtain ⟨y, hy, rfl⟩ := Option.map_eq_some_iff.1 hv
   have hj : j < (x :: bs).length := (List.getElem?_eq_some_iff.1 hy).1
   obtain ⟨ad, h1, h2⟩ := Kd.at_int hC j (by omega) (by omega)
   injection h1 with h1
   subst h1
   rw [Int.toNat_natCast] at h2
   rw [h.bx.bel.cell (World.block_lt_of_cell? _ _ h2), h2]
   unfold rd
   rw [Int.toNat_natCast, List.getD, hy]; rfl
  ·rintro e w' ⟨h1, h2, h3⟩
   exact ⟨⟨_, h1⟩, h.bx.bel.trans (h3.mono (Nat.le_of_lt h.lt)), h2, Nat.le_of_lt h.lt⟩
def fsErr : List S76 → Int
 | [] => 0
 | p :: l => if (printS p.f0 p.f1).2 = 0 then fsErr l else (printS p.f0 p.f1).2
def fsTxt (l : List S76) : List UInt8 := l.flatMap fun p => (printS p.f0 p.f1).1.data.toList ++ [13, 10]
def hdT (st : Int) : List UInt8 := [72, 84, 84, 80, 47, 49, 46, 49, 32] ++ Lib.itoa st ++ [32] ++ (reasonS st).data.toList ++ [13, 10]
def lenT (n : Nat) : List UInt8 := [67, 111, 110, 116, 101, 110, 116, 45, 76, 101, 110, 103, 116, 104, 58, 32] ++ Lib.itoa n ++ [13, 10] ++ [13, 10]
/-- what resp.Print answers -/
def prS (st : Int) (fs : List S76) (body : List Int) : List Int × Int :=
 if reasonS st = ⟨#[]⟩ then ([], 1) else if 4000 < body.length ∨ 40 < fs.length then ([], 3) else if fsErr fs ≠ 0 then ([], fsErr fs)
 else (numsL (hdT st ++ fsTxt fs ++ lenT body.length) ++ body, 0)
def PrGot (w : World) (r : List Int × Int) (e : Ending) (w' : World) : Prop := ∃ v1_ : Value, e = .returned (.tuple #[v1_, .int .u16 r.2]) ∧ Kd.R (Kd.int .u8) 5 w' w.heap.size (fun _ => True) v1_ r.1 ∧ Below w.heap.size w w'
set_option maxRecDepth 100000 in
set_option maxHeartbeats 2000000 in
theorem rprint_bad (st : Int) (A1 : Option Addr) (n1 c1 : Nat) (A2 : Option Addr) (n2 c2 : Nat) (w : World) (h : reasonS st = ⟨#[]⟩ ∨ 4000 < n2 ∨ 40 < n1) :
  Calls Tryz.prog 105 #[.agg #[.int .i64 st, .slice A1 n1 c1, .slice A2 n2 c2]] w (PrGot w ([], if reasonS st = ⟨#[]⟩ then 1 else 3)) := by
 have hu := Tryz.underlying71
 have HX0 := hid (Bx.new w #[.int .i64 st, .slice A1 n1 c1, .slice A2 n2 c2])
 have HR := hid (fun W => reason_any st W)
 by_cases hz : reasonS st = ⟨#[]⟩
 ·rw [if_pos hz]
  rw [hz] at HR
  go_enter Tryz.func105, Tryz.ntmps105
  go_wp2_with (go_at_call 72; refine (HR.out _).mono ?_; rintro e w1 ⟨rfl, hb⟩; have HX := hid (HX0.out.below hb); clear hb)
  go_ret2
  exact ⟨_, rfl, Kd.R_nil _ _ _ _ _, HX.out.bel⟩
 ·rw [if_neg hz]
  have hz2 : (reasonS st).toList.isEmpty = false := by
   rw [ByteArray.toList_eq]
   cases hd : (reasonS st).data.toList with
   | nil => exact absurd (ba_ext hd) hz
   | cons a l => rfl
  generalize reasonS st = rs at *
  by_cases h4 : (4000 : Int) < (n2 : Int)
  all_goals
   have h5 : (n2 : Int) ≤ 4000 → (40 : Int) < (n1 : Int) := by
    intro hh; rcases h with h | h | h; exact absurd h hz; omega; omega
   clear h
   go_enter Tryz.func105, Tryz.ntmps105
   go_wp2_with (go_at_call 72; refine (HR.out _).mono ?_; rintro e w1 ⟨rfl, hb⟩; have HX := hid (HX0.out.below hb); have hx := HX.out.cells; obtain ⟨x0, x1, x2⟩ := hx; clear hb)
  ·go_ret2
   exact ⟨_, rfl, Kd.R_nil _ _ _ _ _, HX.out.bel⟩
  ·go_ret2
   exact ⟨_, rfl, Kd.R_nil _ _ _ _ _, HX.out.bel⟩
theorem itoa_len (n : Int) (h0 : -9223372036854775808 ≤ n) (h1 : n ≤ 9223372036854775807) : (Lib.itoa n).length ≤ 21 := Lib.itoa_length_le n h0 h1
theorem itoa_any (n : Int) (w : World) (hT : Tb w) (h0 : -9223372036854775808 ≤ n) (h1 : n ≤ 9223372036854775807) :
  Calls Tryz.prog 112 #[.int .i64 n] w fun e w' => e = .returned (.string ⟨(Lib.itoa n).toArray⟩) ∧ Below w.heap.size w w' :=
 strconv_Itoa.calls n _ w hT (by unfold strconv_Itoa.f; rw [if_pos ⟨h0, h1⟩])
theorem reason_st {st : Int} (h : reasonS st ≠ ⟨#[]⟩) : 200 ≤ st ∧ st ≤ 503 := by
 unfold reasonS atI at h
 cases hf : reasonsL.find? (fun p => p.1 == st) with
 | none => rw [hf] at h; exact absurd rfl h
 | some p =>
  have h1 := List.find?_some hf
  have h2 := List.mem_of_find?_eq_some hf
  have h3 : (reasonsL.all fun p => decide (200 ≤ p.1 ∧ p.1 ≤ 503)) = true := by decide
  have h4 := List.all_eq_true.1 h3 p h2
  rw [← beq_iff_eq.1 h1]
  exact of_decide_eq_true h4
theorem reason_len (st : Int) : (reasonS st).size ≤ 40 := by
 unfold reasonS atI
 cases hf : reasonsL.find? (fun p => p.1 == st) with
 | none => decide
 | some p =>
  have h2 := List.mem_of_find?_eq_some hf
  have h3 : (reasonsL.all fun p => decide (p.2.size ≤ 40)) = true := by decide
  exact of_decide_eq_true (List.all_eq_true.1 h3 p h2)
theorem hdT_len (st : Int) (h : reasonS st ≠ ⟨#[]⟩) : (hdT st).length ≤ 100 := by
 obtain ⟨h0, h1⟩ := reason_st h
 have h2 := itoa_len st (by omega) (by omega)
 have h3 : (reasonS st).data.toList.length ≤ 40 := reason_len st
 unfold hdT
 simp only [List.length_append, List.length_cons, List.length_nil]
 omega
theorem printS_len (n v : ByteArray) : (printS n v).1.data.toList.length ≤ 2000 := by
 unfold printS
 split
 ·decide
 ·split
  ·decide
  ·rename_i h; exact Nat.le_of_not_lt h
theorem fsTxt_app (l : List S76) (p : S76) : fsTxt (l ++ [p]) = fsTxt l ++ ((printS p.f0 p.f1).1.data.toList ++ [13, 10]) := by
 unfold fsTxt; rw [List.flatMap_append, List.flatMap_cons, List.flatMap_nil, List.append_nil]
theorem fsTxt_len (l : List S76) : (fsTxt l).length ≤ 2002 * l.length := by
 induction l with
 | nil => simp [fsTxt]
 | cons p l ih =>
  have h := printS_len p.f0 p.f1
  have e : fsTxt (p :: l) = (printS p.f0 p.f1).1.data.toList ++ [13, 10] ++ fsTxt l := by unfold fsTxt; rw [List.flatMap_cons]
  rw [e, List.length_append, List.length_append, List.length_cons]
  simp only [List.length_cons, List.length_nil]
  omega
end Go.Proofs.YthdiiiopjkaifaaGreatDoor.Pl
end

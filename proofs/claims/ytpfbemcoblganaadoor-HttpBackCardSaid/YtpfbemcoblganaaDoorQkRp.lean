/-
resp.Print, resp.Reason.
resp.Print, as a walk.
resp.Reason and resp.Print: their contracts in the printed form.
-/
import Derived.Test.YtpfbemcoblganaaDoorQkShelf2
import Derived.Test.YtpfbemcoblganaaDoorQkReason
import Derived.Test.YtpfbemcoblganaaDoorQkLines
import Derived.Test.YtpfbemcoblganaaDoorQkPall0
import Derived.Deep.RegionWith
import Derived.Lib.ItoaLen
section
namespace Go.Proofs.YtpfbemcoblganaaDoor.Pl
open Go.RowKit Go.Proofs.YtpfbemcoblganaaDoor.Pall Go.Proofs.YtpfbemcoblganaaDoorW.PrintWords Go.Proofs.YtpfbemcoblganaaDoorW.PrintLast
set_option linter.unusedVariables false
set_option linter.unusedSimpArgs false
/-- the box of a response -/
structure Bx (w W : World) (o : Array Value) : Prop where
  bel : Below w.heap.size w W
  box : W.heap[w.heap.size]? = some (.cells o 51 (0, 0))
theorem Bx.below {w W W' : World} {o : Array Value} (h : Bx w W o) (hb : Below W.heap.size W W') : Bx w W' o := ⟨h.bel.trans (hb.mono h.bel.size), blk_below h.box hb⟩
theorem Bx.cells {w W : World} {a b c : Value} (h : Bx w W #[a, b, c]) : W.cell? ⟨w.heap.size, 0, none⟩ = some a ∧ W.cell? ⟨w.heap.size, 1, none⟩ = some b ∧ W.cell? ⟨w.heap.size, 2, none⟩ = some c := ⟨blk_cell h.box 0, blk_cell h.box 1, blk_cell h.box 2⟩
/-- what stands while a response is printed -/
structure Bf (w W : World) (o : Array Value) (b : Nat) (l : List UInt8) : Prop where
  bx : Bx w W o
  buf : Lib.IsBuffer 90 5 b b (Lib.byteCells l) W
  lt : w.heap.size < b
  ge : b < W.heap.size
theorem buf_below {T e : TypeId} {B b : Nat} {bs : List Value} {W W' : World} (h : Lib.IsBuffer T e B b bs W) (hb : Below W.heap.size W W') : Lib.IsBuffer T e B b bs W' := by
  obtain ⟨h0, v, lr, h1, h2, h3⟩ := h
  refine ⟨h0, v, lr, blk_below h1 hb, ⟨h2.1, ?_⟩, h3⟩
  rcases h2.2 with h | ⟨g, cap, cur, e1, e2, e3, e4⟩
  · exact .inl h
  · exact .inr ⟨g, cap, cur, e1, e2, blk_below e3 hb, e4⟩
theorem Bf.below {w W W' : World} {o : Array Value} {b : Nat} {l : List UInt8} (h : Bf w W o b l) (hb : Below W.heap.size W W') : Bf w W' o b l :=
  ⟨h.bx.below hb, buf_below h.buf hb, h.lt, Nat.lt_of_lt_of_le h.ge hb.size⟩
theorem Bx.drew {w W : World} {o : Array Value} (h : Bx w W o) : Bx w W.drew o := ⟨h.bel.drew, h.box⟩
theorem Bf.drew {w W : World} {o : Array Value} {b : Nat} {l : List UInt8} (h : Bf w W o b l) : Bf w W.drew o b l := ⟨h.bx.drew, h.buf, h.lt, h.ge⟩
theorem byteCells_app (a b : List UInt8) : Lib.byteCells (a ++ b) = Lib.byteCells a ++ Lib.byteCells b := by unfold Lib.byteCells; rw [List.map_append]
theorem byteCells_one {l : List UInt8} : ∀ v ∈ Lib.byteCells l, v.oneCell' = true := by
  intro v hv
  unfold Lib.byteCells at hv
  obtain ⟨c, _, rfl⟩ := List.mem_map.1 hv
  rfl
theorem Bf.put {w W : World} {o : Array Value} {b : Nat} {l : List UInt8} (h : Bf w W o b l) (s : ByteArray) (hz : l.length + s.size ≤ 140737488355328) :
    Calls Tryd.prog 53 #[.pointer (some ⟨b, 0, none⟩), .string s] W fun e w' => e = .returned (.tuple #[.int .i64 s.size, .nilIface]) ∧ Bf w w' o b (l ++ s.data.toList) := by
  refine (Tryd.Buffer_WriteString b b (Lib.byteCells l) s W h.buf (Nat.le_of_lt h.ge) byteCells_one (by unfold Lib.byteCells; rw [List.length_map]; exact hz)).mono ?_
  rintro e w' ⟨rfl, h1, h2⟩
  exact ⟨rfl, ⟨h.bx.bel.trans (h2.mono (Nat.le_of_lt h.lt)), (h2.block _ h.lt).trans h.bx.box⟩, by rw [byteCells_app]; exact h1, h.lt, Nat.lt_of_lt_of_le h.ge h2.size⟩
set_option maxRecDepth 100000 in
set_option maxHeartbeats 1000000 in
theorem write_nil (b : Nat) (bs : List Value) (A : Option Addr) (c : Nat) (W : World) (h : Lib.IsBuffer 90 5 b b bs W) :
    Calls Tryd.prog 56 #[.pointer (some ⟨b, 0, none⟩), .slice A 0 c] W fun e w' => (∃ v, e = .returned v) ∧ Lib.IsBuffer 90 5 b b bs w' ∧ Below b W w' := by
  have hu := Tryd.underlying90
  have h' := h.setLast 0
  obtain ⟨-, v0, lr, hbk, -, -⟩ := id h
  have c2 : W.cell? ⟨b, 2, none⟩ = some (.int .i8 lr) := blk_cell hbk 2
  have f2 : W.frozen? ⟨b, 2, none⟩ = false := blk_frozen hbk 2
  have hbel0 : Below b W (W.setCell ⟨b, 2, none⟩ (.int .i8 0)) := (Below.refl b W).setCell (p := ⟨b, 2, none⟩) (Nat.le_refl _) _
  clear hbk v0 h
  have hce : ∀ d dLen dCap W, (Builtin.copy_ #[22, 22] 3 #[.slice d dLen dCap, .slice A 0 c]).run Tryd.prog W = .ok (goInt 0) W := fun d dLen dCap W => run_copy_none W 22 22 3 5 d A dLen dCap 0 c Tryd.underlying22 (by kernel_rfl) (Nat.zero_min _)
  have HT := hid (fun W hW => Tryd.Buffer_tryGrow b b 0 bs W hW)
  go_enter Tryd.func56, Tryd.ntmps56
  go_wp2_with (go_at_call 77; refine (HT.out _ ?_).mono ?_)
  · exact h'
  rintro e W1 (⟨rfl, xs, hxl, hI, hbel⟩ | ⟨rfl, rfl, hnr⟩)
  · clear h' c2 f2 HT
    obtain rfl := List.eq_nil_of_length_eq_zero hxl
    rw [List.append_nil] at hI
    have hbe := hbel0.trans hbel
    clear hbel0 hbel
    obtain ⟨_, v, lr2, hbk2, hv, _⟩ := id hI
    have d0 : W1.cell? ⟨b, 0, none⟩ = some v := blk_cell hbk2 0
    rcases hv.2 with ⟨rfl, hn0⟩ | ⟨g, cap, cur, rfl, _, _, hnc, hcm, _⟩
    · obtain rfl := List.eq_nil_of_length_eq_zero hn0
      go_wp2
      all_goals (go_ret2; exact ⟨⟨_, rfl⟩, hI, hbe⟩)
    · unfold maxLen at hcm
      go_wp2
      all_goals (go_ret2; exact ⟨⟨_, rfl⟩, hI, hbe⟩)
  · obtain ⟨_, _, _, _, hlt⟩ := hnr
    omega
def fsErr : List S43 → Int
  | [] => 0
  | p :: l => if (printS p.f0 p.f1).2 = 0 then fsErr l else (printS p.f0 p.f1).2
def fsTxt (l : List S43) : List UInt8 := l.flatMap fun p => (printS p.f0 p.f1).1.data.toList ++ [13, 10]
def hdT (st : Int) : List UInt8 := [72, 84, 84, 80, 47, 49, 46, 49, 32] ++ Lib.itoa st ++ [32] ++ (reasonS st).data.toList ++ [13, 10]
def lenT (n : Nat) : List UInt8 := [67, 111, 110, 116, 101, 110, 116, 45, 76, 101, 110, 103, 116, 104, 58, 32] ++ Lib.itoa n ++ [13, 10] ++ [13, 10]
/-- what resp.Print answers -/
def prS (st : Int) (fs : List S43) (body : List Int) : List Int × Int :=
  if reasonS st = ⟨#[]⟩ then ([], 1) else if 4000 < body.length ∨ 40 < fs.length then ([], 3) else if fsErr fs ≠ 0 then ([], fsErr fs)
  else (numsL (hdT st ++ fsTxt fs ++ lenT body.length) ++ body, 0)
theorem printS_len (n v : ByteArray) : (printS n v).1.data.toList.length ≤ 2000 := by
  unfold printS
  split
  · decide
  · split
    · decide
    · rename_i h; exact Nat.le_of_not_lt h
theorem fsTxt_app (l : List S43) (p : S43) : fsTxt (l ++ [p]) = fsTxt l ++ ((printS p.f0 p.f1).1.data.toList ++ [13, 10]) := by
  unfold fsTxt; rw [List.flatMap_append, List.flatMap_cons, List.flatMap_nil, List.append_nil]
theorem fsTxt_len (l : List S43) : (fsTxt l).length ≤ 2002 * l.length := by
  induction l with
  | nil => simp [fsTxt]
  | cons p l ih =>
    have h := printS_len p.f0 p.f1
    have e : fsTxt (p :: l) = (printS p.f0 p.f1).1.data.toList ++ [13, 10] ++ fsTxt l := by unfold fsTxt; rw [List.flatMap_cons]
    rw [e, List.length_append, List.length_append, List.length_cons]
    simp only [List.length_cons, List.length_nil]
    omega
end Go.Proofs.YtpfbemcoblganaaDoor.Pl
end
section
namespace Go.Proofs.YtpfbemcoblganaaDoor.Pl
open Go.RowKit Go.Proofs.YtpfbemcoblganaaDoor.Pall Go.Proofs.YtpfbemcoblganaaDoorW.PrintWords Go.Proofs.YtpfbemcoblganaaDoorW.PrintLast
set_option linter.unusedVariables false
set_option linter.unusedSimpArgs false
theorem rdPr (l : List S43) (i : Nat) : rd_T43 l (i : Int) = l.getD i z43 := by unfold rd_T43; rw [Int.toNat_natCast]
theorem getD_memP {α : Type} (l : List α) (d : α) {i : Nat} (h : i < l.length) : l.getD i d ∈ l := by
  rw [List.getD, List.getElem?_eq_getElem h]; exact List.getElem_mem h
theorem take_next (fs : List S43) (j : Nat) (hj : j < fs.length) : fs.take (j + 1) = fs.take j ++ [fs.getD j z43] := by
  rw [List.take_succ_eq_append_getElem hj, List.getD, List.getElem?_eq_getElem hj]; rfl
end Go.Proofs.YtpfbemcoblganaaDoor.Pl
end
section
namespace Go.Proofs.YtpfbemcoblganaaDoor.Pall
open Go.RowKit Go.Proofs.YtpfbemcoblganaaDoorW.PrintWords Go.Proofs.YtpfbemcoblganaaDoorW.PrintLast Go.Proofs.YtpfbemcoblganaaDoor.Pl
set_option linter.unusedVariables false
def smallF (l : List S43) : Bool := l.all fun p => decide (p.f0.size ≤ 140737488351232 ∧ p.f1.size ≤ 140737488351232)
def resp_Print.f (a0_0 : Int) (l0_1 : List S43) (l0_2 : List Int) : Option (List Int × Int) := if smallF l0_1 then some (prS a0_0 l0_1 l0_2) else none
end Go.Proofs.YtpfbemcoblganaaDoor.Pall
end

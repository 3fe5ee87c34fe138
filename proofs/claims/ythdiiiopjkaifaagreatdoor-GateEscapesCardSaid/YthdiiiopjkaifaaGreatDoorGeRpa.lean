/-
gate.Page as the printed functions call it.
resp.Print, resp.Reason.
-/
import Derived.Test.YthdiiiopjkaifaaGreatDoorGeGpage
import Derived.Test.YthdiiiopjkaifaaGreatDoorGeShelf
import Derived.Test.YthdiiiopjkaifaaGreatDoorGeReason
import Derived.Test.YthdiiiopjkaifaaGreatDoorGeLines
import Derived.Test.YthdiiiopjkaifaaGreatDoorGePall0
import Derived.Deep.RegionWith
import Derived.Lib.ItoaLen
section
namespace Go.Proofs.YthdiiiopjkaifaaGreatDoor.Pall
open Go.RowKit Go.Proofs.YthdiiiopjkaifaaGreatDoor.Pl Go.Proofs.YthdiiiopjkaifaaGreatDoorW.PrintWords
set_option linter.unusedVariables false
def gate_Page.f (a0_0 a0_1 a0_2 a0_3 : Int) (l0_4 : List Int) (a1_0 : Int) (a1_1 : ByteArray) (a1_2 : Bool) (a1_3 a1_4 a1_5 : ByteArray) : Option (Int × List S76 × List Int) :=
 if a1_3.size ≤ 1000000 ∧ a1_4.size ≤ 1000000 ∧ a1_5.size ≤ 1000000 then (pgF a0_1 a1_1 a1_2).bind fun l => resp_Page.f a1_0 ⟨(pgB a1_0 a1_3 a1_4 a1_5).toArray⟩ l else none
theorem gate_Page.calls (a0_0 a0_1 a0_2 a0_3 : Int) (A0_4 : Option Addr) (c0_4 : Nat) (l0_4 : List Int) (a1_0 : Int) (a1_1 : ByteArray) (a1_2 : Bool) (a1_3 a1_4 a1_5 : ByteArray) (r1 : Int) (r2 : List S76) (r3 : List Int) (w : World) (hr : Kd.C (Kd.int .u8) w A0_4 l0_4.length l0_4) (hc : l0_4.length ≤ c0_4) (hT : Tb w) (h : gate_Page.f a0_0 a0_1 a0_2 a0_3 l0_4 a1_0 a1_1 a1_2 a1_3 a1_4 a1_5 = some (r1, r2, r3)) :
  Calls Tryz.prog 34 #[.agg #[.int .u64 a0_0, .int .u64 a0_1, .int .u64 a0_2, .int .i64 a0_3, .slice A0_4 l0_4.length c0_4], .agg #[.int .i64 a1_0, .string a1_1, .bool a1_2, .string a1_3, .string a1_4, .string a1_5]] w fun e w' => ∃ v1_ v2_ : Value, e = .returned (.agg #[.int .i64 r1, v1_, v2_]) ∧ Kd.R k76 76 w' w.heap.size (fun k_ => (w.heap.size ≤ k_)) v1_ r2 ∧ Kd.V (Kd.int .u8) 5 w' w.heap.size (fun k_ => (w.heap.size ≤ k_) ∧ some k_ ≠ (v1_ : Value).ownBlock) v2_ r3 ∧ Below w.heap.size w w' := by
 unfold gate_Page.f at h
 split at h
 ·rename_i hz
  obtain ⟨l, hl, hr⟩ := Option.bind_eq_some_iff.1 h
  exact page_any _ _ _ _ _ _ _ _ _ _ _ w hT l hl r1 r2 r3 hr hz.1 hz.2.1 hz.2.2
 ·cases h
end Go.Proofs.YthdiiiopjkaifaaGreatDoor.Pall
end
section
namespace Go.Proofs.YthdiiiopjkaifaaGreatDoor.Pl
open Go.RowKit Go.Proofs.YthdiiiopjkaifaaGreatDoor.Pall Go.Proofs.YthdiiiopjkaifaaGreatDoorW.PrintWords Go.Proofs.YthdiiiopjkaifaaGreatDoorW.PrintLast
set_option linter.unusedVariables false
set_option linter.unusedSimpArgs false
/-- the box of a response -/
structure Bx (w W : World) (o : Array Value) : Prop where
 bel : Below w.heap.size w W
 box : W.heap[w.heap.size]? = some (.cells o 71 (0, 0))
theorem Bx.new (w : World) (o : Array Value) : Bx w (w.alloc (.cells o 71)) o := ⟨(Below.refl _ _).alloc (Nat.le_refl _) _, blk_new w _⟩
theorem Bx.below {w W W' : World} {o : Array Value} (h : Bx w W o) (hb : Below W.heap.size W W') : Bx w W' o := ⟨h.bel.trans (hb.mono h.bel.size), blk_below h.box hb⟩
theorem Bx.cells {w W : World} {a b c : Value} (h : Bx w W #[a, b, c]) : W.cell? ⟨w.heap.size, 0, none⟩ = some a ∧ W.cell? ⟨w.heap.size, 1, none⟩ = some b ∧ W.cell? ⟨w.heap.size, 2, none⟩ = some c := ⟨blk_cell h.box 0, blk_cell h.box 1, blk_cell h.box 2⟩
/-- what stands while a response is printed -/
structure Bf (w W : World) (o : Array Value) (b : Nat) (l : List UInt8) : Prop where
 bx : Bx w W o
 buf : Lib.IsBuffer 231 5 b b (Lib.byteCells l) W
 lt : w.heap.size < b
 ge : b < W.heap.size
theorem buf_below {T e : TypeId} {B b : Nat} {bs : List Value} {W W' : World} (h : Lib.IsBuffer T e B b bs W) (hb : Below W.heap.size W W') : Lib.IsBuffer T e B b bs W' := by
 obtain ⟨h0, v, lr, h1, h2, h3⟩ := h
 refine ⟨h0, v, lr, blk_below h1 hb, ⟨h2.1, ?_⟩, h3⟩
 rcases h2.2 with h | ⟨g, cap, cur, e1, e2, e3, e4⟩
 ·exact .inl h
 ·exact .inr ⟨g, cap, cur, e1, e2, blk_below e3 hb, e4⟩
theorem Bf.below {w W W' : World} {o : Array Value} {b : Nat} {l : List UInt8} (h : Bf w W o b l) (hb : Below W.heap.size W W') : Bf w W' o b l :=
 ⟨h.bx.below hb, buf_below h.buf hb, h.lt, Nat.lt_of_lt_of_le h.ge hb.size⟩
theorem Bf.new {w W : World} {o : Array Value} (h : Bx w W o) : Bf w (W.alloc (.cells #[.slice none 0 0, .int .i64 0, .int .i8 0] 231)) o W.heap.size [] :=
 ⟨h.below ((Below.refl _ _).alloc (Nat.le_refl _) _), Lib.fresh_isBuffer _ _ W, blk_lt h.box, by show _ < (W.heap.push _).size; simp⟩
theorem Bx.drew {w W : World} {o : Array Value} (h : Bx w W o) : Bx w W.drew o := ⟨h.bel.drew, h.box⟩
theorem Bf.drew {w W : World} {o : Array Value} {b : Nat} {l : List UInt8} (h : Bf w W o b l) : Bf w W.drew o b l := ⟨h.bx.drew, h.buf, h.lt, h.ge⟩
theorem byteCells_app (a b : List UInt8) : Lib.byteCells (a ++ b) = Lib.byteCells a ++ Lib.byteCells b := by unfold Lib.byteCells; rw [List.map_append]
theorem byteCells_one {l : List UInt8} : ∀ v ∈ Lib.byteCells l, v.oneCell' = true := by
 intro v hv
 unfold Lib.byteCells at hv
 obtain ⟨c, _, rfl⟩ := List.mem_map.1 hv
 rfl
theorem Bf.put {w W : World} {o : Array Value} {b : Nat} {l : List UInt8} (h : Bf w W o b l) (s : ByteArray) (hz : l.length + s.size ≤ 140737488355328) :
  Calls Tryz.prog 151 #[.pointer (some ⟨b, 0, none⟩), .string s] W fun e w' => e = .returned (.tuple #[.int .i64 s.size, .nilIface]) ∧ Bf w w' o b (l ++ s.data.toList) := by
 refine (Tryz.Buffer_WriteString b b (Lib.byteCells l) s W h.buf (Nat.le_of_lt h.ge) byteCells_one (by unfold Lib.byteCells; rw [List.length_map]; exact hz)).mono ?_
 rintro e w' ⟨rfl, h1, h2⟩
 exact ⟨rfl, ⟨h.bx.bel.trans (h2.mono (Nat.le_of_lt h.lt)), (h2.block _ h.lt).trans h.bx.box⟩, by rw [byteCells_app]; exact h1, h.lt, Nat.lt_of_lt_of_le h.ge h2.size⟩
set_option maxRecDepth 100000 in
set_option maxHeartbeats 1000000 in
theorem write_nil (b : Nat) (bs : List Value) (A : Option Addr) (c : Nat) (W : World) (h : Lib.IsBuffer 231 5 b b bs W) :
  Calls Tryz.prog 153 #[.pointer (some ⟨b, 0, none⟩), .slice A 0 c] W fun e w' => (∃ v, e = .returned v) ∧ Lib.IsBuffer 231 5 b b bs w' ∧ Below b W w' := by
 have hu := Tryz.underlying231
 have h' := h.setLast 0
 obtain ⟨-, v0, lr, hbk, -, -⟩ := id h
 have c2 : W.cell? ⟨b, 2, none⟩ = some (.int .i8 lr) := blk_cell hbk 2
 have f2 : W.frozen? ⟨b, 2, none⟩ = false := blk_frozen hbk 2
 have hbel0 : Below b W (W.setCell ⟨b, 2, none⟩ (.int .i8 0)) := (Below.refl b W).setCell (p := ⟨b, 2, none⟩) (Nat.le_refl _) _
 clear hbk v0 h
 have hce : ∀ d dLen dCap W, (Builtin.copy_ #[23, 23] 3 #[.slice d dLen dCap, .slice A 0 c]).run Tryz.prog W = .ok (goInt 0) W := fun d dLen dCap W => run_copy_none W 23 23 3 5 d A dLen dCap 0 c Tryz.underlying23 (by kernel_rfl) (Nat.zero_min _)
 have HT := hid (fun W hW => Tryz.Buffer_tryGrow b b 0 bs W hW)
 go_enter Tryz.func153, Tryz.ntmps153
 go_wp2_with (go_at_call 201; refine (HT.out _ ?_).mono ?_)
 ·exact h'
 rintro e W1 (⟨rfl, xs, hxl, hI, hbel⟩ | ⟨rfl, rfl, hnr⟩)
 ·clear h' c2 f2 HT
  obtain rfl := List.eq_nil_of_length_eq_zero hxl
  rw [List.append_nil] at hI
  have hbe := hbel0.trans hbel
  clear hbel0 hbel
  obtain ⟨_, v, lr2, hbk2, hv, _⟩ := id hI
  have d0 : W1.cell? ⟨b, 0, none⟩ = some v := blk_cell hbk2 0
  rcases hv.2 with ⟨rfl, hn0⟩ | ⟨g, cap, cur, rfl, _, _, hnc, hcm, _⟩
  ·obtain rfl := List.eq_nil_of_length_eq_zero hn0
   go_wp2
   all_goals (go_ret2; exact ⟨⟨_, rfl⟩, hI, hbe⟩)
  ·unfold maxLen at hcm
   go_wp2
   all_goals (go_ret2; exact ⟨⟨_, rfl⟩, hI, hbe⟩)
 ·obtain ⟨_, _, _, _, hlt⟩ := hnr
  omega
theorem Bf.write {w W : World} {o : Array Value} {b : Nat} {l : List UInt8} (h : Bf w W o b l) (A : Option Addr) (c : Nat) (bs : List Int) (hC : Kd.C (Kd.int .u8) w A bs.length bs) (hz : l.length + bs.length ≤ 140737488355328) :
  Calls Tryz.prog 153 #[.pointer (some ⟨b, 0, none⟩), .slice A bs.length c] W fun e w' => (∃ v, e = .returned v) ∧ Below w.heap.size w w' ∧ Lib.IsBuffer 231 5 b b (encs (Value.int .u8) (numsL l ++ bs)) w' ∧ w.heap.size ≤ b := by
 have he : encs (Value.int .u8) (numsL l ++ bs) = Lib.byteCells l ++ bs.map (Value.int .u8) := by unfold encs numsL Lib.byteCells; rw [List.map_append, List.map_map]; rfl
 rw [he]
 cases bs with
 | nil =>
  refine (write_nil b _ A c W h.buf).mono ?_
  rintro e w' ⟨h1, h2, h3⟩
  exact ⟨h1, h.bx.bel.trans (h3.mono (Nat.le_of_lt h.lt)), by rw [List.map_nil, List.append_nil]; exact h2, Nat.le_of_lt h.lt⟩
 | cons x bs =>
  obtain ⟨a, rfl, h0⟩ := Kd.at_int hC 0 (by omega) (by simp)
  have hall : ∀ v ∈ (x :: bs).map (Value.int .u8), v.oneCell' = true := by
   intro v hv
   obtain ⟨x, _, rfl⟩ := List.mem_map.1 hv
   rfl
  have hlt : a.block < w.heap.size := World.block_lt_of_cell? _ _ h0
  refine (Tryz.Buffer_Write b b (Lib.byteCells l) ((x :: bs).map (Value.int .u8)) a (x :: bs).length c W h.buf (Nat.le_of_lt h.ge) byteCells_one (by rw [List.length_map]) (Nat.lt_trans hlt h.lt) ?_ hall (by unfold Lib.byteCells; rw [List.length_map]; exact hz)).mono ?_
  ·intro j v hv
   rw [List.getElem?_map] at hv
   obtain ⟨y, hy, rfl⟩ := Option.map_eq_some_iff.1 hv
   have hj : j < (x :: bs).length := (List.getElem?_eq_some_iff.1 hy).1
   obtain ⟨ad, h1, h2⟩ := Kd.at_int hC j (by omega) (by omega)
   injection h1 with h1
   subst h1
   rw [Int.toNat_natCast] at h2
   rw [h.bx.bel.cell (World.block_lt_of_cell? _ _ h2), h2]
   unfold rd
   rw [Int.toNat_natCast, List.getD, hy]; rfl
  ·rintro e w' ⟨h1, h2, h3⟩
   exact ⟨⟨_, h1⟩, h.bx.bel.trans (h3.mono (Nat.le_of_lt h.lt)), h2, Nat.le_of_lt h.lt⟩
def fsErr : List S76 → Int
 | [] => 0
 | p :: l => if (printS p.f0 p.f1).2 = 0 then fsErr l else (printS p.f0 p.f1).2
def fsTxt (l : List S76) : List UInt8 := l.flatMap fun p => (printS p.f0 p.f1).1.data.toList ++ [13, 10]
def hdT (st : Int) : List UInt8 := [72, 84, 84, 80, 47, 49, 46, 49, 32] ++ Lib.itoa st ++ [32] ++ (reasonS st).data.toList ++ [13, 10]
def lenT (n : Nat) : List UInt8 := [67, 111, 110, 116, 101, 110, 116, 45, 76, 101, 110, 103, 116, 104, 58, 32] ++ Lib.itoa n ++ [13, 10] ++ [13, 10]
/-- what resp.Print answers -/
def prS (st : Int) (fs : List S76) (body : List Int) : List Int × Int :=
 if reasonS st = ⟨#[]⟩ then ([], 1) else if 4000 < body.length ∨ 40 < fs.length then ([], 3) else if fsErr fs ≠ 0 then ([], fsErr fs)
 else (numsL (hdT st ++ fsTxt fs ++ lenT body.length) ++ body, 0)
def PrGot (w : World) (r : List Int × Int) (e : Ending) (w' : World) : Prop := ∃ v1_ : Value, e = .returned (.tuple #[v1_, .int .u16 r.2]) ∧ Kd.R (Kd.int .u8) 5 w' w.heap.size (fun _ => True) v1_ r.1 ∧ Below w.heap.size w w'
set_option maxRecDepth 100000 in
set_option maxHeartbeats 2000000 in
theorem rprint_bad (st : Int) (A1 : Option Addr) (n1 c1 : Nat) (A2 : Option Addr) (n2 c2 : Nat) (w : World) (h : reasonS st = ⟨#[]⟩ ∨ 4000 < n2 ∨ 40 < n1) :
  Calls Tryz.prog 105 #[.agg #[.int .i64 st, .slice A1 n1 c1, .slice A2 n2 c2]] w (PrGot w ([], if reasonS st = ⟨#[]⟩ then 1 else 3)) := by
 have hu := Tryz.underlying71
 have HX0 := hid (Bx.new w #[.int .i64 st, .slice A1 n1 c1, .slice A2 n2 c2])
 have HR := hid (fun W => reason_any st W)
 by_cases hz : reasonS st = ⟨#[]⟩
 ·rw [if_pos hz]
  rw [hz] at HR
  go_enter Tryz.func105, Tryz.ntmps105
  go_wp2_with (go_at_call 72; refine (HR.out _).mono ?_; rintro e w1 ⟨rfl, hb⟩; have HX := hid (HX0.out.below hb); clear hb)
  go_ret2
  exact ⟨_, rfl, Kd.R_nil _ _ _ _ _, HX.out.bel⟩
 ·rw [if_neg hz]
  have hz2 : (reasonS st).toList.isEmpty = false := by
   rw [ByteArray.toList_eq]
   cases hd : (reasonS st).data.toList with
   | nil => exact absurd (ba_ext hd) hz
   | cons a l => rfl
  generalize reasonS st = rs at *
  by_cases h4 : (4000 : Int) < (n2 : Int)
  all_goals
   have h5 : (n2 : Int) ≤ 4000 → (40 : Int) < (n1 : Int) := by
    intro hh; rcases h with h | h | h; exact absurd h hz; omega; omega
   clear h
   go_enter Tryz.func105, Tryz.ntmps105
   go_wp2_with (go_at_call 72; refine (HR.out _).mono ?_; rintro e w1 ⟨rfl, hb⟩; have HX := hid (HX0.out.below hb); have hx := HX.out.cells; obtain ⟨x0, x1, x2⟩ := hx; clear hb)
  ·go_ret2
   exact ⟨_, rfl, Kd.R_nil _ _ _ _ _, HX.out.bel⟩
  ·go_ret2
   exact ⟨_, rfl, Kd.R_nil _ _ _ _ _, HX.out.bel⟩
theorem itoa_len (n : Int) (h0 : -9223372036854775808 ≤ n) (h1 : n ≤ 9223372036854775807) : (Lib.itoa n).length ≤ 21 := Lib.itoa_length_le n h0 h1
theorem itoa_any (n : Int) (w : World) (hT : Tb w) (h0 : -9223372036854775808 ≤ n) (h1 : n ≤ 9223372036854775807) :
  Calls Tryz.prog 112 #[.int .i64 n] w fun e w' => e = .returned (.string ⟨(Lib.itoa n).toArray⟩) ∧ Below w.heap.size w w' :=
 strconv_Itoa.calls n _ w hT (by unfold strconv_Itoa.f; rw [if_pos ⟨h0, h1⟩])
theorem reason_st {st : Int} (h : reasonS st ≠ ⟨#[]⟩) : 200 ≤ st ∧ st ≤ 503 := by
 unfold reasonS atI at h
 cases hf : reasonsL.find? (fun p => p.1 == st) with
 | none => rw [hf] at h; exact absurd rfl h
 | some p =>
  have h1 := List.find?_some hf
  have h2 := List.mem_of_find?_eq_some hf
  have h3 : (reasonsL.all fun p => decide (200 ≤ p.1 ∧ p.1 ≤ 503)) = true := by decide
  have h4 := List.all_eq_true.1 h3 p h2
  rw [← beq_iff_eq.1 h1]
  exact of_decide_eq_true h4
theorem reason_len (st : Int) : (reasonS st).size ≤ 40 := by
 unfold reasonS atI
 cases hf : reasonsL.find? (fun p => p.1 == st) with
 | none => decide
 | some p =>
  have h2 := List.mem_of_find?_eq_some hf
  have h3 : (reasonsL.all fun p => decide (p.2.size ≤ 40)) = true := by decide
  exact of_decide_eq_true (List.all_eq_true.1 h3 p h2)
theorem hdT_len (st : Int) (h : reasonS st ≠ ⟨#[]⟩) : (hdT st).length ≤ 100 := by
 obtain ⟨h0, h1⟩ := reason_st h
 have h2 := itoa_len st (by omega) (by omega)
 have h3 : (reasonS st).data.toList.length ≤ 40 := reason_len st
 unfold hdT
 simp only [List.length_append, List.length_cons, List.length_nil]
 omega
theorem printS_len (n v : ByteArray) : (printS n v).1.data.toList.length ≤ 2000 := by
 unfold printS
 split
 ·decide
 ·split
  ·decide
  ·rename_i h; exact Nat.le_of_not_lt h
theorem fsTxt_app (l : List S76) (p : S76) : fsTxt (l ++ [p]) = fsTxt l ++ ((printS p.f0 p.f1).1.data.toList ++ [13, 10]) := by
 unfold fsTxt; rw [List.flatMap_append, List.flatMap_cons, List.flatMap_nil, List.append_nil]
theorem fsTxt_len (l : List S76) : (fsTxt l).length ≤ 2002 * l.length := by
 induction l with
 | nil => simp [fsTxt]
 | cons p l ih =>
  have h := printS_len p.f0 p.f1
  have e : fsTxt (p :: l) = (printS p.f0 p.f1).1.data.toList ++ [13, 10] ++ fsTxt l := by unfold fsTxt; rw [List.flatMap_cons]
  rw [e, List.length_append, List.length_append, List.length_cons]
  simp only [List.length_cons, List.length_nil]
  omega
end Go.Proofs.YthdiiiopjkaifaaGreatDoor.Pl
end

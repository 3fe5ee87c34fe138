/-
  http.Print: what it prints, and the boxes that stand meanwhile.
-/
import Derived.Test.YtpfbemcoblganaaGreatDoorQzShelf
import Derived.Test.YtpfbemcoblganaaGreatDoorQzRpa
import Derived.Test.YtpfbemcoblganaaGreatDoorQzHp
import Derived.Test.YtpfbemcoblganaaGreatDoorQzPall9
import Derived.Deep.RegionWith
namespace Go.Proofs.YtpfbemcoblganaaGreatDoor.Pl
open Go.RowKit Go.Proofs.YtpfbemcoblganaaGreatDoor.Pall Go.Proofs.YtpfbemcoblganaaGreatDoorW.PrintWords Go.Proofs.YtpfbemcoblganaaGreatDoorW.PrintLast
set_option linter.unusedVariables false
set_option linter.unusedSimpArgs false
theorem rdPr (l : List S34) (i : Nat) : rd_T34 l (i : Int) = l.getD i z34 := by unfold rd_T34; rw [Int.toNat_natCast]
theorem getD_memP {α : Type} (l : List α) (d : α) {i : Nat} (h : i < l.length) : l.getD i d ∈ l := by
  rw [List.getD, List.getElem?_eq_getElem h]; exact List.getElem_mem h
theorem take_next (fs : List S34) (j : Nat) (hj : j < fs.length) : fs.take (j + 1) = fs.take j ++ [fs.getD j z34] := by
  rw [List.take_succ_eq_append_getElem hj, List.getD, List.getElem?_eq_getElem hj]; rfl
/-- a request's bytes -/
def reqL (m p : ByteArray) (fs : List S34) : List UInt8 := m.data.toList ++ [32] ++ p.data.toList ++ [32, 72, 84, 84, 80, 47, 49, 46, 49, 13, 10] ++ fsTxt fs ++ [13, 10]
def reqT (m p : ByteArray) (fs : List S34) (body : List Int) : List Int := numsL (reqL m p fs) ++ body
theorem reqL_len (m p : ByteArray) (fs : List S34) : (reqL m p fs).length ≤ m.size + p.size + 14 + 2002 * fs.length := by
  have h := fsTxt_len fs
  have h1 : m.data.toList.length = m.size := rfl
  have h2 : p.data.toList.length = p.size := rfl
  unfold reqL
  simp only [List.length_append, List.length_cons, List.length_nil]
  omega
/-- what stands while a request is printed: its box, and the buffer -/
structure Bq (w W : World) (o : Array Value) (b : Nat) (l : List UInt8) : Prop where
  bel : Below w.heap.size w W
  box : W.heap[w.heap.size]? = some (.cells o 25 (0, 0))
  buf : Lib.IsBuffer 71 5 b b (Lib.byteCells l) W
  lt : w.heap.size < b
  ge : b < W.heap.size
theorem Bq.below {w W W' : World} {o : Array Value} {b : Nat} {l : List UInt8} (h : Bq w W o b l) (hb : Below W.heap.size W W') : Bq w W' o b l :=
  ⟨h.bel.trans (hb.mono h.bel.size), blk_below h.box hb, buf_below h.buf hb, h.lt, Nat.lt_of_lt_of_le h.ge hb.size⟩
theorem Bq.new (w : World) (o : Array Value) : Bq w ((w.alloc (.cells o 25)).alloc (.cells #[.slice none 0 0, .int .i64 0, .int .i8 0] 71)) o (w.heap.size + 1) [] := by
  have hb : Below (w.alloc (.cells o 25)).heap.size (w.alloc (.cells o 25)) ((w.alloc (.cells o 25)).alloc (.cells #[.slice none 0 0, .int .i64 0, .int .i8 0] 71)) := (Below.refl _ _).alloc (Nat.le_refl _) _
  have h0 : Below w.heap.size w (w.alloc (.cells o 25)) := (Below.refl _ _).alloc (Nat.le_refl _) _
  have hz : (w.alloc (.cells o 25)).heap.size = w.heap.size + 1 := by show (w.heap.push _).size = _; simp
  have h1 := Lib.fresh_isBuffer 71 5 (w.alloc (.cells o 25))
  rw [hz] at h1
  exact ⟨h0.trans (hb.mono h0.size), blk_below (blk_new w _) hb, h1, by omega, by show _ < ((w.heap.push _).push _).size; simp⟩
theorem Bq.cells {w W : World} {a b c d : Value} {n : Nat} {l : List UInt8} (h : Bq w W #[a, b, c, d] n l) : W.cell? ⟨w.heap.size, 0, none⟩ = some a ∧ W.cell? ⟨w.heap.size, 1, none⟩ = some b ∧ W.cell? ⟨w.heap.size, 2, none⟩ = some c ∧ W.cell? ⟨w.heap.size, 3, none⟩ = some d :=
  ⟨blk_cell h.box 0, blk_cell h.box 1, blk_cell h.box 2, blk_cell h.box 3⟩
theorem Bq.put {w W : World} {o : Array Value} {b : Nat} {l : List UInt8} (h : Bq w W o b l) (s : ByteArray) (hz : l.length + s.size ≤ 140737488355328) :
    Calls Tryz.prog 34 #[.pointer (some ⟨b, 0, none⟩), .string s] W fun e w' => e = .returned (.tuple #[.int .i64 s.size, .nilIface]) ∧ Bq w w' o b (l ++ s.data.toList) := by
  refine (Tryz.Buffer_WriteString b b (Lib.byteCells l) s W h.buf (Nat.le_of_lt h.ge) byteCells_one (by unfold Lib.byteCells; rw [List.length_map]; exact hz)).mono ?_
  rintro e w' ⟨rfl, h1, h2⟩
  exact ⟨rfl, h.bel.trans (h2.mono (Nat.le_of_lt h.lt)), (h2.block _ h.lt).trans h.box, by rw [byteCells_app]; exact h1, h.lt, Nat.lt_of_lt_of_le h.ge h2.size⟩
theorem Bq.write {w W : World} {o : Array Value} {b : Nat} {l : List UInt8} (h : Bq w W o b l) (A : Option Addr) (c : Nat) (bs : List UInt8) (hC : Kd.C (Kd.int .u8) w A (numsL bs).length (numsL bs)) (hz : l.length + bs.length ≤ 140737488355328) :
    Calls Tryz.prog 37 #[.pointer (some ⟨b, 0, none⟩), .slice A (numsL bs).length c] W fun e w' => (∃ v, e = .returned v) ∧ Bq w w' o b (l ++ bs) := by
  have he : Lib.byteCells (l ++ bs) = Lib.byteCells l ++ (numsL bs).map (Value.int .u8) := by unfold numsL Lib.byteCells; rw [List.map_append, List.map_map]; rfl
  cases bs with
  | nil =>
    refine (write_nil b _ A c W h.buf).mono ?_
    rintro e w' ⟨h1, h2, h3⟩
    exact ⟨h1, h.bel.trans (h3.mono (Nat.le_of_lt h.lt)), (h3.block _ h.lt).trans h.box, by rw [List.append_nil]; exact h2, h.lt, Nat.lt_of_lt_of_le h.ge h3.size⟩
  | cons x bs =>
    obtain ⟨a, rfl, h0⟩ := Kd.at_int hC 0 (by omega) (by rw [numsL_len, List.length_cons]; omega)
    have hall : ∀ v ∈ (numsL (x :: bs)).map (Value.int .u8), v.oneCell' = true := by
      intro v hv
      obtain ⟨x, _, rfl⟩ := List.mem_map.1 hv
      rfl
    have hlt : a.block < w.heap.size := World.block_lt_of_cell? _ _ h0
    refine (Tryz.Buffer_Write b b (Lib.byteCells l) ((numsL (x :: bs)).map (Value.int .u8)) a (numsL (x :: bs)).length c W h.buf (Nat.le_of_lt h.ge) byteCells_one (by rw [List.length_map]) (Nat.lt_trans hlt h.lt) ?_ hall (by rw [numsL_len]; unfold Lib.byteCells; rw [List.length_map]; exact hz)).mono ?_
    · intro j v hv
      rw [List.getElem?_map] at hv
      obtain ⟨y, hy, rfl⟩ := Option.map_eq_some_iff.1 hv
      have hj : j < (numsL (x :: bs)).length := (List.getElem?_eq_some_iff.1 hy).1
      obtain ⟨ad, h1, h2⟩ := Kd.at_int hC j (by omega) (by omega)
      injection h1 with h1
      subst h1
      rw [Int.toNat_natCast] at h2
      rw [h.bel.cell (World.block_lt_of_cell? _ _ h2), h2]
      unfold rd
      rw [Int.toNat_natCast, List.getD, hy]; rfl
    · rintro e w' ⟨h1, h2, h3⟩
      exact ⟨⟨_, h1⟩, h.bel.trans (h3.mono (Nat.le_of_lt h.lt)), (h3.block _ h.lt).trans h.box, by rw [he]; exact h2, h.lt, Nat.lt_of_lt_of_le h.ge h3.size⟩
theorem Bq.bytes {w W : World} {o : Array Value} {b : Nat} {l : List UInt8} (h : Bq w W o b l) :
    Calls Tryz.prog 38 #[.pointer (some ⟨b, 0, none⟩)] W fun e w' => ∃ v, e = .returned v ∧ Kd.R (Kd.int .u8) 5 w' w.heap.size (fun _ => True) v (numsL l) ∧ Bq w w' o b l := by
  refine (Tryz.Buffer_Bytes _ _ _ _ h.buf).mono ?_
  rintro e w' ⟨v, rfl, hown, n, rfl⟩
  have he : Lib.byteCells l = encs (Value.int .u8) (numsL l) := by unfold encs numsL Lib.byteCells; rw [List.map_map]; rfl
  refine ⟨v, rfl, ?_, h.below (bN (Below.refl _ _) n)⟩
  refine Kd.R_lower (Kd.R_of_own (h1 := fun _ => rfl) ?_ (fun _ _ => trivial)) (Nat.le_of_lt h.lt)
  rw [he] at hown
  simpa [encs] using hown
/-- what http.Print answers, if the two are the same, or not -/
def HpGot (w : World) (r : List Int × Int) (e : Ending) (w' : World) : Prop := ∃ v1_ : Value, e = .returned (.tuple #[v1_, .int .u16 r.2]) ∧ Kd.R (Kd.int .u8) 5 w' w.heap.size (fun _ => True) v1_ r.1 ∧ Below w.heap.size w w'
end Go.Proofs.YtpfbemcoblganaaGreatDoor.Pl

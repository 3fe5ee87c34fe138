/-
  A row of bytes of the call's own, made out of a text: what each byte is, through stores and calls.
-/
import Derived.Test.YtipbgnhhmgljnaaDoorPl11
namespace Go.Proofs.YtipbgnhhmgljnaaDoor.Pl
open Go.RowKit Go.Proofs.YtipbgnhhmgljnaaDoor.Pall Go.Proofs.YtipbgnhhmgljnaaDoor.Split Go.Proofs.YtipbgnhhmgljnaaDoorW.PrintWords
set_option linter.unusedVariables false
set_option linter.unusedSimpArgs false
/-- a row of bytes of the call's own: what each is -/
structure ByteRow (w0 : World) (b : Nat) (W : World) (n : Nat) (f : Nat → UInt8) : Prop where
  cell : ∀ j, j < n → W.cell? ⟨b, j, none⟩ = some (.int .u8 (f j).toNat)
  free : ∀ j, j < n → W.frozen? ⟨b, j, none⟩ = false
  below : Below w0.heap.size w0 W
  old : w0.heap.size ≤ b
  inside : b < W.heap.size
theorem ByteRow.start (w0 w : World) (s : ByteArray) (h : Below w0.heap.size w0 w) : ByteRow w0 w.heap.size (Lib.bytesWorld w 5 s) s.size (fun j => s.data.toList.getD j 0) where
  cell j hj := Lib.bytesWorld_cell w 5 s j hj
  free j hj := by
    unfold World.frozen?
    rw [Lib.bytesWorld_at_new]
    have : s.size ≤ (Lib.bytesCells w 5 s).size := by unfold Lib.bytesCells; rw [Array.size_append, Array.size_map]; exact Nat.le_add_right _ _
    simp; omega
  below := h.trans ((below_bytes w 5 s).mono h.size)
  old := h.size
  inside := by rw [Lib.bytesWorld_size]; omega
theorem ByteRow.put {w0 W : World} {b n : Nat} {f : Nat → UInt8} (h : ByteRow w0 b W n f) {k : Nat} (hk : k < n) (v : UInt8) (x : Int) (hx : x = (v.toNat : Int)) :
    ByteRow w0 b (W.setCell ⟨b, k, none⟩ (.int .u8 x)) n (fun j => if j = k then v else f j) where
  cell j hj := by
    subst hx
    by_cases e : j = k
    · subst e; rw [World.cell?_setCell_same W _ _ (h.cell j hj), if_pos rfl]
    · rw [World.cell?_setCell_other (h := by intro e2; apply e; injection e2 with _ e3; exact e3.symm), h.cell j hj, if_neg e]
  free j hj := by rw [World.frozen?_setCell]; exact h.free j hj
  below := h.below.setCell h.old _
  old := h.old
  inside := by simp; exact h.inside
theorem ByteRow.congr {w0 W : World} {b n : Nat} {f g : Nat → UInt8} (h : ByteRow w0 b W n f) (e : ∀ j, j < n → f j = g j) : ByteRow w0 b W n g where
  cell j hj := by rw [h.cell j hj, e j hj]
  free := h.free
  below := h.below
  old := h.old
  inside := h.inside
theorem ByteRow.later {w0 W W' : World} {b n : Nat} {f : Nat → UInt8} (h : ByteRow w0 b W n f) (hb : Below W.heap.size W W') : ByteRow w0 b W' n f where
  cell j hj := (hb.cell (p := ⟨b, j, none⟩) h.inside).trans (h.cell j hj)
  free j hj := (hb.frozen (p := ⟨b, j, none⟩) h.inside).trans (h.free j hj)
  below := h.below.trans (hb.mono h.below.size)
  old := h.old
  inside := Nat.lt_of_lt_of_le h.inside hb.size
/-- as a text -/
theorem ByteRow.text {w0 W : World} {b n : Nat} {f : Nat → UInt8} (h : ByteRow w0 b W n f) (cap : Nat) (l : List UInt8) (hl : l.length = n) (hf : ∀ j, j < n → f j = l.getD j 0) :
    (convert 23 9 (.slice (some ⟨b, 0, none⟩) n cap)).run Tryd.prog W = .ok (.string (mkS l)) W := by
  have h2 := run_convert_bytes_arg (P := Tryd.prog) W 23 5 Tryd.underlying23 Tryd.underlying5 b 0 n cap (l.map fun c => (c.toNat : Int)) (by rw [List.length_map, hl]) (fun i hi => by
    rw [Nat.zero_add, h.cell i hi, hf i hi]
    have : i < l.length := by omega
    simp [List.getD, this]) 9 Tryd.underlying9
  rw [h2]
  congr 2
  exact ba_ext (by rw [strOfNums_data]; show List.map _ (List.map _ l) = l; rw [List.map_map]; exact (List.map_congr_left (fun a _ => by simp)).trans (List.map_id _))

theorem getD_mem' {α : Type} (l : List α) (d : α) {i : Nat} (h : i < l.length) : l.getD i d ∈ l := by
  rw [List.getD, List.getElem?_eq_getElem h]; exact List.getElem_mem h
end Go.Proofs.YtipbgnhhmgljnaaDoor.Pl

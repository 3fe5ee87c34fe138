/-
  Package http: a reader's first line.
-/
import Derived.Test.YtpfbemcoblganaaDoorQbHttpA
import Derived.BigRegion
import Derived.Lib.SplitLaws
namespace Go.Proofs.YtpfbemcoblganaaDoor.Pl
open Go.RowKit Go.Proofs.YtpfbemcoblganaaDoor.Pall Go.Proofs.YtpfbemcoblganaaDoorW.PrintWords Go.Proofs.YtpfbemcoblganaaDoorW.PrintLast
set_option linter.unusedVariables false
set_option linter.unusedSimpArgs false
/-- a reader's cells -/
abbrev Rd (W : World) (b : Nat) (m p : ByteArray) (fv bv lv : Value) : Prop := W.heap[b]? = some (.cells #[.string m, .string p, fv, bv, lv] 83 (0, 0))
theorem Rd.cell {W : World} {b : Nat} {m p : ByteArray} {fv bv lv : Value} (h : Rd W b m p fv bv lv) :
    W.cell? ⟨b, 0, none⟩ = some (.string m) ∧ W.cell? ⟨b, 1, none⟩ = some (.string p) ∧ W.cell? ⟨b, 2, none⟩ = some fv ∧ W.cell? ⟨b, 3, none⟩ = some bv ∧ W.cell? ⟨b, 4, none⟩ = some lv := by
  have h : W.heap[b]? = _ := h
  unfold World.cell?
  rw [h]
  exact ⟨rfl, rfl, rfl, rfl, rfl⟩
def spB : ByteArray := ⟨#[32]⟩
def wordsL (x : ByteArray) : List ByteArray := Lib.splitB spB 0 (Lib.countB x spB) x
/-- three words in a block of their own -/
structure Trio (w W : World) (g : Nat) (a1 a2 a3 : ByteArray) : Prop where
  c0 : W.cell? ⟨g, 0, none⟩ = some (.string a1)
  c1 : W.cell? ⟨g, 1, none⟩ = some (.string a2)
  c2 : W.cell? ⟨g, 2, none⟩ = some (.string a3)
  lt : g < W.heap.size
  bel : Below g w W
theorem Trio.below {w W W' : World} {g : Nat} {a1 a2 a3 : ByteArray} (h : Trio w W g a1 a2 a3) (hb : Below W.heap.size W W') : Trio w W' g a1 a2 a3 :=
  ⟨(hb.cell h.lt).trans h.c0, (hb.cell h.lt).trans h.c1, (hb.cell h.lt).trans h.c2, Nat.lt_of_lt_of_le h.lt hb.size, h.bel.trans (hb.mono (Nat.le_of_lt h.lt))⟩
end Go.Proofs.YtpfbemcoblganaaDoor.Pl

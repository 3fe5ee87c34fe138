/-
  Package http: a reader's fields.
-/
import Derived.Test.YtpfbemcoblganaaDoorQbHttpB
import Derived.Test.YtpfbemcoblganaaDoorQbFlds
import Derived.Test.YtpfbemcoblganaaDoorQbPl08v
import Derived.Deep.RegionLaw
namespace Go.Proofs.YtpfbemcoblganaaDoor.Pl
open Go.RowKit Go.Proofs.YtpfbemcoblganaaDoor.Pall Go.Proofs.YtpfbemcoblganaaDoorW.PrintWords Go.Proofs.YtpfbemcoblganaaDoorW.PrintLast
set_option linter.unusedVariables false
set_option linter.unusedSimpArgs false
theorem Rd.lt {W : World} {b : Nat} {m p : ByteArray} {fv bv lv : Value} (h : Rd W b m p fv bv lv) : b < W.heap.size := (Array.getElem?_eq_some_iff.1 h).1
theorem Rd.below {W W' : World} {b : Nat} {m p : ByteArray} {fv bv lv : Value} (h : Rd W b m p fv bv lv) (hb : Below W.heap.size W W') : Rd W' b m p fv bv lv := (hb.block _ h.lt).trans h
theorem Rd.grown {W W' : World} {b : Nat} {m p : ByteArray} {fv bv lv : Value} {row : Option Nat} (h : Rd W b m p fv bv lv) (hg : W.grownBy W' row) (hne : some b ≠ row) : Rd W' b m p fv bv lv := (hg.block _ h.lt hne).trans h
theorem Rd.alloc {W : World} {b : Nat} {m p : ByteArray} {fv bv lv : Value} (h : Rd W b m p fv bv lv) (o : Obj) : Rd (W.alloc o) b m p fv bv lv := h.below ((Below.refl _ _).alloc (Nat.le_refl _) _)
end Go.Proofs.YtpfbemcoblganaaDoor.Pl

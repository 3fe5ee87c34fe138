/-
resp.Parse: its contract in the printed form.
Package http: what is needed, and what a path may be.
Package http: a reader's first line.
Package http: a reader's fields.
-/
import Derived.Test.YtpfbemcoblganaaDoorQpRs
import Derived.Test.YtpfbemcoblganaaDoorQpExt
import Derived.Test.YtpfbemcoblganaaDoorQpPlb
import Derived.Recover
import Derived.Defers
import Derived.Tactics2
import Derived.WalkLawsBesides
import Derived.BigRegion
import Derived.Lib.SplitLaws
import Derived.Test.YtpfbemcoblganaaDoorQpFlds
import Derived.Test.YtpfbemcoblganaaDoorQpPl08v
import Derived.Deep.RegionLaw
section
namespace Go.Proofs.YtpfbemcoblganaaDoor.Pl
open Go.RowKit Go.Proofs.YtpfbemcoblganaaDoor.Pall Go.Proofs.YtpfbemcoblganaaDoorW.PrintWords Go.Proofs.YtpfbemcoblganaaDoorW.PrintLast
set_option linter.unusedVariables false
set_option linter.unusedSimpArgs false
abbrev Rsp := Int × List S43 × List Int × Int
def noRsp : Rsp := (0, [], [], 10)
/-- the status, and the fields, that lines tell -/
def stL (ls : List ByteArray) : Int := (decS ((ls.getD 0 ByteArray.empty).extract 9 12) 999).1
def fsL (ls : List ByteArray) : List S43 := (midL ls).map fldS
def goodR (l0 : List Int) (ls : List ByteArray) (bd : List Int) : Prop :=
  2 ≤ ls.length ∧ 12 ≤ (ls.getD 0 ByteArray.empty).size ∧ fldsE (midL ls) = 0 ∧ (prS (stL ls) (fsL ls) bd).2 = 0 ∧ ((strOfNums l0).toList == (strOfNums (prS (stL ls) (fsL ls) bd).1).toList) = true
instance (l0 : List Int) (ls : List ByteArray) (bd : List Int) : Decidable (goodR l0 ls bd) := by unfold goodR; infer_instance
def parseRL (l0 : List Int) (ls : List ByteArray) (bd : List Int) : Rsp := if goodR l0 ls bd then (stL ls, fsL ls, bd, 0) else noRsp
def parseR (l0 : List Int) : Rsp :=
  if (linesS (strOfNums l0).data.toList).2.2 = true then parseRL l0 (linesS (strOfNums l0).data.toList).1 (l0.drop (l0.length - (linesS (strOfNums l0).data.toList).2.1)) else noRsp
theorem parse_lines (A0 : Option Addr) (c0 : Nat) (l0 : List Int) (ls : List ByteArray) (m : Nat) (w : World) (hL : LinesOk A0 c0 l0 w ls (m : Int) true) (hS : Sh w) (hT : Tb w) (hC : Kd.C (Kd.int .u8) w A0 l0.length l0) (hc0 : l0.length ≤ c0) (hm : m ≤ l0.length) (hl0 : l0.length ≤ 4294967281) (hln : ls.length ≤ 4294967290) :
    Calls Tryd.prog 35 #[.slice A0 l0.length c0] w (RsGot w (parseRL l0 ls (l0.drop m)).1 (parseRL l0 ls (l0.drop m)).2.1 (parseRL l0 ls (l0.drop m)).2.2.1 (parseRL l0 ls (l0.drop m)).2.2.2) := by
  by_cases h1 : 2 ≤ ls.length
  · by_cases h2 : 12 ≤ (ls.getD 0 ByteArray.empty).size
    · refine rparse_go A0 c0 l0 ls m w hL h1 h2 hS hT hC hc0 hm hl0 hln _ _ _ _ ?_ ?_ ?_ ?_
      · intro h
        have hn : ¬ goodR l0 ls (l0.drop m) := fun hg => h hg.2.2.1
        unfold parseRL; rw [if_neg hn]; exact ⟨rfl, rfl, rfl, rfl⟩
      · intro _ h
        have hn : ¬ goodR l0 ls (l0.drop m) := fun hg => h hg.2.2.2.1
        unfold parseRL; rw [if_neg hn]; exact ⟨rfl, rfl, rfl, rfl⟩
      · intro _ _ h
        have hn : ¬ goodR l0 ls (l0.drop m) := fun hg => absurd (h.symm.trans hg.2.2.2.2) (by decide)
        unfold parseRL; rw [if_neg hn]; exact ⟨rfl, rfl, rfl, rfl⟩
      · intro h3 h4 h5
        have hg : goodR l0 ls (l0.drop m) := ⟨h1, h2, h3, h4, h5⟩
        unfold parseRL; rw [if_pos hg]; exact ⟨rfl, rfl, rfl, rfl⟩
    · have hn : ¬ goodR l0 ls (l0.drop m) := fun hg => h2 hg.2.1
      unfold parseRL; rw [if_neg hn]
      exact rparse_short A0 c0 l0 ls _ w hL h1 (by omega)
  · have hn : ¬ goodR l0 ls (l0.drop m) := fun hg => h1 hg.1
    unfold parseRL; rw [if_neg hn]
    exact rparse_form A0 c0 l0 ls _ true w hL (.inr (by omega))
theorem rparse_all (A0 : Option Addr) (c0 : Nat) (l0 : List Int) (w : World) (hS : Sh w) (hT : Tb w) (hC : Kd.C (Kd.int .u8) w A0 l0.length l0) (hc0 : l0.length ≤ c0) (hl0 : l0.length < 4294967281) :
    Calls Tryd.prog 35 #[.slice A0 l0.length c0] w (RsGot w (parseR l0).1 (parseR l0).2.1 (parseR l0).2.2.1 (parseR l0).2.2.2) := by
  obtain ⟨k, hk⟩ := (httpLines_ev l0 hl0).rounds
  have hlen : (strOfNums l0).data.toList.length = l0.length := by rw [strOfNums_data, List.length_map]
  have hn := linesS_len (strOfNums l0).data.toList
  have hcnt := linesK_count ((strOfNums l0).data.toList.length + 1) (strOfNums l0).data.toList []
  have hL : LinesOk A0 c0 l0 w (lnR l0.length (linesS (strOfNums l0).data.toList)).1 (lnR l0.length (linesS (strOfNums l0).data.toList)).2.1 (lnR l0.length (linesS (strOfNums l0).data.toList)).2.2 :=
    fun W hW => http_Lines.calls k A0 c0 l0 _ _ _ W (Kd.C_below hC hW) hc0 (hS.of_below hW) hk
  change (linesS (strOfNums l0).data.toList).1.length ≤ _ at hcnt
  unfold parseR
  generalize linesS (strOfNums l0).data.toList = r at *
  obtain ⟨ls, n, ok⟩ := r
  cases ok with
  | false =>
    simp only [Bool.false_eq_true, if_false]
    exact rparse_form A0 c0 l0 [] 0 false w hL (.inl rfl)
  | true =>
    simp only [if_true]
    simp only [hlen, List.length_nil, Nat.zero_add] at hn hcnt
    have hm : ((l0.length : Int) - (n : Int)) = ((l0.length - n : Nat) : Int) := by omega
    have hL2 : LinesOk A0 c0 l0 w ls ((l0.length - n : Nat) : Int) true := by
      intro W hW
      have h := hL W hW
      unfold lnR at h
      simp only [if_true, hm] at h
      exact h
    exact parse_lines A0 c0 l0 ls (l0.length - n) w hL2 hS hT hC hc0 (by omega) (by omega) (by omega)
end Go.Proofs.YtpfbemcoblganaaDoor.Pl
namespace Go.Proofs.YtpfbemcoblganaaDoor.Pall
open Go.RowKit Go.Proofs.YtpfbemcoblganaaDoor.Pl Go.Proofs.YtpfbemcoblganaaDoorW.PrintWords
def resp_Parse.f (l0 : List Int) : Option (Int × List S43 × List Int × Int) := if l0.length < 4294967281 then some (parseR l0) else none
theorem resp_Parse.calls (A0 : Option Addr) (c0 : Nat) (l0 : List Int) (r1 : Int) (r2 : List S43) (r3 : List Int) (r4 : Int) (w : World) (hr0 : Kd.C (Kd.int .u8) w A0 l0.length l0) (hc0 : l0.length ≤ c0) (hS : Sh w) (hT : Tb w) (h : resp_Parse.f l0 = some (r1, r2, r3, r4)) :
    Calls Tryd.prog 35 #[.slice A0 l0.length c0] w fun e w' => ∃ v1_ v2_ : Value, e = .returned (.tuple #[.agg #[.int .i64 r1, v1_, v2_], .int .u16 r4]) ∧ Kd.R k43 43 w' w.heap.size (fun _ => True) v1_ r2 ∧ Kd.R (Kd.int .u8) 5 w' w.heap.size (fun _ => True) v2_ r3 ∧ Below w.heap.size w w' := by
  unfold resp_Parse.f at h
  split at h
  · have h := Option.some.inj h
    have hA := rparse_all A0 c0 l0 w hS hT hr0 hc0 (by assumption)
    rw [h] at hA
    exact hA
  · cases h
end Go.Proofs.YtpfbemcoblganaaDoor.Pall
end
section
namespace Go.Proofs.YtpfbemcoblganaaDoor.Pl
open Go.RowKit Go.Proofs.YtpfbemcoblganaaDoor.Pall Go.Proofs.YtpfbemcoblganaaDoorW.PrintWords Go.Proofs.YtpfbemcoblganaaDoorW.PrintLast
set_option linter.unusedVariables false
set_option linter.unusedSimpArgs false
def pthB (c : UInt8) : Bool := decide (33 ≤ c.toNat) && decide (c.toNat ≤ 126)
def pathL (l : List UInt8) : Bool := Lib.hasPrefix l [47] && l.all pthB
end Go.Proofs.YtpfbemcoblganaaDoor.Pl
end
section
namespace Go.Proofs.YtpfbemcoblganaaDoor.Pl
open Go.RowKit Go.Proofs.YtpfbemcoblganaaDoor.Pall Go.Proofs.YtpfbemcoblganaaDoorW.PrintWords Go.Proofs.YtpfbemcoblganaaDoorW.PrintLast
set_option linter.unusedVariables false
set_option linter.unusedSimpArgs false
/-- a reader's cells -/
abbrev Rd (W : World) (b : Nat) (m p : ByteArray) (fv bv lv : Value) : Prop := W.heap[b]? = some (.cells #[.string m, .string p, fv, bv, lv] 83 (0, 0))
theorem Rd.cell {W : World} {b : Nat} {m p : ByteArray} {fv bv lv : Value} (h : Rd W b m p fv bv lv) :
    W.cell? ⟨b, 0, none⟩ = some (.string m) ∧ W.cell? ⟨b, 1, none⟩ = some (.string p) ∧ W.cell? ⟨b, 2, none⟩ = some fv ∧ W.cell? ⟨b, 3, none⟩ = some bv ∧ W.cell? ⟨b, 4, none⟩ = some lv := by
  have h : W.heap[b]? = _ := h
  unfold World.cell?
  rw [h]
  exact ⟨rfl, rfl, rfl, rfl, rfl⟩
def spB : ByteArray := ⟨#[32]⟩
def wordsL (x : ByteArray) : List ByteArray := Lib.splitB spB 0 (Lib.countB x spB) x
/-- three words in a block of their own -/
structure Trio (w W : World) (g : Nat) (a1 a2 a3 : ByteArray) : Prop where
  c0 : W.cell? ⟨g, 0, none⟩ = some (.string a1)
  c1 : W.cell? ⟨g, 1, none⟩ = some (.string a2)
  c2 : W.cell? ⟨g, 2, none⟩ = some (.string a3)
  lt : g < W.heap.size
  bel : Below g w W
theorem Trio.below {w W W' : World} {g : Nat} {a1 a2 a3 : ByteArray} (h : Trio w W g a1 a2 a3) (hb : Below W.heap.size W W') : Trio w W' g a1 a2 a3 :=
  ⟨(hb.cell h.lt).trans h.c0, (hb.cell h.lt).trans h.c1, (hb.cell h.lt).trans h.c2, Nat.lt_of_lt_of_le h.lt hb.size, h.bel.trans (hb.mono (Nat.le_of_lt h.lt))⟩
theorem Rd.store {W : World} {b : Nat} {m p a1 a2 : ByteArray} {fv bv lv : Value} (h : Rd W b m p fv bv lv) : Rd ((W.setCell ⟨b, 0, none⟩ (.string a1)).setCell ⟨b, 1, none⟩ (.string a2)) b a1 a2 fv bv lv :=
  heap_setCell_same _ b 1 _ _ (.string a2) (heap_setCell_same W b 0 _ _ (.string a1) h)
end Go.Proofs.YtpfbemcoblganaaDoor.Pl
end
section
namespace Go.Proofs.YtpfbemcoblganaaDoor.Pl
open Go.RowKit Go.Proofs.YtpfbemcoblganaaDoor.Pall Go.Proofs.YtpfbemcoblganaaDoorW.PrintWords Go.Proofs.YtpfbemcoblganaaDoorW.PrintLast
set_option linter.unusedVariables false
set_option linter.unusedSimpArgs false
theorem Rd.lt {W : World} {b : Nat} {m p : ByteArray} {fv bv lv : Value} (h : Rd W b m p fv bv lv) : b < W.heap.size := (Array.getElem?_eq_some_iff.1 h).1
theorem Rd.below {W W' : World} {b : Nat} {m p : ByteArray} {fv bv lv : Value} (h : Rd W b m p fv bv lv) (hb : Below W.heap.size W W') : Rd W' b m p fv bv lv := (hb.block _ h.lt).trans h
theorem Rd.grown {W W' : World} {b : Nat} {m p : ByteArray} {fv bv lv : Value} {row : Option Nat} (h : Rd W b m p fv bv lv) (hg : W.grownBy W' row) (hne : some b ≠ row) : Rd W' b m p fv bv lv := (hg.block _ h.lt hne).trans h
theorem Rd.alloc {W : World} {b : Nat} {m p : ByteArray} {fv bv lv : Value} (h : Rd W b m p fv bv lv) (o : Obj) : Rd (W.alloc o) b m p fv bv lv := h.below ((Below.refl _ _).alloc (Nat.le_refl _) _)
end Go.Proofs.YtpfbemcoblganaaDoor.Pl
end

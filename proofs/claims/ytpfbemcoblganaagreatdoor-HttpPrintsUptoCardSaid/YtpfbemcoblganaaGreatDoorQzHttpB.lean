/-
  Package http: a reader's first line.
-/
import Derived.Test.YtpfbemcoblganaaGreatDoorQzHttpA
import Derived.BigRegion
import Derived.Lib.SplitLaws
namespace Go.Proofs.YtpfbemcoblganaaGreatDoor.Pl
open Go.RowKit Go.Proofs.YtpfbemcoblganaaGreatDoor.Pall Go.Proofs.YtpfbemcoblganaaGreatDoorW.PrintWords Go.Proofs.YtpfbemcoblganaaGreatDoorW.PrintLast
set_option linter.unusedVariables false
set_option linter.unusedSimpArgs false
/-- a reader's cells -/
abbrev Rd (W : World) (b : Nat) (m p : ByteArray) (fv bv lv : Value) : Prop := W.heap[b]? = some (.cells #[.string m, .string p, fv, bv, lv] 59 (0, 0))
theorem Rd.cell {W : World} {b : Nat} {m p : ByteArray} {fv bv lv : Value} (h : Rd W b m p fv bv lv) :
    W.cell? ⟨b, 0, none⟩ = some (.string m) ∧ W.cell? ⟨b, 1, none⟩ = some (.string p) ∧ W.cell? ⟨b, 2, none⟩ = some fv ∧ W.cell? ⟨b, 3, none⟩ = some bv ∧ W.cell? ⟨b, 4, none⟩ = some lv := by
  have h : W.heap[b]? = _ := h
  unfold World.cell?
  rw [h]
  exact ⟨rfl, rfl, rfl, rfl, rfl⟩
def spB : ByteArray := ⟨#[32]⟩
def wordsL (x : ByteArray) : List ByteArray := Lib.splitB spB 0 (Lib.countB x spB) x
theorem wordsL_len (x : ByteArray) : (wordsL x).length = Lib.countB x spB + 1 := Lib.splitB_all spB (by decide) 0 _ x rfl
set_option maxRecDepth 100000 in
theorem first_long (m p x : ByteArray) (fv bv : Value) (ad : Addr) (n c b : Nat) (w : World) (hr : Rd w b m p fv bv (.slice (some ad) n c)) (hx : w.cell? ad = some (.string x)) (hn : 0 < n) (hl : 2000 < x.size) :
    Calls Tryz.prog 25 #[.pointer (some ⟨b, 0, none⟩)] w fun e w' => e = .panicked (wrongV 3) ∧ Below b w w' := by
  obtain ⟨h0, h1, h2, h3, h4⟩ := hr.cell
  have hz : ad.add 0 = ad := rfl
  go_enter Tryz.func25, Tryz.ntmps25
  go_wp2_with (go_at_call 24; rw [decide_eq_false (by omega)]; refine (need_no 3 _).mono ?_; rintro e w1 ⟨rfl, hsame⟩; rw [hsame]; clear hsame w1)
  exact ⟨rfl, rfl, Below.refl _ _⟩
/-- three words in a block of their own -/
structure Trio (w W : World) (g : Nat) (a1 a2 a3 : ByteArray) : Prop where
  c0 : W.cell? ⟨g, 0, none⟩ = some (.string a1)
  c1 : W.cell? ⟨g, 1, none⟩ = some (.string a2)
  c2 : W.cell? ⟨g, 2, none⟩ = some (.string a3)
  lt : g < W.heap.size
  bel : Below g w W
theorem trio_new (w : World) (a1 a2 a3 : ByteArray) (t : TypeId) : Trio w (w.alloc (.cells #[.string a1, .string a2, .string a3] t)) w.heap.size a1 a2 a3 := by
  have h : (w.alloc (.cells #[.string a1, .string a2, .string a3] t)).heap[w.heap.size]? = some (.cells #[.string a1, .string a2, .string a3] t) := by show (w.heap.push _)[w.heap.size]? = _; simp
  have e := fun i => cell_of_row (w.alloc (.cells #[.string a1, .string a2, .string a3] t)) w.heap.size i _ t (0, 0) h
  exact ⟨e 0, e 1, e 2, by simp, (Below.refl _ w).alloc (Nat.le_refl _) _⟩
theorem Trio.below {w W W' : World} {g : Nat} {a1 a2 a3 : ByteArray} (h : Trio w W g a1 a2 a3) (hb : Below W.heap.size W W') : Trio w W' g a1 a2 a3 :=
  ⟨(hb.cell h.lt).trans h.c0, (hb.cell h.lt).trans h.c1, (hb.cell h.lt).trans h.c2, Nat.lt_of_lt_of_le h.lt hb.size, h.bel.trans (hb.mono (Nat.le_of_lt h.lt))⟩
theorem split_three (x a1 a2 a3 : ByteArray) (w : World) (hS : Sh w) (hl : x.size < 4294967281) (hw : wordsL x = [a1, a2, a3]) :
    Calls Tryz.prog 41 #[.string x, .string ⟨#[32]⟩] w fun e w' => e = .returned (.slice (some ⟨w.heap.size, 0, none⟩) 3 3) ∧ Trio w w' w.heap.size a1 a2 a3 := by
  obtain ⟨ml, hml⟩ := hS.maxLen
  have hlen := wordsL_len x
  have hcnt : Lib.countB x spB = 2 := by rw [hw] at hlen; simp at hlen; omega
  have hsplit : ((Lib.splitB spB 0 (Lib.countB x spB) x).map Value.string) = [.string a1, .string a2, .string a3] := by
    rw [show Lib.splitB spB 0 (Lib.countB x spB) x = [a1, a2, a3] from hw]; rfl
  refine (Tryz.strings_Split x spB ml w hl hml (by decide)).mono ?_
  rintro e w1 ⟨rfl, rfl⟩
  rw [hcnt] at *
  rw [hsplit]
  exact ⟨rfl, trio_new _ _ _ _ _⟩
theorem Rd.store {W : World} {b : Nat} {m p a1 a2 : ByteArray} {fv bv lv : Value} (h : Rd W b m p fv bv lv) : Rd ((W.setCell ⟨b, 0, none⟩ (.string a1)).setCell ⟨b, 1, none⟩ (.string a2)) b a1 a2 fv bv lv :=
  heap_setCell_same _ b 1 _ _ (.string a2) (heap_setCell_same W b 0 _ _ (.string a1) h)
set_option maxRecDepth 100000 in
set_option maxHeartbeats 1000000 in
theorem first_three (m p x a1 a2 a3 : ByteArray) (fv bv : Value) (ad : Addr) (n c b : Nat) (w : World) (hS : Sh w) (hr : Rd w b m p fv bv (.slice (some ad) n c)) (hx : w.cell? ad = some (.string x)) (hn : 0 < n) (hl : x.size ≤ 2000) (hw : wordsL x = [a1, a2, a3])
    (h1 : tokL a1.data.toList = true) (h2 : pathL a2.data.toList = true) (h3 : (a3.toList == [72, 84, 84, 80, 47, 49, 46, 49]) = true) :
    Calls Tryz.prog 25 #[.pointer (some ⟨b, 0, none⟩)] w fun e w' => e = .returned (.tuple #[]) ∧ Below b w w' ∧ Rd w' b a1 a2 fv bv (.slice (some ad) n c) := by
  obtain ⟨k0, k1, k2, k3, k4⟩ := hr.cell
  have hz : ad.add 0 = ad := rfl
  have hlt : b < w.heap.size := (Array.getElem?_eq_some_iff.1 hr).1
  have HR := hid hr
  have HS := hid (split_three x a1 a2 a3 w hS (by omega) hw)
  clear hw hr
  go_enter Tryz.func25, Tryz.ntmps25
  go_wp2_with first
    | (go_at_call 24; rw [decide_eq_true (by omega)]; refine (need_yes 3 _).mono ?_; rintro e w1 ⟨rfl, hsame⟩; rw [hsame]; clear hsame w1)
    | (go_at_call 41; refine HS.out.mono ?_; rintro e W1 ⟨rfl, hT⟩; have q0 := hT.c0; have q1 := hT.c1; have q2 := hT.c2; have HT := hid hT; clear hT)
    | (go_at_call 42; refine (token_any _ _).mono ?_; rintro e W2 ⟨rfl, hb⟩; have hT := HT.out.below hb; have q0 := hT.c0; have q1 := hT.c1; have q2 := hT.c2; have HT := hid hT; clear hT; rw [h1])
    | (go_at_call 43; refine (path_any _ _).mono ?_; rintro e W3 ⟨rfl, hb⟩; have hT := HT.out.below hb; have q0 := hT.c0; have q1 := hT.c1; have q2 := hT.c2; have HT := hid hT; clear hT; rw [h2])
    | (go_at_call 24; refine (need_yes 11 _).mono ?_; rintro e w1 ⟨rfl, hsame⟩; rw [hsame]; clear hsame w1; refine Hid.out ?_)
  have hT := HT.out
  have k := (show Rd _ b m p fv bv (.slice (some ad) n c) from (hT.bel.block _ hlt).trans HR.out)
  obtain ⟨k0, k1, k2, k3, k4⟩ := k.cell
  refine hid ?_
  go_upto_region 4 with fail
  have f0 := blk_frozen k 0
  have f1 := blk_frozen k 1
  clear HT HR HS hz h1 h2 h3 hx hS q2
  generalize hg : w.heap.size = g at *
  go_region
  go_wp2
  go_end0
  exact ⟨rfl, (((hT.bel.mono (Nat.le_of_lt hlt)).setCell (p := ⟨b, 0, none⟩) (Nat.le_refl _) _).setCell (p := ⟨b, 1, none⟩) (Nat.le_refl _) _).drew, k.store⟩
/-- the first line's four other ways out -/
theorem split_any (x : ByteArray) (w : World) (hS : Sh w) (hl : x.size < 4294967281) :
    Calls Tryz.prog 41 #[.string x, .string ⟨#[32]⟩] w fun e w' => e = .returned (.slice (some ⟨w.heap.size, 0, none⟩) (wordsL x).length (wordsL x).length) ∧ Below w.heap.size w w' := by
  obtain ⟨ml, hml⟩ := hS.maxLen
  refine (Tryz.strings_Split x spB ml w hl hml (by decide)).mono ?_
  rintro e w1 ⟨rfl, rfl⟩
  rw [wordsL_len]
  exact ⟨rfl, (Below.refl _ w).alloc (Nat.le_refl _) _⟩
set_option maxRecDepth 100000 in
set_option maxHeartbeats 1000000 in
theorem first_not3 (m p x : ByteArray) (fv bv : Value) (ad : Addr) (n c b : Nat) (w : World) (hS : Sh w) (hr : Rd w b m p fv bv (.slice (some ad) n c)) (hx : w.cell? ad = some (.string x)) (hn : 0 < n) (hl : x.size ≤ 2000) (hw : ((wordsL x).length : Int) ≠ 3) :
    Calls Tryz.prog 25 #[.pointer (some ⟨b, 0, none⟩)] w fun e w' => e = .panicked (wrongV 11) ∧ Below b w w' := by
  obtain ⟨k0, k1, k2, k3, k4⟩ := hr.cell
  have hz : ad.add 0 = ad := rfl
  have hlt : b < w.heap.size := (Array.getElem?_eq_some_iff.1 hr).1
  have HS := hid (split_any x w hS (by omega))
  clear hr
  generalize (wordsL x).length = q at *
  go_enter Tryz.func25, Tryz.ntmps25
  go_wp2_with first
    | (go_at_call 24; rw [decide_eq_true (by omega)]; refine (need_yes 3 _).mono ?_; rintro e w1 ⟨rfl, hsame⟩; rw [hsame]; clear hsame w1)
    | (go_at_call 41; refine HS.out.mono ?_; rintro e W1 ⟨rfl, hW⟩; have HB := hid hW; clear hW)
    | (go_at_call 24; refine (need_no 11 _).mono ?_; rintro e w1 ⟨rfl, hsame⟩; rw [hsame]; clear hsame w1)
  exact ⟨rfl, rfl, HB.out.mono (Nat.le_of_lt hlt)⟩
set_option maxRecDepth 100000 in
set_option maxHeartbeats 1000000 in
theorem first_no1 (m p x a1 a2 a3 : ByteArray) (fv bv : Value) (ad : Addr) (n c b : Nat) (w : World) (hS : Sh w) (hr : Rd w b m p fv bv (.slice (some ad) n c)) (hx : w.cell? ad = some (.string x)) (hn : 0 < n) (hl : x.size ≤ 2000) (hw : wordsL x = [a1, a2, a3])
    (h1 : tokL a1.data.toList = false) :
    Calls Tryz.prog 25 #[.pointer (some ⟨b, 0, none⟩)] w fun e w' => e = .panicked (wrongV 11) ∧ Below b w w' := by
  obtain ⟨k0, k1, k2, k3, k4⟩ := hr.cell
  have hz : ad.add 0 = ad := rfl
  have hlt : b < w.heap.size := (Array.getElem?_eq_some_iff.1 hr).1
  have HS := hid (split_three x a1 a2 a3 w hS (by omega) hw)
  clear hw hr
  go_enter Tryz.func25, Tryz.ntmps25
  go_wp2_with first
    | (go_at_call 24; rw [decide_eq_true (by omega)]; refine (need_yes 3 _).mono ?_; rintro e w1 ⟨rfl, hsame⟩; rw [hsame]; clear hsame w1)
    | (go_at_call 41; refine HS.out.mono ?_; rintro e W1 ⟨rfl, hT⟩; have q0 := hT.c0; have q1 := hT.c1; have q2 := hT.c2; have HT := hid hT; clear hT)
    | (go_at_call 42; refine (token_any _ _).mono ?_; rintro e W2 ⟨rfl, hb⟩; have hT := HT.out.below hb; have q0 := hT.c0; have q1 := hT.c1; have q2 := hT.c2; have HT := hid hT; clear hT; rw [h1])
    | (go_at_call 24; refine (need_no 11 _).mono ?_; rintro e w1 ⟨rfl, hsame⟩; rw [hsame]; clear hsame w1)
  exact ⟨rfl, rfl, HT.out.bel.mono (Nat.le_of_lt hlt)⟩
set_option maxRecDepth 100000 in
set_option maxHeartbeats 1000000 in
theorem first_no2 (m p x a1 a2 a3 : ByteArray) (fv bv : Value) (ad : Addr) (n c b : Nat) (w : World) (hS : Sh w) (hr : Rd w b m p fv bv (.slice (some ad) n c)) (hx : w.cell? ad = some (.string x)) (hn : 0 < n) (hl : x.size ≤ 2000) (hw : wordsL x = [a1, a2, a3])
    (h1 : tokL a1.data.toList = true) (h2 : pathL a2.data.toList = false) :
    Calls Tryz.prog 25 #[.pointer (some ⟨b, 0, none⟩)] w fun e w' => e = .panicked (wrongV 11) ∧ Below b w w' := by
  obtain ⟨k0, k1, k2, k3, k4⟩ := hr.cell
  have hz : ad.add 0 = ad := rfl
  have hlt : b < w.heap.size := (Array.getElem?_eq_some_iff.1 hr).1
  have HS := hid (split_three x a1 a2 a3 w hS (by omega) hw)
  clear hw hr
  go_enter Tryz.func25, Tryz.ntmps25
  go_wp2_with first
    | (go_at_call 24; rw [decide_eq_true (by omega)]; refine (need_yes 3 _).mono ?_; rintro e w1 ⟨rfl, hsame⟩; rw [hsame]; clear hsame w1)
    | (go_at_call 41; refine HS.out.mono ?_; rintro e W1 ⟨rfl, hT⟩; have q0 := hT.c0; have q1 := hT.c1; have q2 := hT.c2; have HT := hid hT; clear hT)
    | (go_at_call 42; refine (token_any _ _).mono ?_; rintro e W2 ⟨rfl, hb⟩; have hT := HT.out.below hb; have q0 := hT.c0; have q1 := hT.c1; have q2 := hT.c2; have HT := hid hT; clear hT; rw [h1])
    | (go_at_call 43; refine (path_any _ _).mono ?_; rintro e W3 ⟨rfl, hb⟩; have hT := HT.out.below hb; have q0 := hT.c0; have q1 := hT.c1; have q2 := hT.c2; have HT := hid hT; clear hT; rw [h2])
    | (go_at_call 24; refine (need_no 11 _).mono ?_; rintro e w1 ⟨rfl, hsame⟩; rw [hsame]; clear hsame w1)
  exact ⟨rfl, rfl, HT.out.bel.mono (Nat.le_of_lt hlt)⟩
set_option maxRecDepth 100000 in
set_option maxHeartbeats 1000000 in
theorem first_no3 (m p x a1 a2 a3 : ByteArray) (fv bv : Value) (ad : Addr) (n c b : Nat) (w : World) (hS : Sh w) (hr : Rd w b m p fv bv (.slice (some ad) n c)) (hx : w.cell? ad = some (.string x)) (hn : 0 < n) (hl : x.size ≤ 2000) (hw : wordsL x = [a1, a2, a3])
    (h1 : tokL a1.data.toList = true) (h2 : pathL a2.data.toList = true) (h3 : (a3.toList == [72, 84, 84, 80, 47, 49, 46, 49]) = false) :
    Calls Tryz.prog 25 #[.pointer (some ⟨b, 0, none⟩)] w fun e w' => e = .panicked (wrongV 11) ∧ Below b w w' := by
  obtain ⟨k0, k1, k2, k3, k4⟩ := hr.cell
  have hz : ad.add 0 = ad := rfl
  have hlt : b < w.heap.size := (Array.getElem?_eq_some_iff.1 hr).1
  have HS := hid (split_three x a1 a2 a3 w hS (by omega) hw)
  clear hw hr
  go_enter Tryz.func25, Tryz.ntmps25
  go_wp2_with first
    | (go_at_call 24; rw [decide_eq_true (by omega)]; refine (need_yes 3 _).mono ?_; rintro e w1 ⟨rfl, hsame⟩; rw [hsame]; clear hsame w1)
    | (go_at_call 41; refine HS.out.mono ?_; rintro e W1 ⟨rfl, hT⟩; have q0 := hT.c0; have q1 := hT.c1; have q2 := hT.c2; have HT := hid hT; clear hT)
    | (go_at_call 42; refine (token_any _ _).mono ?_; rintro e W2 ⟨rfl, hb⟩; have hT := HT.out.below hb; have q0 := hT.c0; have q1 := hT.c1; have q2 := hT.c2; have HT := hid hT; clear hT; rw [h1])
    | (go_at_call 43; refine (path_any _ _).mono ?_; rintro e W3 ⟨rfl, hb⟩; have hT := HT.out.below hb; have q0 := hT.c0; have q1 := hT.c1; have q2 := hT.c2; have HT := hid hT; clear hT; rw [h2])
    | (go_at_call 24; refine (need_no 11 _).mono ?_; rintro e w1 ⟨rfl, hsame⟩; rw [hsame]; clear hsame w1)
  exact ⟨rfl, rfl, HT.out.bel.mono (Nat.le_of_lt hlt)⟩
end Go.Proofs.YtpfbemcoblganaaGreatDoor.Pl

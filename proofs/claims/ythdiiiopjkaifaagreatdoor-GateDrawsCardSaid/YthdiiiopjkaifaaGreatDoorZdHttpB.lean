/-
Package http: what is needed, and what a path may be.
Package http: a reader's first line.
-/
import Derived.Test.YthdiiiopjkaifaaGreatDoorZdExt
import Derived.Test.YthdiiiopjkaifaaGreatDoorZdPlb
import Derived.Recover
import Derived.Defers
import Derived.Tactics2
import Derived.WalkLawsBesides
import Derived.BigRegion
import Derived.Lib.SplitLaws
section
namespace Go.Proofs.YthdiiiopjkaifaaGreatDoor.Pl
open Go.RowKit Go.Proofs.YthdiiiopjkaifaaGreatDoor.Pall Go.Proofs.YthdiiiopjkaifaaGreatDoorW.PrintWords Go.Proofs.YthdiiiopjkaifaaGreatDoorW.PrintLast
set_option linter.unusedVariables false
set_option linter.unusedSimpArgs false
/-- what a panic bears -/
def wrongV (n : Int) : List PanicEntry := [{ v := .iface 175 (.agg #[.int .u16 n]), recovered := false }]
theorem need_yes (n : Int) (w : World) : Calls Tryz.prog 101 #[.bool true, .int .u16 n] w fun e w' => e = .returned (.tuple #[]) ∧ w' = w := by
 go_enter Tryz.func101, Tryz.ntmps101
 go_wp2
 go_end0
 exact ⟨rfl, rfl⟩
theorem need_no (n : Int) (w : World) : Calls Tryz.prog 101 #[.bool false, .int .u16 n] w fun e w' => e = .panicked (wrongV n) ∧ w' = w := by
 go_enter Tryz.func101, Tryz.ntmps101
 go_wp2
 exact ⟨rfl, rfl, rfl⟩
def pthB (c : UInt8) : Bool := decide (33 ≤ c.toNat) && decide (c.toNat ≤ 126)
def pathL (l : List UInt8) : Bool := Lib.hasPrefix l [47] && l.all pthB
def pthR (r : Nat) : Bool := decide (r < 33) || decide (126 < r)
theorem path_pred (w : World) : PredAt Tryz.prog 197 #[] encR pthR w := fun W r _ => by
 unfold FnGives
 by_cases h1 : r < 33 <;> by_cases h2 : 126 < r
 all_goals
  have z1 : (r : Int) < 33 ↔ r < 33 := by omega
  have z2 : (126 : Int) < (r : Int) ↔ 126 < r := by omega
  go_enter Tryz.func197, Tryz.ntmps197
  go_wp2
  all_goals first | (exfalso; omega) | (go_ret; exact ⟨by simp [h1, h2, pthR], 0, rfl⟩)
theorem idx_path (s : ByteArray) : ∀ (f pos : Nat), s.size - pos ≤ f → pos ≤ s.size → decide (0 ≤ Lib.idxFuncFrom pthR true s f pos) = !((s.data.toList.drop pos).all pthB) := by
 intro f
 induction f with
 | zero =>
  intro pos h1 h2
  rw [List.drop_of_length_le (by show s.size ≤ pos; omega)]
  rfl
 | succ f ih =>
  intro pos h1 h2
  unfold Lib.idxFuncFrom
  by_cases hp : pos < s.size
  ·rw [if_pos hp]
   have hdrop : s.data.toList.drop pos = s.data.toList.getD pos 0 :: s.data.toList.drop (pos + 1) := by
    rw [List.drop_eq_getElem_cons (show pos < s.data.toList.length from hp), List.getD, List.getElem?_eq_getElem (show pos < s.data.toList.length from hp)]; rfl
   rw [hdrop, List.all_cons, data_at s pos hp]
   by_cases ha : (s[pos]'hp).toNat < 128
   ·rw [decode_ascii s pos hp ha]
    by_cases hb : pthB (s[pos]'hp) = true
    ·have : ¬ pthR (s[pos]'hp).toNat = true := by
      unfold pthB at hb
      simp only [Bool.and_eq_true, decide_eq_true_eq] at hb
      unfold pthR
      simp only [Bool.or_eq_true, decide_eq_true_eq]
      omega
     rw [if_neg this, hb, Bool.true_and]
     exact ih (pos + 1) (by omega) (by omega)
    ·have : pthR (s[pos]'hp).toNat = true := by
      unfold pthB at hb
      simp only [Bool.and_eq_true, decide_eq_true_eq] at hb
      unfold pthR
      simp only [Bool.or_eq_true, decide_eq_true_eq]
      omega
     rw [if_pos this, Bool.eq_false_iff.2 hb, Bool.false_and, decide_eq_true (by omega)]; rfl
   ·obtain ⟨hr, hw⟩ := decode_high s pos hp (by omega)
    have hb : pthB (s[pos]'hp) = false := by unfold pthB; rw [decide_eq_false (p := _ ≤ 126) (by omega), Bool.and_false]
    have : pthR (Utf8.decode s pos).1 = true := by unfold pthR; rw [decide_eq_true (p := 126 < _) (by omega), Bool.or_true]
    rw [if_pos this, hb, Bool.false_and, decide_eq_true (by omega)]; rfl
  ·rw [if_neg hp, List.drop_of_length_le (by show s.size ≤ pos; omega)]
   rfl
theorem path_any (s : ByteArray) (w : World) : Calls Tryz.prog 146 #[.string s] w fun e w' => e = .returned (.bool (pathL s.data.toList)) ∧ Below w.heap.size w w' := by
 have hC := fun W : World => Tryz.strings_ContainsFunc 197 #[] (enters_of Tryz.func197 (by kernel_rfl) rfl) pthR s W (path_pred W)
 have hi := idx_path s s.size 0 (by omega) (by omega)
 rw [List.drop_zero] at hi
 have hi : decide (0 ≤ Lib.idxFunc pthR true s) = !(s.data.toList.all pthB) := hi
 rw [hi] at hC
 have HC := hid hC
 clear hC
 have HP := hid (show pathL s.data.toList = (Lib.hasPrefix s.data.toList [47] && s.data.toList.all pthB) from rfl)
 generalize s.data.toList.all pthB = b at *
 clear hi
 cases hp : Lib.hasPrefix s.data.toList [47] with
 | false =>
  have HF := hid (show pathL s.data.toList = false by rw [HP.out, hp]; rfl)
  have HQ := hid hp
  clear HP hp
  go_enter Tryz.func146, Tryz.ntmps146
  go_wp2_with (go_at_call 117; refine (Tryz.strings_HasPrefix _ _ _).mono ?_; rintro e w1 ⟨rfl, rfl⟩; rw [show Lib.hasPrefix s.data.toList (⟨#[47]⟩ : ByteArray).data.toList = false from HQ.out])
  go_ret
  exact ⟨by rw [HF.out]; rfl, Below.refl _ _⟩
 | true =>
  have HF := hid (show pathL s.data.toList = b by rw [HP.out, hp]; rfl)
  have HQ := hid hp
  clear HP hp
  go_enter Tryz.func146, Tryz.ntmps146
  go_wp2_with first
   | (go_at_call 117; refine (Tryz.strings_HasPrefix _ _ _).mono ?_; rintro e w1 ⟨rfl, rfl⟩; rw [show Lib.hasPrefix s.data.toList (⟨#[47]⟩ : ByteArray).data.toList = true from HQ.out])
   | (go_at_call 198; refine (HC.out _).mono ?_; rintro e w1 ⟨rfl, hb⟩; have HB := hid hb; clear hb)
  go_ret
  exact ⟨by rw [HF.out]; simp, HB.out⟩
end Go.Proofs.YthdiiiopjkaifaaGreatDoor.Pl
end
section
namespace Go.Proofs.YthdiiiopjkaifaaGreatDoor.Pl
open Go.RowKit Go.Proofs.YthdiiiopjkaifaaGreatDoor.Pall Go.Proofs.YthdiiiopjkaifaaGreatDoorW.PrintWords Go.Proofs.YthdiiiopjkaifaaGreatDoorW.PrintLast
set_option linter.unusedVariables false
set_option linter.unusedSimpArgs false
/-- a reader's cells -/
abbrev Rd (W : World) (b : Nat) (m p : ByteArray) (fv bv lv : Value) : Prop := W.heap[b]? = some (.cells #[.string m, .string p, fv, bv, lv] 180 (0, 0))
theorem Rd.cell {W : World} {b : Nat} {m p : ByteArray} {fv bv lv : Value} (h : Rd W b m p fv bv lv) :
  W.cell? ⟨b, 0, none⟩ = some (.string m) ∧ W.cell? ⟨b, 1, none⟩ = some (.string p) ∧ W.cell? ⟨b, 2, none⟩ = some fv ∧ W.cell? ⟨b, 3, none⟩ = some bv ∧ W.cell? ⟨b, 4, none⟩ = some lv := by
 have h : W.heap[b]? = _ := h
 unfold World.cell?
 rw [h]
 exact ⟨rfl, rfl, rfl, rfl, rfl⟩
def spB : ByteArray := ⟨#[32]⟩
def wordsL (x : ByteArray) : List ByteArray := Lib.splitB spB 0 (Lib.countB x spB) x
theorem wordsL_len (x : ByteArray) : (wordsL x).length = Lib.countB x spB + 1 := Lib.splitB_all spB (by decide) 0 _ x rfl
set_option maxRecDepth 100000 in
theorem first_long (m p x : ByteArray) (fv bv : Value) (ad : Addr) (n c b : Nat) (w : World) (hr : Rd w b m p fv bv (.slice (some ad) n c)) (hx : w.cell? ad = some (.string x)) (hn : 0 < n) (hl : 2000 < x.size) :
  Calls Tryz.prog 102 #[.pointer (some ⟨b, 0, none⟩)] w fun e w' => e = .panicked (wrongV 3) ∧ Below b w w' := by
 obtain ⟨h0, h1, h2, h3, h4⟩ := hr.cell
 have hz : ad.add 0 = ad := rfl
 go_enter Tryz.func102, Tryz.ntmps102
 go_wp2_with (go_at_call 101; rw [decide_eq_false (by omega)]; refine (need_no 3 _).mono ?_; rintro e w1 ⟨rfl, hsame⟩; rw [hsame]; clear hsame w1)
 exact ⟨rfl, rfl, Below.refl _ _⟩
/-- three words in a block of their own -/
structure Trio (w W : World) (g : Nat) (a1 a2 a3 : ByteArray) : Prop where
 c0 : W.cell? ⟨g, 0, none⟩ = some (.string a1)
 c1 : W.cell? ⟨g, 1, none⟩ = some (.string a2)
 c2 : W.cell? ⟨g, 2, none⟩ = some (.string a3)
 lt : g < W.heap.size
 bel : Below g w W
theorem trio_new (w : World) (a1 a2 a3 : ByteArray) (t : TypeId) : Trio w (w.alloc (.cells #[.string a1, .string a2, .string a3] t)) w.heap.size a1 a2 a3 := by
 have h : (w.alloc (.cells #[.string a1, .string a2, .string a3] t)).heap[w.heap.size]? = some (.cells #[.string a1, .string a2, .string a3] t) := by show (w.heap.push _)[w.heap.size]? = _; simp
 have e := fun i => cell_of_row (w.alloc (.cells #[.string a1, .string a2, .string a3] t)) w.heap.size i _ t (0, 0) h
 exact ⟨e 0, e 1, e 2, by simp, (Below.refl _ w).alloc (Nat.le_refl _) _⟩
theorem Trio.below {w W W' : World} {g : Nat} {a1 a2 a3 : ByteArray} (h : Trio w W g a1 a2 a3) (hb : Below W.heap.size W W') : Trio w W' g a1 a2 a3 :=
 ⟨(hb.cell h.lt).trans h.c0, (hb.cell h.lt).trans h.c1, (hb.cell h.lt).trans h.c2, Nat.lt_of_lt_of_le h.lt hb.size, h.bel.trans (hb.mono (Nat.le_of_lt h.lt))⟩
theorem split_three (x a1 a2 a3 : ByteArray) (w : World) (hS : Sh w) (hl : x.size < 4294967281) (hw : wordsL x = [a1, a2, a3]) :
  Calls Tryz.prog 145 #[.string x, .string ⟨#[32]⟩] w fun e w' => e = .returned (.slice (some ⟨w.heap.size, 0, none⟩) 3 3) ∧ Trio w w' w.heap.size a1 a2 a3 := by
 obtain ⟨ml, hml⟩ := hS.maxLen
 have hlen := wordsL_len x
 have hcnt : Lib.countB x spB = 2 := by rw [hw] at hlen; simp at hlen; omega
 have hsplit : ((Lib.splitB spB 0 (Lib.countB x spB) x).map Value.string) = [.string a1, .string a2, .string a3] := by
  rw [show Lib.splitB spB 0 (Lib.countB x spB) x = [a1, a2, a3] from hw]; rfl
 refine (Tryz.strings_Split x spB ml w hl hml (by decide)).mono ?_
 rintro e w1 ⟨rfl, rfl⟩
 rw [hcnt] at *
 rw [hsplit]
 exact ⟨rfl, trio_new _ _ _ _ _⟩
theorem Rd.store {W : World} {b : Nat} {m p a1 a2 : ByteArray} {fv bv lv : Value} (h : Rd W b m p fv bv lv) : Rd ((W.setCell ⟨b, 0, none⟩ (.string a1)).setCell ⟨b, 1, none⟩ (.string a2)) b a1 a2 fv bv lv :=
 heap_setCell_same _ b 1 _ _ (.string a2) (heap_setCell_same W b 0 _ _ (.string a1) h)
set_option maxRecDepth 100000 in
set_option maxHeartbeats 1000000 in
theorem first_three (m p x a1 a2 a3 : ByteArray) (fv bv : Value) (ad : Addr) (n c b : Nat) (w : World) (hS : Sh w) (hr : Rd w b m p fv bv (.slice (some ad) n c)) (hx : w.cell? ad = some (.string x)) (hn : 0 < n) (hl : x.size ≤ 2000) (hw : wordsL x = [a1, a2, a3])
  (h1 : tokL a1.data.toList = true) (h2 : pathL a2.data.toList = true) (h3 : (a3.toList == [72, 84, 84, 80, 47, 49, 46, 49]) = true) :
  Calls Tryz.prog 102 #[.pointer (some ⟨b, 0, none⟩)] w fun e w' => e = .returned (.tuple #[]) ∧ Below b w w' ∧ Rd w' b a1 a2 fv bv (.slice (some ad) n c) := by
 obtain ⟨k0, k1, k2, k3, k4⟩ := hr.cell
 have hz : ad.add 0 = ad := rfl
 have hlt : b < w.heap.size := (Array.getElem?_eq_some_iff.1 hr).1
 have HR := hid hr
 have HS := hid (split_three x a1 a2 a3 w hS (by omega) hw)
 clear hw hr
 go_enter Tryz.func102, Tryz.ntmps102
 go_wp2_with first
  | (go_at_call 101; rw [decide_eq_true (by omega)]; refine (need_yes 3 _).mono ?_; rintro e w1 ⟨rfl, hsame⟩; rw [hsame]; clear hsame w1)
  | (go_at_call 145; refine HS.out.mono ?_; rintro e W1 ⟨rfl, hT⟩; have q0 := hT.c0; have q1 := hT.c1; have q2 := hT.c2; have HT := hid hT; clear hT)
  | (go_at_call 121; refine (token_any _ _).mono ?_; rintro e W2 ⟨rfl, hb⟩; have hT := HT.out.below hb; have q0 := hT.c0; have q1 := hT.c1; have q2 := hT.c2; have HT := hid hT; clear hT; rw [h1])
  | (go_at_call 146; refine (path_any _ _).mono ?_; rintro e W3 ⟨rfl, hb⟩; have hT := HT.out.below hb; have q0 := hT.c0; have q1 := hT.c1; have q2 := hT.c2; have HT := hid hT; clear hT; rw [h2])
  | (go_at_call 101; refine (need_yes 11 _).mono ?_; rintro e w1 ⟨rfl, hsame⟩; rw [hsame]; clear hsame w1; refine Hid.out ?_)
 have hT := HT.out
 have k := (show Rd _ b m p fv bv (.slice (some ad) n c) from (hT.bel.block _ hlt).trans HR.out)
 obtain ⟨k0, k1, k2, k3, k4⟩ := k.cell
 refine hid ?_
 go_upto_region 4 with fail
 have f0 := blk_frozen k 0
 have f1 := blk_frozen k 1
 clear HT HR HS hz h1 h2 h3 hx hS q2
 generalize hg : w.heap.size = g at *
 go_region
 go_wp2
 go_end0
 exact ⟨rfl, (((hT.bel.mono (Nat.le_of_lt hlt)).setCell (p := ⟨b, 0, none⟩) (Nat.le_refl _) _).setCell (p := ⟨b, 1, none⟩) (Nat.le_refl _) _).drew, k.store⟩
/-- the first line's four other ways out -/
theorem split_any (x : ByteArray) (w : World) (hS : Sh w) (hl : x.size < 4294967281) :
  Calls Tryz.prog 145 #[.string x, .string ⟨#[32]⟩] w fun e w' => e = .returned (.slice (some ⟨w.heap.size, 0, none⟩) (wordsL x).length (wordsL x).length) ∧ Below w.heap.size w w' := by
 obtain ⟨ml, hml⟩ := hS.maxLen
 refine (Tryz.strings_Split x spB ml w hl hml (by decide)).mono ?_
 rintro e w1 ⟨rfl, rfl⟩
 rw [wordsL_len]
 exact ⟨rfl, (Below.refl _ w).alloc (Nat.le_refl _) _⟩
set_option maxRecDepth 100000 in
set_option maxHeartbeats 1000000 in
theorem first_not3 (m p x : ByteArray) (fv bv : Value) (ad : Addr) (n c b : Nat) (w : World) (hS : Sh w) (hr : Rd w b m p fv bv (.slice (some ad) n c)) (hx : w.cell? ad = some (.string x)) (hn : 0 < n) (hl : x.size ≤ 2000) (hw : ((wordsL x).length : Int) ≠ 3) :
  Calls Tryz.prog 102 #[.pointer (some ⟨b, 0, none⟩)] w fun e w' => e = .panicked (wrongV 11) ∧ Below b w w' := by
 obtain ⟨k0, k1, k2, k3, k4⟩ := hr.cell
 have hz : ad.add 0 = ad := rfl
 have hlt : b < w.heap.size := (Array.getElem?_eq_some_iff.1 hr).1
 have HS := hid (split_any x w hS (by omega))
 clear hr
 generalize (wordsL x).length = q at *
 go_enter Tryz.func102, Tryz.ntmps102
 go_wp2_with first
  | (go_at_call 101; rw [decide_eq_true (by omega)]; refine (need_yes 3 _).mono ?_; rintro e w1 ⟨rfl, hsame⟩; rw [hsame]; clear hsame w1)
  | (go_at_call 145; refine HS.out.mono ?_; rintro e W1 ⟨rfl, hW⟩; have HB := hid hW; clear hW)
  | (go_at_call 101; refine (need_no 11 _).mono ?_; rintro e w1 ⟨rfl, hsame⟩; rw [hsame]; clear hsame w1)
 exact ⟨rfl, rfl, HB.out.mono (Nat.le_of_lt hlt)⟩
set_option maxRecDepth 100000 in
set_option maxHeartbeats 1000000 in
theorem first_no1 (m p x a1 a2 a3 : ByteArray) (fv bv : Value) (ad : Addr) (n c b : Nat) (w : World) (hS : Sh w) (hr : Rd w b m p fv bv (.slice (some ad) n c)) (hx : w.cell? ad = some (.string x)) (hn : 0 < n) (hl : x.size ≤ 2000) (hw : wordsL x = [a1, a2, a3])
  (h1 : tokL a1.data.toList = false) :
  Calls Tryz.prog 102 #[.pointer (some ⟨b, 0, none⟩)] w fun e w' => e = .panicked (wrongV 11) ∧ Below b w w' := by
 obtain ⟨k0, k1, k2, k3, k4⟩ := hr.cell
 have hz : ad.add 0 = ad := rfl
 have hlt : b < w.heap.size := (Array.getElem?_eq_some_iff.1 hr).1
 have HS := hid (split_three x a1 a2 a3 w hS (by omega) hw)
 clear hw hr
 go_enter Tryz.func102, Tryz.ntmps102
 go_wp2_with first
  | (go_at_call 101; rw [decide_eq_true (by omega)]; refine (need_yes 3 _).mono ?_; rintro e w1 ⟨rfl, hsame⟩; rw [hsame]; clear hsame w1)
  | (go_at_call 145; refine HS.out.mono ?_; rintro e W1 ⟨rfl, hT⟩; have q0 := hT.c0; have q1 := hT.c1; have q2 := hT.c2; have HT := hid hT; clear hT)
  | (go_at_call 121; refine (token_any _ _).mono ?_; rintro e W2 ⟨rfl, hb⟩; have hT := HT.out.below hb; have q0 := hT.c0; have q1 := hT.c1; have q2 := hT.c2; have HT := hid hT; clear hT; rw [h1])
  | (go_at_call 101; refine (need_no 11 _).mono ?_; rintro e w1 ⟨rfl, hsame⟩; rw [hsame]; clear hsame w1)
 exact ⟨rfl, rfl, HT.out.bel.mono (Nat.le_of_lt hlt)⟩
set_option maxRecDepth 100000 in
set_option maxHeartbeats 1000000 in
theorem first_no2 (m p x a1 a2 a3 : ByteArray) (fv bv : Value) (ad : Addr) (n c b : Nat) (w : World) (hS : Sh w) (hr : Rd w b m p fv bv (.slice (some ad) n c)) (hx : w.cell? ad = some (.string x)) (hn : 0 < n) (hl : x.size ≤ 2000) (hw : wordsL x = [a1, a2, a3])
  (h1 : tokL a1.data.toList = true) (h2 : pathL a2.data.toList = false) :
  Calls Tryz.prog 102 #[.pointer (some ⟨b, 0, none⟩)] w fun e w' => e = .panicked (wrongV 11) ∧ Below b w w' := by
 obtain ⟨k0, k1, k2, k3, k4⟩ := hr.cell
 have hz : ad.add 0 = ad := rfl
 have hlt : b < w.heap.size := (Array.getElem?_eq_some_iff.1 hr).1
 have HS := hid (split_three x a1 a2 a3 w hS (by omega) hw)
 clear hw hr
 go_enter Tryz.func102, Tryz.ntmps102
 go_wp2_with first
  | (go_at_call 101; rw [decide_eq_true (by omega)]; refine (need_yes 3 _).mono ?_; rintro e w1 ⟨rfl, hsame⟩; rw [hsame]; clear hsame w1)
  | (go_at_call 145; refine HS.out.mono ?_; rintro e W1 ⟨rfl, hT⟩; have q0 := hT.c0; have q1 := hT.c1; have q2 := hT.c2; have HT := hid hT; clear hT)
  | (go_at_call 121; refine (token_any _ _).mono ?_; rintro e W2 ⟨rfl, hb⟩; have hT := HT.out.below hb; have q0 := hT.c0; have q1 := hT.c1; have q2 := hT.c2; have HT := hid hT; clear hT; rw [h1])
  | (go_at_call 146; refine (path_any _ _).mono ?_; rintro e W3 ⟨rfl, hb⟩; have hT := HT.out.below hb; have q0 := hT.c0; have q1 := hT.c1; have q2 := hT.c2; have HT := hid hT; clear hT; rw [h2])
  | (go_at_call 101; refine (need_no 11 _).mono ?_; rintro e w1 ⟨rfl, hsame⟩; rw [hsame]; clear hsame w1)
 exact ⟨rfl, rfl, HT.out.bel.mono (Nat.le_of_lt hlt)⟩
set_option maxRecDepth 100000 in
set_option maxHeartbeats 1000000 in
theorem first_no3 (m p x a1 a2 a3 : ByteArray) (fv bv : Value) (ad : Addr) (n c b : Nat) (w : World) (hS : Sh w) (hr : Rd w b m p fv bv (.slice (some ad) n c)) (hx : w.cell? ad = some (.string x)) (hn : 0 < n) (hl : x.size ≤ 2000) (hw : wordsL x = [a1, a2, a3])
  (h1 : tokL a1.data.toList = true) (h2 : pathL a2.data.toList = true) (h3 : (a3.toList == [72, 84, 84, 80, 47, 49, 46, 49]) = false) :
  Calls Tryz.prog 102 #[.pointer (some ⟨b, 0, none⟩)] w fun e w' => e = .panicked (wrongV 11) ∧ Below b w w' := by
 obtain ⟨k0, k1, k2, k3, k4⟩ := hr.cell
 have hz : ad.add 0 = ad := rfl
 have hlt : b < w.heap.size := (Array.getElem?_eq_some_iff.1 hr).1
 have HS := hid (split_three x a1 a2 a3 w hS (by omega) hw)
 clear hw hr
 go_enter Tryz.func102, Tryz.ntmps102
 go_wp2_with first
  | (go_at_call 101; rw [decide_eq_true (by omega)]; refine (need_yes 3 _).mono ?_; rintro e w1 ⟨rfl, hsame⟩; rw [hsame]; clear hsame w1)
  | (go_at_call 145; refine HS.out.mono ?_; rintro e W1 ⟨rfl, hT⟩; have q0 := hT.c0; have q1 := hT.c1; have q2 := hT.c2; have HT := hid hT; clear hT)
  | (go_at_call 121; refine (token_any _ _).mono ?_; rintro e W2 ⟨rfl, hb⟩; have hT := HT.out.below hb; have q0 := hT.c0; have q1 := hT.c1; have q2 := hT.c2; have HT := hid hT; clear hT; rw [h1])
  | (go_at_call 146; refine (path_any _ _).mono ?_; rintro e W3 ⟨rfl, hb⟩; have hT := HT.out.below hb; have q0 := hT.c0; have q1 := hT.c1; have q2 := hT.c2; have HT := hid hT; clear hT; rw [h2])
  | (go_at_call 101; refine (need_no 11 _).mono ?_; rintro e w1 ⟨rfl, hsame⟩; rw [hsame]; clear hsame w1)
 exact ⟨rfl, rfl, HT.out.bel.mono (Nat.le_of_lt hlt)⟩
end Go.Proofs.YthdiiiopjkaifaaGreatDoor.Pl
end

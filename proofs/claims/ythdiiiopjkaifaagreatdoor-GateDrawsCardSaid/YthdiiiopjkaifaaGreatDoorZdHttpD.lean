/-
 Package http: a reader's body.
-/
import Derived.Test.YthdiiiopjkaifaaGreatDoorZdAllS
import Derived.Deep.RegionWith
namespace Go.Proofs.YthdiiiopjkaifaaGreatDoor.Pl
open Go.RowKit Go.Proofs.YthdiiiopjkaifaaGreatDoor.Pall Go.Proofs.YthdiiiopjkaifaaGreatDoorW.PrintWords Go.Proofs.YthdiiiopjkaifaaGreatDoorW.PrintLast
set_option linter.unusedVariables false
set_option linter.unusedSimpArgs false
set_option maxRecDepth 100000 in
set_option maxHeartbeats 1000000 in
theorem body1_any (nm : ByteArray) (m p : ByteArray) (fv bv lv : Value) (fs : List S76) (bx b B : Nat) (w : World) (hbx : w.cell? ⟨bx, 0, none⟩ = some (.pointer (some ⟨b, 0, none⟩))) (hr : Rd w b m p fv bv lv) (hf : Kd.R k76 76 w B (fun _ => True) fv fs)
  (hl : fs.length < 8796093022208) (hs : ∀ p ∈ fs, p.f0.size ≤ 140737488351232) (hn : nm.size ≤ 140737488351232) :
  Calls Tryz.prog 148 #[.string nm, .pointer (some ⟨bx, 0, none⟩)] w fun e w' => ∃ A' c', e = .returned (.slice A' (allS fs nm).length c') ∧ (allS fs nm).length ≤ c' ∧ Kd.C Kd.string w' A' (allS fs nm).length (allS fs nm) ∧ Below w.heap.size w w' := by
 obtain ⟨k0, k1, k2, k3, k4⟩ := hr.cell
 obtain ⟨A, c, rfl, hc, hC⟩ := Kd.R_reads hf
 have HA := hid (all_any fs nm A c w hC hc hl hs hn)
 clear hf hC hr hs
 go_enter Tryz.func148, Tryz.ntmps148
 go_wp2_with (go_at_call 79; refine HA.out.mono ?_; rintro e w1 ⟨A1, c1, rfl, h1, h2, h3⟩; have H1 := hid h1; have H2 := hid h2; have H3 := hid h3; clear h1 h2 h3)
 go_ret
 exact ⟨A1, c1, rfl, H1.out, H2.out, H3.out⟩
theorem Rd.setB {W : World} {b : Nat} {m p : ByteArray} {fv bv lv : Value} (h : Rd W b m p fv bv lv) (u : Value) : Rd (W.setCell ⟨b, 3, none⟩ u) b m p fv u lv := heap_setCell_same W b 3 _ _ u h
def hostB : ByteArray := ⟨#[72, 111, 115, 116]⟩
def teB : ByteArray := ⟨#[84, 114, 97, 110, 115, 102, 101, 114, 45, 69, 110, 99, 111, 100, 105, 110, 103]⟩
def clB : ByteArray := ⟨#[67, 111, 110, 116, 101, 110, 116, 45, 76, 101, 110, 103, 116, 104]⟩
def bodyE (fs : List S76) (n : Nat) : Int :=
 if (allS fs hostB).length = 1 ∧ (allS fs teB).length = 0 ∧ (allS fs clB).length ≤ 1 then
  (match allS fs clB with
  | [] => if n = 0 then 0 else 13
  | s :: _ => if (decS s 4000).2 = true ∧ (decS s 4000).1 = (n : Int) then 0 else 13)
 else 14
/-- what stands while the body is read -/
structure Bs (w W : World) (bx b : Nat) (m p : ByteArray) (fv bv lv : Value) (fs : List S76) : Prop where
 bel : Below w.heap.size w W
 box : W.cell? ⟨bx, 0, none⟩ = some (.pointer (some ⟨b, 0, none⟩))
 rd : Rd W b m p fv bv lv
 row : Kd.R k76 76 W (b + 1) (fun _ => True) fv fs
 lt : bx < W.heap.size
 ge : w.heap.size ≤ bx
theorem Bs.below {w W W' : World} {bx b : Nat} {m p : ByteArray} {fv bv lv : Value} {fs : List S76} (h : Bs w W bx b m p fv bv lv fs) (hb : Below W.heap.size W W') : Bs w W' bx b m p fv bv lv fs :=
 ⟨h.bel.trans (hb.mono h.bel.size), (hb.cell h.lt).trans h.box, h.rd.below hb, Kd.R_below h.row hb, Nat.lt_of_lt_of_le h.lt hb.size, h.ge⟩
theorem Bs.new (w : World) (b : Nat) {m p : ByteArray} {fv bv lv : Value} {fs : List S76} (hr : Rd w b m p fv bv lv) (hf : Kd.R k76 76 w (b + 1) (fun _ => True) fv fs) : Bs w (w.alloc (.cells #[.pointer (some ⟨b, 0, none⟩)] 178)) w.heap.size b m p fv bv lv fs := by
 have hb : Below w.heap.size w (w.alloc (.cells #[.pointer (some ⟨b, 0, none⟩)] 178)) := (Below.refl _ w).alloc (Nat.le_refl _) _
 have hq0 : (w.alloc (.cells #[.pointer (some ⟨b, 0, none⟩)] 178)).heap[w.heap.size]? = some (.cells #[.pointer (some ⟨b, 0, none⟩)] 178) := by show (w.heap.push _)[w.heap.size]? = _; simp
 exact ⟨hb, (blk_cell hq0 0).trans rfl, hr.below hb, Kd.R_below hf hb, by simp, Nat.le_refl _⟩
theorem Bs.call {w W : World} {bx b : Nat} {m p : ByteArray} {fv bv lv : Value} {fs : List S76} (h : Bs w W bx b m p fv bv lv fs) (hl : fs.length < 8796093022208) (hs : ∀ p ∈ fs, p.f0.size ≤ 140737488351232) (nm : ByteArray) (hn : nm.size ≤ 140737488351232) :
  Calls Tryz.prog 148 #[.string nm, .pointer (some ⟨bx, 0, none⟩)] W fun e w' => ∃ A' c', e = .returned (.slice A' (allS fs nm).length c') ∧ (allS fs nm).length ≤ c' ∧ Kd.C Kd.string w' A' (allS fs nm).length (allS fs nm) ∧ Below W.heap.size W w' :=
 body1_any nm m p fv bv lv fs bx b (b + 1) W h.box h.rd h.row hl hs hn
theorem Bs.call2 {w W : World} {bx b : Nat} {m p : ByteArray} {fv bv lv : Value} {fs : List S76} (h : Bs w W bx b m p fv bv lv fs) (hl : fs.length < 8796093022208) (hs : ∀ p ∈ fs, p.f0.size ≤ 140737488351232) (nm : ByteArray) (hn : nm.size ≤ 140737488351232) :
  Calls Tryz.prog 148 #[.string nm, .pointer (some ⟨bx, 0, none⟩)] W fun e w' => ∃ A' c', e = .returned (.slice A' (allS fs nm).length c') ∧ Bs w w' bx b m p fv bv lv fs := by
 refine (h.call hl hs nm hn).mono ?_
 rintro e w' ⟨A', c', h1, h2, h3, h4⟩
 exact ⟨A', c', h1, h.below h4⟩
set_option maxRecDepth 100000 in
set_option maxHeartbeats 2000000 in
theorem body_twice (m p : ByteArray) (fv bv lv : Value) (fs : List S76) (A : Option Addr) (n c b : Nat) (w : World) (hr : Rd w b m p fv bv lv) (hf : Kd.R k76 76 w (b + 1) (fun _ => True) fv fs)
  (hl : fs.length < 8796093022208) (hs : ∀ p ∈ fs, p.f0.size ≤ 140737488351232) (h14 : ¬ ((allS fs hostB).length = 1 ∧ (allS fs teB).length = 0 ∧ (allS fs clB).length ≤ 1)) :
  Calls Tryz.prog 104 #[.pointer (some ⟨b, 0, none⟩), .slice A n c] w fun e w' => e = .panicked (wrongV 14) ∧ Below w.heap.size w w' := by
 have HBS := hid (Bs.new w b hr hf)
 have HC := fun (W : World) (h : Bs w W w.heap.size b m p fv bv lv fs) (nm : ByteArray) (hn : nm.size ≤ 140737488351232) => h.call2 hl hs nm hn
 clear hr hf hs
 have h1 : (allS fs hostB).length ≤ 8796093022208 := Nat.le_trans (allS_len _ _) (by omega)
 have h2 : (allS fs teB).length ≤ 8796093022208 := Nat.le_trans (allS_len _ _) (by omega)
 have h3 : (allS fs clB).length ≤ 8796093022208 := Nat.le_trans (allS_len _ _) (by omega)
 have HC1 := hid (show ∀ (W : World) (h : Bs w W w.heap.size b m p fv bv lv fs), Calls Tryz.prog 148 #[.string ⟨#[72, 111, 115, 116]⟩, .pointer (some ⟨w.heap.size, 0, none⟩)] W fun e w' => ∃ A' c', e = .returned (.slice A' (allS fs hostB).length c') ∧ Bs w w' w.heap.size b m p fv bv lv fs from fun W h => HC W h hostB (by decide))
 have HC2 := hid (show ∀ (W : World) (h : Bs w W w.heap.size b m p fv bv lv fs), Calls Tryz.prog 148 #[.string ⟨#[84, 114, 97, 110, 115, 102, 101, 114, 45, 69, 110, 99, 111, 100, 105, 110, 103]⟩, .pointer (some ⟨w.heap.size, 0, none⟩)] W fun e w' => ∃ A' c', e = .returned (.slice A' (allS fs teB).length c') ∧ Bs w w' w.heap.size b m p fv bv lv fs from fun W h => HC W h teB (by decide))
 have HC3 := hid (show ∀ (W : World) (h : Bs w W w.heap.size b m p fv bv lv fs), Calls Tryz.prog 148 #[.string ⟨#[67, 111, 110, 116, 101, 110, 116, 45, 76, 101, 110, 103, 116, 104]⟩, .pointer (some ⟨w.heap.size, 0, none⟩)] W fun e w' => ∃ A' c', e = .returned (.slice A' (allS fs clB).length c') ∧ Bs w w' w.heap.size b m p fv bv lv fs from fun W h => HC W h clB (by decide))
 clear HC hl
 generalize (allS fs hostB).length = nh at *
 generalize (allS fs teB).length = nt at *
 generalize (allS fs clB).length = nl at *
 have fin : ∀ W, Hid (Bs w W w.heap.size b m p fv bv lv fs) → Below w.heap.size w W := fun W h => h.out.bel
 by_cases c1 : nh = 1
 ·subst c1
  by_cases c2 : nt = 0
  ·subst c2
   have c3 : ¬ nl ≤ 1 := fun h => h14 ⟨rfl, rfl, h⟩
   clear h14
   go_enter Tryz.func104, Tryz.ntmps104
   go_wp2_with first
    | (go_at_call 148; (first | (with_reducible refine (HC3.out _ HBS.out).mono ?_) | (with_reducible refine (HC1.out _ HBS.out).mono ?_) | (with_reducible refine (HC2.out _ HBS.out).mono ?_)); rintro e W1 ⟨A1, c1, rfl, hB1⟩; have HBS := hid hB1; clear hB1)
    | (go_at_call 101; (try rw [decide_eq_false (by omega)]); refine (need_no 14 _).mono ?_; rintro e w2 ⟨rfl, hsame⟩; rw [hsame]; clear hsame w2)
   exact ⟨rfl, rfl, fin _ HBS⟩
  ·clear h14
   have c2' : ((nt : Int) == 0) = false := by simp; omega
   go_enter Tryz.func104, Tryz.ntmps104
   go_wp2_with first
    | (go_at_call 148; (first | (with_reducible refine (HC3.out _ HBS.out).mono ?_) | (with_reducible refine (HC1.out _ HBS.out).mono ?_) | (with_reducible refine (HC2.out _ HBS.out).mono ?_)); rintro e W1 ⟨A1, c1, rfl, hB1⟩; have HBS := hid hB1; clear hB1)
    | (go_at_call 101; (try rw [decide_eq_false (by omega)]); refine (need_no 14 _).mono ?_; rintro e w2 ⟨rfl, hsame⟩; rw [hsame]; clear hsame w2)
   exact ⟨rfl, rfl, fin _ HBS⟩
 ·clear h14
  have c1' : ((nh : Int) == 1) = false := by simp; omega
  go_enter Tryz.func104, Tryz.ntmps104
  go_wp2_with first
   | (go_at_call 148; (first | (with_reducible refine (HC3.out _ HBS.out).mono ?_) | (with_reducible refine (HC1.out _ HBS.out).mono ?_) | (with_reducible refine (HC2.out _ HBS.out).mono ?_)); rintro e W1 ⟨A1, c1, rfl, hB1⟩; have HBS := hid hB1; clear hB1)
   | (go_at_call 101; (try rw [decide_eq_false (by omega)]); refine (need_no 14 _).mono ?_; rintro e w2 ⟨rfl, hsame⟩; rw [hsame]; clear hsame w2)
  exact ⟨rfl, rfl, fin _ HBS⟩
set_option maxRecDepth 100000 in
set_option maxHeartbeats 4000000 in
theorem body_none (m p : ByteArray) (fv bv lv : Value) (fs : List S76) (A : Option Addr) (c b : Nat) (bs : List Int) (w : World) (hr : Rd w b m p fv bv lv) (hf : Kd.R k76 76 w (b + 1) (fun _ => True) fv fs) (hC : Kd.C (Kd.int .u8) w A bs.length bs)
  (hl : fs.length < 8796093022208) (hs : ∀ p ∈ fs, p.f0.size ≤ 140737488351232) (hbs : bs.length ≤ 140737488351232) (h1 : (allS fs hostB).length = 1) (h2 : (allS fs teB).length = 0) (h3 : (allS fs clB).length = 0) :
  Calls Tryz.prog 104 #[.pointer (some ⟨b, 0, none⟩), .slice A bs.length c] w fun e w' => Below b w w' ∧ ((bs.length ≠ 0 ∧ e = .panicked (wrongV 13)) ∨
   (bs.length = 0 ∧ e = .returned (.tuple #[]) ∧ ∃ v, Rd w' b m p fv v lv ∧ Kd.R k76 76 w' (b + 1) (fun _ => True) fv fs ∧ Kd.R (Kd.int .u8) 5 w' (b + 1) (fun _ => True) v bs)) := by
 have HBS := hid (Bs.new w b hr hf)
 have HC := fun (W : World) (h : Bs w W w.heap.size b m p fv bv lv fs) (nm : ByteArray) (hn : nm.size ≤ 140737488351232) => h.call2 hl hs nm hn
 have hblt := hr.lt
 clear hr hf hs
 have HC1 := hid (show ∀ (W : World) (h : Bs w W w.heap.size b m p fv bv lv fs), Calls Tryz.prog 148 #[.string ⟨#[72, 111, 115, 116]⟩, .pointer (some ⟨w.heap.size, 0, none⟩)] W fun e w' => ∃ A' c', e = .returned (.slice A' (allS fs hostB).length c') ∧ Bs w w' w.heap.size b m p fv bv lv fs from fun W h => HC W h hostB (by decide))
 rw [h1] at HC1
 have HC2 := hid (show ∀ (W : World) (h : Bs w W w.heap.size b m p fv bv lv fs), Calls Tryz.prog 148 #[.string ⟨#[84, 114, 97, 110, 115, 102, 101, 114, 45, 69, 110, 99, 111, 100, 105, 110, 103]⟩, .pointer (some ⟨w.heap.size, 0, none⟩)] W fun e w' => ∃ A' c', e = .returned (.slice A' (allS fs teB).length c') ∧ Bs w w' w.heap.size b m p fv bv lv fs from fun W h => HC W h teB (by decide))
 rw [h2] at HC2
 have HC3 := hid (show ∀ (W : World) (h : Bs w W w.heap.size b m p fv bv lv fs), Calls Tryz.prog 148 #[.string ⟨#[67, 111, 110, 116, 101, 110, 116, 45, 76, 101, 110, 103, 116, 104]⟩, .pointer (some ⟨w.heap.size, 0, none⟩)] W fun e w' => ∃ A' c', e = .returned (.slice A' (allS fs clB).length c') ∧ Bs w w' w.heap.size b m p fv bv lv fs from fun W h => HC W h clB (by decide))
 rw [h3] at HC3
 clear HC hl h1 h2 h3
 go_enter Tryz.func104, Tryz.ntmps104
 go_wp2_with first
  | (go_at_call 148; (first | (with_reducible refine (HC3.out _ HBS.out).mono ?_) | (with_reducible refine (HC1.out _ HBS.out).mono ?_) | (with_reducible refine (HC2.out _ HBS.out).mono ?_)); rintro e W1 ⟨A1, c1, rfl, hB1⟩; have HBS := hid hB1; clear hB1)
  | (go_at_call 101; refine (need_yes 14 _).mono ?_; rintro e w2 ⟨rfl, hsame⟩; rw [hsame]; clear hsame w2)
 have HCL := hid (fun (W : World) (h : Below w.heap.size w W) => clone_any A c bs W (b + 1) (Kd.C_below hC h) hbs (Nat.le_trans hblt h.size))
 clear hC
 go_loopw [6, 32] (fun v6 i W => v6 = .int .i64 0 ∧ i = .int .i64 0 ∧ W = W1) (fun _ _ _ => 0)
 case atStart => exact ⟨rfl, rfl, rfl⟩
 case round =>
  obtain ⟨rfl, rfl, rfl⟩ := hrel
  by_cases hz : bs.length = 0
  ·obtain rfl := List.eq_nil_of_length_eq_zero hz
   go_upto_region 13 with first
    | (go_at_call 101; refine (need_yes 13 _).mono ?_; rintro e w2 ⟨rfl, hsame⟩; rw [hsame]; clear hsame w2)
   have hB := HBS.out
   have hbx := hB.box
   clear HC1 HC2 HC3
   have HBel := hid hB.bel
   have HBB := hid (hB.below ((Below.refl _ _).drew))
   clear hB
   go_region_with (go_at_call 150; refine (HCL.out _ HBel.out.drew).mono ?_; rintro e w2 ⟨v', rfl, hrow, hb⟩; have hsl := Kd.R_reads hrow; obtain ⟨A2, c2, rfl, _, _⟩ := hsl; have hB2 := HBB.out.below hb; have hbx2 := hB2.box; obtain ⟨r0, r1, r2, r3, r4⟩ := hB2.rd.cell; have fz := blk_frozen hB2.rd 3; have HB2 := hid hB2; have HROW := hid hrow; clear hB2 hrow hb)
   all_goals
    go_wp2
    go_end0
    exact ⟨(HB2.out.bel.mono (Nat.le_of_lt hblt)).setCell (p := ⟨b, 3, none⟩) (Nat.le_refl _) _, .inr ⟨rfl, rfl, _, HB2.out.rd.setB _, R_past (i := 3) HB2.out.row _, R_past (i := 3) HROW.out _⟩⟩
  ·have hz' : ((0 : Int) == (bs.length : Int)) = false := by simp; omega
   go_wp2_with (go_at_call 101; (try rw [hz']); refine (need_no 13 _).mono ?_; rintro e w2 ⟨rfl, hsame⟩; rw [hsame]; clear hsame w2)
   exact ⟨rfl, HBS.out.bel.mono (Nat.le_of_lt hblt), .inl ⟨hz, rfl⟩⟩
theorem Bs.call3 {w W : World} {bx b : Nat} {m p : ByteArray} {fv bv lv : Value} {fs : List S76} (h : Bs w W bx b m p fv bv lv fs) (hl : fs.length < 8796093022208) (hs : ∀ p ∈ fs, p.f0.size ≤ 140737488351232) (nm : ByteArray) (hn : nm.size ≤ 140737488351232) :
  Calls Tryz.prog 148 #[.string nm, .pointer (some ⟨bx, 0, none⟩)] W fun e w' => ∃ A' c', e = .returned (.slice A' (allS fs nm).length c') ∧ Bs w w' bx b m p fv bv lv fs ∧ Below W.heap.size W w' := by
 refine (h.call hl hs nm hn).mono ?_
 rintro e w' ⟨A', c', h1, h2, h3, h4⟩
 exact ⟨A', c', h1, h.below h4, h4⟩
theorem Bs.callOne {w W : World} {bx b : Nat} {m p : ByteArray} {fv bv lv : Value} {fs : List S76} (h : Bs w W bx b m p fv bv lv fs) (hl : fs.length < 8796093022208) (hs : ∀ p ∈ fs, p.f0.size ≤ 140737488351232) (nm : ByteArray) (hn : nm.size ≤ 140737488351232) (x : ByteArray) (hx : allS fs nm = [x]) :
  Calls Tryz.prog 148 #[.string nm, .pointer (some ⟨bx, 0, none⟩)] W fun e w' => ∃ ad c', e = .returned (.slice (some ad) 1 c') ∧ w'.cell? ad = some (.string x) ∧ Bs w w' bx b m p fv bv lv fs := by
 refine (h.call hl hs nm hn).mono ?_
 rintro e w' ⟨A', c', h1, h2, h3, h4⟩
 rw [hx] at h1 h3
 obtain ⟨ad, rfl, hc⟩ := Kd.at_string h3 0 (by omega) (by simp)
 exact ⟨ad, c', h1, hc, h.below h4⟩
set_option maxRecDepth 100000 in
set_option maxHeartbeats 4000000 in
theorem body_one (m p : ByteArray) (fv bv lv : Value) (fs : List S76) (A : Option Addr) (c b : Nat) (bs : List Int) (x : ByteArray) (w : World) (hr : Rd w b m p fv bv lv) (hf : Kd.R k76 76 w (b + 1) (fun _ => True) fv fs) (hC : Kd.C (Kd.int .u8) w A bs.length bs)
  (hl : fs.length < 8796093022208) (hs : ∀ p ∈ fs, p.f0.size ≤ 140737488351232) (hbs : bs.length ≤ 140737488351232) (h1 : (allS fs hostB).length = 1) (h2 : (allS fs teB).length = 0) (h3 : allS fs clB = [x]) :
  Calls Tryz.prog 104 #[.pointer (some ⟨b, 0, none⟩), .slice A bs.length c] w fun e w' => Below b w w' ∧ ((¬ ((decS x 4000).2 = true ∧ (decS x 4000).1 = (bs.length : Int)) ∧ e = .panicked (wrongV 13)) ∨
   (((decS x 4000).2 = true ∧ (decS x 4000).1 = (bs.length : Int)) ∧ e = .returned (.tuple #[]) ∧ ∃ v, Rd w' b m p fv v lv ∧ Kd.R k76 76 w' (b + 1) (fun _ => True) fv fs ∧ Kd.R (Kd.int .u8) 5 w' (b + 1) (fun _ => True) v bs)) := by
 have HBS := hid (Bs.new w b hr hf)
 have HC := fun (W : World) (h : Bs w W w.heap.size b m p fv bv lv fs) (nm : ByteArray) (hn : nm.size ≤ 140737488351232) => h.call3 hl hs nm hn
 have HD := fun (W : World) (h : Bs w W w.heap.size b m p fv bv lv fs) => h.callOne hl hs clB (by decide) x h3
 have hblt := hr.lt
 clear hr hf hs
 have HC1 := hid (show ∀ (W : World) (h : Bs w W w.heap.size b m p fv bv lv fs), Calls Tryz.prog 148 #[.string ⟨#[72, 111, 115, 116]⟩, .pointer (some ⟨w.heap.size, 0, none⟩)] W fun e w' => ∃ A' c', e = .returned (.slice A' (allS fs hostB).length c') ∧ Bs w w' w.heap.size b m p fv bv lv fs ∧ Below W.heap.size W w' from fun W h => HC W h hostB (by decide))
 rw [h1] at HC1
 have HC2 := hid (show ∀ (W : World) (h : Bs w W w.heap.size b m p fv bv lv fs), Calls Tryz.prog 148 #[.string ⟨#[84, 114, 97, 110, 115, 102, 101, 114, 45, 69, 110, 99, 111, 100, 105, 110, 103]⟩, .pointer (some ⟨w.heap.size, 0, none⟩)] W fun e w' => ∃ A' c', e = .returned (.slice A' (allS fs teB).length c') ∧ Bs w w' w.heap.size b m p fv bv lv fs ∧ Below W.heap.size W w' from fun W h => HC W h teB (by decide))
 rw [h2] at HC2
 have HC3 := hid (show ∀ (W : World) (h : Bs w W w.heap.size b m p fv bv lv fs), Calls Tryz.prog 148 #[.string ⟨#[67, 111, 110, 116, 101, 110, 116, 45, 76, 101, 110, 103, 116, 104]⟩, .pointer (some ⟨w.heap.size, 0, none⟩)] W fun e w' => ∃ ad c', e = .returned (.slice (some ad) 1 c') ∧ w'.cell? ad = some (.string x) ∧ Bs w w' w.heap.size b m p fv bv lv fs from HD)
 clear HC HD hl h1 h2 h3
 have HDEC := hid (decimal_any x 4000)
 generalize (decS x 4000).1 = dn at *
 generalize (decS x 4000).2 = dk at *
 have HCL := hid (fun (W : World) (h : Below w.heap.size w W) => clone_any A c bs W (b + 1) (Kd.C_below hC h) hbs (Nat.le_trans hblt h.size))
 clear hC
 go_enter Tryz.func104, Tryz.ntmps104
 go_wp2_with first
  | (go_at_call 148; with_reducible refine (HC3.out _ HBS.out).mono ?_; rintro e W1 ⟨ad, cc1, rfl, hx1, hB1⟩; have HBS := hid hB1; have HX := hid hx1; clear hB1 hx1)
  | (go_at_call 148; (first | (with_reducible refine (HC1.out _ HBS.out).mono ?_) | (with_reducible refine (HC2.out _ HBS.out).mono ?_)); rintro e W2 ⟨A2, c2, rfl, hB1, hb1⟩; have HBS := hid hB1; have HX := hid ((hb1.cell (World.block_lt_of_cell? _ _ HX.out)).trans HX.out); clear hB1 hb1)
  | (go_at_call 101; refine (need_yes 14 _).mono ?_; rintro e w2 ⟨rfl, hsame⟩; rw [hsame]; clear hsame w2)
 clear HC1 HC2 HC3
 go_loopw [6, 32] (fun v6 i W => (v6 = .int .i64 0 ∧ i = .int .i64 0 ∧ W = W2) ∨ (v6 = .int .i64 dn ∧ i = .int .i64 1 ∧ dk = true ∧ Hid (Bs w W w.heap.size b m p fv bv lv fs))) (fun _ i _ => 1 - (intOf i).toNat)
 case atStart => exact .inl ⟨rfl, rfl, rfl⟩
 case round =>
  have hz : ad.add 0 = ad := rfl
  rcases hrel with ⟨rfl, rfl, rfl⟩ | ⟨rfl, rfl, hok, HBS⟩
  ·have hx := HX.out
   have HD1 := hid (HDEC.out wr)
   clear HCL HDEC
   cases dk with
   | false =>
    go_wp2_with first
     | (go_at_call 149; refine HD1.out.mono ?_; rintro e W3 ⟨rfl, hb⟩; have HBS := hid (HBS.out.below hb); clear hb)
     | (go_at_call 101; refine (need_no 13 _).mono ?_; rintro e w2 ⟨rfl, hsame⟩; rw [hsame]; clear hsame w2)
    exact ⟨rfl, HBS.out.bel.mono (Nat.le_of_lt hblt), .inl ⟨fun h => by simp at h, rfl⟩⟩
   | true =>
    go_wp2_with first
     | (go_at_call 149; refine HD1.out.mono ?_; rintro e W3 ⟨rfl, hb⟩; have HBS := hid (HBS.out.below hb); clear hb)
     | (go_at_call 101; refine (need_yes 13 _).mono ?_; rintro e w2 ⟨rfl, hsame⟩; rw [hsame]; clear hsame w2)
    go_roundw
    case rel => exact .inr ⟨rfl, by go_num, by simp, HBS⟩
    case measure => first | omega | (simp [intOf]; done) | (simp [intOf]; omega)
  ·subst hok
   by_cases hz : dn = (bs.length : Int)
   ·subst hz
    go_upto_region 13 with first
     | (go_at_call 101; refine (need_yes 13 _).mono ?_; rintro e w2 ⟨rfl, hsame⟩; rw [hsame]; clear hsame w2)
    have hB := HBS.out
    have hbx := hB.box
    have HBel := hid hB.bel
    have HBB := hid (hB.below ((Below.refl _ _).drew))
    clear hB
    go_region_with (go_at_call 150; refine (HCL.out _ HBel.out.drew).mono ?_; rintro e w2 ⟨v', rfl, hrow, hb⟩; have hsl := Kd.R_reads hrow; obtain ⟨A2, c2, rfl, _, _⟩ := hsl; have hB2 := HBB.out.below hb; have hbx2 := hB2.box; obtain ⟨r0, r1, r2, r3, r4⟩ := hB2.rd.cell; have fz := blk_frozen hB2.rd 3; have HB2 := hid hB2; have HROW := hid hrow; clear hB2 hrow hb)
    all_goals
     go_wp2
     go_end0
     exact ⟨(HB2.out.bel.mono (Nat.le_of_lt hblt)).setCell (p := ⟨b, 3, none⟩) (Nat.le_refl _) _, by first | exact .inr ⟨⟨rfl, rfl⟩, rfl, _, HB2.out.rd.setB _, R_past (i := 3) HB2.out.row _, R_past (i := 3) HROW.out _⟩ | exact ⟨rfl, _, HB2.out.rd.setB _, R_past (i := 3) HB2.out.row _, R_past (i := 3) HROW.out _⟩⟩
   ·have hz' : (dn == (bs.length : Int)) = false := by simpa using hz
    go_wp2_with (go_at_call 101; (try rw [hz']); refine (need_no 13 _).mono ?_; rintro e w2 ⟨rfl, hsame⟩; rw [hsame]; clear hsame w2)
    exact ⟨rfl, HBS.out.bel.mono (Nat.le_of_lt hblt), by first | exact .inl ⟨fun h => hz h.2, rfl⟩ | rfl⟩
end Go.Proofs.YthdiiiopjkaifaaGreatDoor.Pl

/-
  resp.Parse, as a walk.
-/
import Derived.Test.YtpfbemcoblganaaDoorQpRp
import Derived.Test.YtpfbemcoblganaaDoorQpFlds
import Derived.Test.YtpfbemcoblganaaDoorQpPall19
import Derived.Deep.RegionLaw
namespace Go.Proofs.YtpfbemcoblganaaDoor.Pl
open Go.RowKit Go.Proofs.YtpfbemcoblganaaDoor.Pall Go.Proofs.YtpfbemcoblganaaDoorW.PrintWords Go.Proofs.YtpfbemcoblganaaDoorW.PrintLast
set_option linter.unusedVariables false
set_option linter.unusedSimpArgs false
/-- what stands while a response is parsed: the result's box, and the response's own -/
structure Pw (w W0 W : World) (st : Int) (fv bv : Value) (fs : List S43) : Prop where
  q : Bx w W0 #[.int .i64 0, .slice none 0 0, .slice none 0 0]
  bel : Below W0.heap.size W0 W
  lt : W0.heap.size < W.heap.size
  box : W.heap[W0.heap.size]? = some (.cells #[.int .i64 st, fv, bv] 51 (0, 0))
  row : Kd.R k43 43 W (W0.heap.size + 1) (fun _ => True) fv fs
theorem Pw.all {w W0 W : World} {st : Int} {fv bv : Value} {fs : List S43} (h : Pw w W0 W st fv bv fs) : Bx w W #[.int .i64 0, .slice none 0 0, .slice none 0 0] :=
  h.q.below h.bel
theorem Pw.below {w W0 W W' : World} {st : Int} {fv bv : Value} {fs : List S43} (h : Pw w W0 W st fv bv fs) (hb : Below W.heap.size W W') : Pw w W0 W' st fv bv fs :=
  ⟨h.q, h.bel.trans (hb.mono h.bel.size), Nat.lt_of_lt_of_le h.lt hb.size, blk_below h.box hb, Kd.R_below h.row hb⟩
theorem Pw.new {w W0 : World} (q : Bx w W0 #[.int .i64 0, .slice none 0 0, .slice none 0 0]) : Pw w W0 (W0.alloc (.cells #[.int .i64 0, .slice none 0 0, .slice none 0 0] 51)) 0 (.slice none 0 0) (.slice none 0 0) [] :=
  ⟨q, (Below.refl _ _).alloc (Nat.le_refl _) _, by show _ < (W0.heap.push _).size; simp, blk_new W0 _, Kd.R_nil _ _ _ _ _⟩
theorem Pw.setS {w W0 W : World} {st : Int} {fv bv : Value} {fs : List S43} (h : Pw w W0 W st fv bv fs) (n : Int) : Pw w W0 (W.setCell ⟨W0.heap.size, 0, none⟩ (.int .i64 n)) n fv bv fs :=
  ⟨h.q, h.bel.setCell (p := ⟨W0.heap.size, 0, none⟩) (Nat.le_refl _) _, by simpa [World.setCell] using h.lt, heap_setCell_same W W0.heap.size 0 _ _ _ h.box, R_past (i := 0) h.row _⟩
theorem Pw.setB {w W0 W : World} {st : Int} {fv bv : Value} {fs : List S43} (h : Pw w W0 W st fv bv fs) (v : Value) : Pw w W0 (W.setCell ⟨W0.heap.size, 2, none⟩ v) st fv v fs :=
  ⟨h.q, h.bel.setCell (p := ⟨W0.heap.size, 2, none⟩) (Nat.le_refl _) _, by simpa [World.setCell] using h.lt, heap_setCell_same W W0.heap.size 2 _ _ _ h.box, R_past (i := 2) h.row _⟩
theorem Pw.cells {w W0 W : World} {st : Int} {fv bv : Value} {fs : List S43} (h : Pw w W0 W st fv bv fs) : W.cell? ⟨W0.heap.size, 0, none⟩ = some (.int .i64 st) ∧ W.cell? ⟨W0.heap.size, 1, none⟩ = some fv ∧ W.cell? ⟨W0.heap.size, 2, none⟩ = some bv := ⟨blk_cell h.box 0, blk_cell h.box 1, blk_cell h.box 2⟩
theorem Pw.grow {w W0 W W' : World} {st : Int} {fv bv v1 : Value} {fs fs' : List S43} (h : Pw w W0 W st fv bv fs) (hb : Below (W0.heap.size + 1) W W') (hg : W.grownBy W' fv.ownBlock) (hrow : Kd.R k43 43 W' (W0.heap.size + 1) (fun _ => True) v1 fs') : Pw w W0 (W'.setCell ⟨W0.heap.size, 1, none⟩ v1) st v1 bv fs' :=
  ⟨h.q, (h.bel.trans (hb.mono (Nat.le_succ _))).setCell (p := ⟨W0.heap.size, 1, none⟩) (Nat.le_refl _) _, by have h1 := Nat.lt_of_lt_of_le h.lt hb.size; simpa [World.setCell] using h1, heap_setCell_same W' W0.heap.size 1 _ _ _ ((hg.block _ h.lt (own_ne h.row)).trans h.box), R_past (i := 1) hrow _⟩
def RsGot (w : World) (st : Int) (fs : List S43) (body : List Int) (er : Int) (e : Ending) (w' : World) : Prop :=
  ∃ v1_ v2_ : Value, e = .returned (.tuple #[.agg #[.int .i64 st, v1_, v2_], .int .u16 er]) ∧ Kd.R k43 43 w' w.heap.size (fun _ => True) v1_ fs ∧ Kd.R (Kd.int .u8) 5 w' w.heap.size (fun _ => True) v2_ body ∧ Below w.heap.size w w'
def LinesOk (A0 : Option Addr) (c0 : Nat) (l0 : List Int) (w : World) (lines : List ByteArray) (at_ : Int) (ok : Bool) : Prop :=
  ∀ W, Below w.heap.size w W → Calls Tryd.prog 25 #[.slice A0 l0.length c0] W fun e w' => ∃ v0_ : Value, e = .returned (.tuple #[v0_, .int .i64 at_, .bool ok]) ∧ Kd.R Kd.string 9 w' W.heap.size (fun _ => True) v0_ lines ∧ Below W.heap.size W w'
theorem rs_out {w W : World} {o0 o1 o2 : Value} (hq : Bx w W #[o0, o1, o2]) (tmps : Array Value) (st er : Int) (fv bv : Value) (fs : List S43) (body : List Int) (h2 : tmps.getD 2 undef = .pointer (some ⟨w.heap.size, 0, none⟩)) (h3 : tmps.getD 3 undef = .int .u16 er)
    (hf : Kd.R k43 43 W (w.heap.size + 1) (fun _ => True) fv fs) (hb : Kd.R (Kd.int .u8) 5 W (w.heap.size + 1) (fun _ => True) bv body) :
    bodyPost Tryd.prog Tryd.f35 (RsGot w st fs body er) Exit.ret { tmps := tmps, defers := [] } (((W.setCell ⟨w.heap.size, 0, none⟩ (.int .i64 st)).setCell ⟨w.heap.size, 1, none⟩ fv).setCell ⟨w.heap.size, 2, none⟩ bv) := by
  have q1 := blk_put hq.box 0 (.int .i64 st) (cs' := #[.int .i64 st, o1, o2]) rfl
  have q2 := blk_put q1 1 fv (cs' := #[.int .i64 st, fv, o2]) rfl
  have q3 := blk_put q2 2 bv (cs' := #[.int .i64 st, fv, bv]) rfl
  refine bodyPost_ret (results_ct rfl tmps _ w.heap.size 51 #[.int .i64 st, fv, bv] (0, 0) _ h2 q3 Tryd.underlying51 rfl (by kernel_rfl)) rfl ?_
  rw [h3]
  exact ⟨_, _, rfl, Kd.R_lower (R_past (i := 2) (R_past (i := 1) (R_past (i := 0) hf _) _) _) (Nat.le_succ _), Kd.R_lower (R_past (i := 2) (R_past (i := 1) (R_past (i := 0) hb _) _) _) (Nat.le_succ _),
    ((hq.bel.setCell (p := ⟨w.heap.size, 0, none⟩) (Nat.le_refl _) _).setCell (p := ⟨w.heap.size, 1, none⟩) (Nat.le_refl _) _).setCell (p := ⟨w.heap.size, 2, none⟩) (Nat.le_refl _) _⟩
set_option maxRecDepth 100000 in
set_option maxHeartbeats 2000000 in
theorem rparse_form (A0 : Option Addr) (c0 : Nat) (l0 : List Int) (lines : List ByteArray) (at_ : Int) (ok : Bool) (w : World) (hL : LinesOk A0 c0 l0 w lines at_ ok)
    (hno : ok = false ∨ lines.length < 2) :
    Calls Tryd.prog 35 #[.slice A0 l0.length c0] w (RsGot w 0 [] [] 10) := by
  have hu := Tryd.underlying51
  have HQ0 := hid (Bx.new w #[.int .i64 0, .slice none 0 0, .slice none 0 0])
  have HL := hid (hL _ HQ0.out.bel)
  clear hL
  cases ok with
  | false =>
    clear hno
    go_enter Tryd.func35, Tryd.ntmps35
    go_wp2_with (go_at_call 25; refine HL.out.mono ?_; rintro e W1 ⟨v0, rfl, hR, hb⟩; have HQ := hid (HQ0.out.below hb); have hx := HQ.out.cells; obtain ⟨x0, x1, x2⟩ := hx; have z0 := blk_frozen HQ.out.box 0; have z1 := blk_frozen HQ.out.box 1; have z2 := blk_frozen HQ.out.box 2; have hsl := Kd.R_reads hR; obtain ⟨A1, c1, rfl, _, _⟩ := hsl; clear hb hR)
    refine rs_out HQ.out _ 0 10 _ _ _ _ ?_ ?_ (Kd.R_nil _ _ _ _ _) (Kd.R_nil _ _ _ _ _) <;> rfl
  | true =>
    have hno : (lines.length : Int) < 2 := by rcases hno with h | h <;> simp_all; omega
    go_enter Tryd.func35, Tryd.ntmps35
    go_wp2_with (go_at_call 25; refine HL.out.mono ?_; rintro e W1 ⟨v0, rfl, hR, hb⟩; have HQ := hid (HQ0.out.below hb); have hx := HQ.out.cells; obtain ⟨x0, x1, x2⟩ := hx; have z0 := blk_frozen HQ.out.box 0; have z1 := blk_frozen HQ.out.box 1; have z2 := blk_frozen HQ.out.box 2; have hsl := Kd.R_reads hR; obtain ⟨A1, c1, rfl, _, _⟩ := hsl; clear hb hR)
    refine rs_out HQ.out _ 0 10 _ _ _ _ ?_ ?_ (Kd.R_nil _ _ _ _ _) (Kd.R_nil _ _ _ _ _) <;> rfl
def midL (lines : List ByteArray) : List ByteArray := (lines.take (lines.length - 1)).drop 1
theorem cut_lines (A : Option Addr) (c : Nat) (xs : List ByteArray) (hn : 2 ≤ xs.length) (hc : xs.length ≤ c) :
    ∃ (A' : Option Addr) (c' : Nat), (∀ W : World, (Instr.slice 31 (.slice A xs.length c) (some (.int .i64 1)) (some (.int .i64 ((xs.length : Int) - 1))) none).run Tryd.prog W = .ok (.slice A' (midL xs).length c') W) ∧ (midL xs).length ≤ c' ∧
      ∀ W : World, Kd.C Kd.string W A xs.length xs → Kd.C Kd.string W A' (midL xs).length (midL xs) := by
  obtain ⟨i, hi, _, hz, _⟩ := info_parts info9
  have h1 := cut_mid (P := Tryd.prog) 31 9 .i64 .i64 Tryd.underlying31 hi 1 hz A xs.length c 1 ((xs.length : Int) - 1) (by omega) (by omega) (by omega) hc
  have e1 : ((xs.length : Int) - 1).toNat = xs.length - 1 := by omega
  have hl : (midL xs).length = (xs.length - 1) - 1 := by unfold midL; rw [List.length_drop, List.length_take]; omega
  rw [e1, show (1 : Int).toNat = 1 from rfl, ← hl] at h1
  refine ⟨_, _, h1, by rw [hl]; omega, fun W h => ?_⟩
  have h2 := Kd.C_mid (lo := 1) (hi := xs.length - 1) (c := c) h (by omega) (by omega) hc
  rw [Nat.mul_one]
  exact h2
theorem line0_at {lines : List ByteArray} {A : Option Addr} {W : World} (hC : Kd.C Kd.string W A lines.length lines) (h : 2 ≤ lines.length) : ∃ ad, A = some ad ∧ W.cell? ad = some (.string (lines.getD 0 ByteArray.empty)) := by
  obtain ⟨ad, e, h1⟩ := Kd.at_string hC 0 (by omega) (by omega)
  rw [show ((0 : Int)).toNat = 0 from rfl, Addr.add_zero'] at h1
  exact ⟨ad, e, h1⟩
set_option maxRecDepth 100000 in
set_option maxHeartbeats 2000000 in
theorem rparse_short (A0 : Option Addr) (c0 : Nat) (l0 : List Int) (lines : List ByteArray) (at_ : Int) (w : World) (hL : LinesOk A0 c0 l0 w lines at_ true) (h1 : 2 ≤ lines.length) (h2 : (lines.getD 0 ByteArray.empty).size < 12) :
    Calls Tryd.prog 35 #[.slice A0 l0.length c0] w (RsGot w 0 [] [] 10) := by
  have hu := Tryd.underlying51
  have HQ0 := hid (Bx.new w #[.int .i64 0, .slice none 0 0, .slice none 0 0])
  have HL := hid (hL _ HQ0.out.bel)
  have HF := hid (fun (W : World) (A : Option Addr) (hC : Kd.C Kd.string W A lines.length lines) => line0_at hC h1)
  clear hL
  generalize lines.getD 0 ByteArray.empty = x at *
  have h2' : (x.size : Int) < 12 := by omega
  have h1' : ¬ ((lines.length : Int) < 2) := by omega
  have h3' : (0 : Int) < (lines.length : Int) := by omega
  go_enter Tryd.func35, Tryd.ntmps35
  go_wp2_with (go_at_call 25; refine HL.out.mono ?_; rintro e W1 ⟨v0, rfl, hR, hb⟩; have HQ := hid (HQ0.out.below hb); have hx := HQ.out.cells; obtain ⟨x0, x1, x2⟩ := hx; have z0 := blk_frozen HQ.out.box 0; have z1 := blk_frozen HQ.out.box 1; have z2 := blk_frozen HQ.out.box 2; have hsl := Kd.R_reads hR; obtain ⟨A1, c1, rfl, _, hC⟩ := hsl; have hat := HF.out _ _ hC; obtain ⟨ad, rfl, hl0⟩ := hat; clear hb hR hC)
  refine rs_out HQ.out _ 0 10 _ _ _ _ ?_ ?_ (Kd.R_nil _ _ _ _ _) (Kd.R_nil _ _ _ _ _) <;> rfl
theorem fld_sizes (l : ByteArray) (h : (fieldS l).2.2 = 0) : (fldS l).f0.size ≤ 140737488351232 ∧ (fldS l).f1.size ≤ 140737488351232 := by
  refine ⟨fld_size l h, ?_⟩
  show (fieldS l).2.1.size ≤ _
  unfold fieldS at h ⊢
  split at h
  · exact absurd h (by decide)
  · rename_i hl
    rw [if_neg hl]
    split at h
    · exact absurd h (by decide)
    · rename_i h2
      rw [if_neg h2]
      split at h
      · rename_i h3
        rw [if_pos h3]
        show (mkB _).size ≤ _
        have h4 := trimL_le (l.data.toList.drop (pos l.data.toList 58 + 1))
        rw [List.length_drop, len_data] at h4
        rw [mkB_size]
        omega
      · exact absurd h (by decide)
theorem midL_len (lines : List ByteArray) : (midL lines).length = lines.length - 1 - 1 := by unfold midL; rw [List.length_drop, List.length_take]; omega
theorem rowC {α : Type} {d : Kd α} {e b : Nat} {W : World} {A : Option Addr} {n c : Nat} {xs : List α} (h : d.R e W b (fun _ => True) (.slice A n c) xs) : d.C W A xs.length xs := (Kd.R_reads' h).2.2
theorem fldsE_mem : ∀ (ml : List ByteArray), fldsE ml = 0 → ∀ l ∈ ml, (fieldS l).2.2 = 0
  | [], _, l, hl => by cases hl
  | x :: r, hE, l, hl => by
    unfold fldsE at hE
    by_cases hx : (fieldS x).2.2 = 0
    · rw [if_pos hx] at hE
      rcases List.mem_cons.1 hl with rfl | hl
      · exact hx
      · exact fldsE_mem r hE l hl
    · rw [if_neg hx] at hE; exact absurd hE hx
theorem rs_print (st : Int) (ml : List ByteArray) (bd : List Int) (hE : fldsE ml = 0) (W : World) (hT : Tb W) (A1 : Option Addr) (c1 : Nat) (A2 : Option Addr) (c2 : Nat) (h1 : Kd.C k43 W A1 (ml.map fldS).length (ml.map fldS)) (h2 : (ml.map fldS).length ≤ c1) (h3 : Kd.C (Kd.int .u8) W A2 bd.length bd) (h4 : bd.length ≤ c2) :
    Calls Tryd.prog 27 #[.agg #[.int .i64 st, .slice A1 (ml.map fldS).length c1, .slice A2 bd.length c2]] W fun e w' => ∃ v0_ : Value, e = .returned (.tuple #[v0_, .int .u16 (prS st (ml.map fldS) bd).2]) ∧ Kd.R (Kd.int .u8) 5 w' W.heap.size (fun _ => True) v0_ (prS st (ml.map fldS) bd).1 ∧ Below W.heap.size W w' := by
  have hsm : smallF (ml.map fldS) = true := by
    unfold smallF
    rw [List.all_eq_true]
    intro p hp
    obtain ⟨l, hl, rfl⟩ := List.mem_map.1 hp
    exact decide_eq_true (fld_sizes l (fldsE_mem ml hE l hl))
  exact resp_Print.calls st A1 c1 (ml.map fldS) A2 c2 bd _ _ W h1 h2 h3 h4 hT (by unfold resp_Print.f; rw [if_pos hsm])
set_option maxRecDepth 100000 in
set_option maxHeartbeats 4000000 in
theorem rparse_go (A0 : Option Addr) (c0 : Nat) (l0 : List Int) (lines : List ByteArray) (m : Nat) (w : World) (hL : LinesOk A0 c0 l0 w lines (m : Int) true) (h1 : 2 ≤ lines.length) (h2 : 12 ≤ (lines.getD 0 ByteArray.empty).size)
    (hS : Sh w) (hT : Tb w) (hC : Kd.C (Kd.int .u8) w A0 l0.length l0) (hc0 : l0.length ≤ c0) (hm : m ≤ l0.length) (hl0 : l0.length ≤ 4294967281) (hln : lines.length ≤ 4294967290) (st er : Int) (fs : List S43) (body : List Int)
    (hE1 : fldsE (midL lines) ≠ 0 → st = 0 ∧ fs = [] ∧ body = [] ∧ er = 10)
    (hE2 : fldsE (midL lines) = 0 → (prS (decS ((lines.getD 0 ByteArray.empty).extract 9 12) 999).1 ((midL lines).map fldS) (l0.drop m)).2 ≠ 0 → st = 0 ∧ fs = [] ∧ body = [] ∧ er = 10)
    (hE3 : fldsE (midL lines) = 0 → (prS (decS ((lines.getD 0 ByteArray.empty).extract 9 12) 999).1 ((midL lines).map fldS) (l0.drop m)).2 = 0 → ((strOfNums l0).toList == (strOfNums (prS (decS ((lines.getD 0 ByteArray.empty).extract 9 12) 999).1 ((midL lines).map fldS) (l0.drop m)).1).toList) = false → st = 0 ∧ fs = [] ∧ body = [] ∧ er = 10)
    (hE4 : fldsE (midL lines) = 0 → (prS (decS ((lines.getD 0 ByteArray.empty).extract 9 12) 999).1 ((midL lines).map fldS) (l0.drop m)).2 = 0 → ((strOfNums l0).toList == (strOfNums (prS (decS ((lines.getD 0 ByteArray.empty).extract 9 12) 999).1 ((midL lines).map fldS) (l0.drop m)).1).toList) = true → st = (decS ((lines.getD 0 ByteArray.empty).extract 9 12) 999).1 ∧ fs = (midL lines).map fldS ∧ body = l0.drop m ∧ er = 0) :
    Calls Tryd.prog 35 #[.slice A0 l0.length c0] w (RsGot w st fs body er) := by
  have hu := Tryd.underlying51
  have hu43 := Tryd.underlying43
  have HQ0 := hid (Bx.new w #[.int .i64 0, .slice none 0 0, .slice none 0 0])
  have HL := hid (hL _ HQ0.out.bel)
  have HF := hid (fun (W : World) (A : Option Addr) (hC : Kd.C Kd.string W A lines.length lines) => line0_at hC h1)
  have HSS := hid (fun (W : World) (h : Below w.heap.size w W) => hS.of_below h)
  have HCM := hid (fun (A : Option Addr) (c : Nat) (hc : lines.length ≤ c) => cut_lines A c lines h1 hc)
  have HML := hid (midL_len lines)
  have HC0 := hid hC
  have HT := hid (fun (W : World) (h : Below w.heap.size w W) => hT.of_below h)
  have HPR := hid (rs_print (decS ((lines.getD 0 ByteArray.empty).extract 9 12) 999).1 (midL lines) (l0.drop m))
  have HEQ := hid (fun (W : World) (A : Option Addr) (c : Nat) (xs : List Int) (h : Below w.heap.size w W) (hx : Kd.C (Kd.int .u8) W A xs.length xs) (hc : xs.length ≤ c) => bytes_Equal.calls A0 c0 l0 A c xs ((strOfNums l0).toList == (strOfNums xs).toList) W (Kd.C_below hC h) hc0 hx hc rfl)
  obtain ⟨B1, hcutb, hcd⟩ := cut_bytes A0 c0 l0 m hm hc0
  have HCD := hid (fun (W : World) (h : Below w.heap.size w W) => hcd W (Kd.C_below hC h))
  have hlm : (l0.drop m).length ≤ 140737488351232 := by rw [List.length_drop]; omega
  have hlc : (l0.drop m).length ≤ c0 - m := by rw [List.length_drop]; omega
  have HE1 := hid hE1
  have HE2 := hid hE2
  have HE3 := hid hE3
  have HE4 := hid hE4
  have hw64 : wrap64 ((lines.length : Int) - 1) = (lines.length : Int) - 1 := wrap_id (by omega) (by omega)
  clear hL hC hcd hT hS hE1 hE2 hE3 hE4
  generalize l0.drop m = bd at *
  generalize midL lines = ml at *
  generalize lines.getD 0 ByteArray.empty = x at *
  have h2' : ¬ (x.size : Int) < 12 := by omega
  have h2'' : (12 : Int) ≤ (x.size : Int) := by omega
  have h1' : ¬ ((lines.length : Int) < 2) := by omega
  have h3' : (0 : Int) < (lines.length : Int) := by omega
  have HDC := hid (fun W => decimal_any (x.extract 9 12) 999 W)
  generalize (decS (x.extract 9 12) 999).1 = dn at *
  generalize prS dn (ml.map fldS) bd = pr at *
  generalize (decS (x.extract 9 12) 999).2 = dk at *
  go_enter Tryd.func35, Tryd.ntmps35
  go_upto_region 6 with (first
    | (go_at_call 25; refine HL.out.mono ?_; rintro e W1 ⟨v0, rfl, hR, hb⟩; have HQ := hid (HQ0.out.below hb); have hx := HQ.out.cells; obtain ⟨x0, x1, x2⟩ := hx; have z0 := blk_frozen HQ.out.box 0; have z1 := blk_frozen HQ.out.box 1; have z2 := blk_frozen HQ.out.box 2; have hsl := Kd.R_reads hR; obtain ⟨A1, c1, rfl, hcc, hC⟩ := hsl; have HC1 := hid hC; have hat := HF.out _ _ hC; obtain ⟨ad, rfl, hl0⟩ := hat; have hl1 : (W1.alloc (.cells #[.int .i64 0, .slice none 0 0, .slice none 0 0] 51)).cell? ad = some (.string x) := (((Below.refl W1.heap.size W1).alloc (Nat.le_refl _) _).cell (World.block_lt_of_cell? _ _ hl0)).trans hl0; clear hb hR hC)
    | (go_at_call 58; refine (HDC.out _).mono ?_; rintro e W2 ⟨rfl, hb⟩; have hp := (Pw.new HQ.out).below hb; have hx := hp.cells; obtain ⟨y0, y1, y2⟩ := hx; have w0 := blk_frozen hp.box 0; have HP := hid hp; clear hp hb))
  have HP1 := hid (HP.out.setS dn)
  have hy := HP1.out.cells
  clear y0 y1 y2 w0 x0 x1 x2 z0 z1 z2 hl0 hl1 HP HL HF HDC
  obtain ⟨y0, y1, y2⟩ := hy
  obtain ⟨A2, c2, hcut, hcl, hcc2⟩ := HCM.out (some ad) c1 hcc
  have HM := hid (hcc2 W1 HC1.out)
  clear hcc2 HC1 HCM
  generalize W2.setCell ⟨W1.heap.size, 0, none⟩ (.int .i64 dn) = W3 at *
  go_wp2
  go_loopw [50] (fun i W => ∃ (j : Nat) (fv : Value), j ≤ ml.length ∧ i = .int .i64 (j : Int) ∧ Hid (Pw w W1 W dn fv (.slice none 0 0) ((ml.take j).map fldS)) ∧ Hid (fldsE (ml.take j) = 0)) (fun i _ => ml.length - (intOf i).toNat)
  case atStart => exact ⟨0, _, Nat.zero_le _, rfl, hid HP1.out, hid rfl⟩
  case round =>
    obtain ⟨j, fv, hj, rfl, HP, HE⟩ := hrel
    have hx := HP.out.cells
    obtain ⟨y0, y1, y2⟩ := hx
    have HQ := hid HP.out.all
    have hqx := HQ.out.cells
    obtain ⟨x0, x1, x2⟩ := hqx
    have z0 := blk_frozen HQ.out.box 0
    have z1 := blk_frozen HQ.out.box 1
    have z2 := blk_frozen HQ.out.box 2
    by_cases hjl : j < ml.length
    · obtain ⟨ad2, hA2, cx⟩ := Kd.at_string HM.out (j : Int) (by omega) (by omega)
      subst hA2
      rw [Int.toNat_natCast] at cx
      have cx : wr.cell? (ad2.add j) = some (.string (ml.getD j ByteArray.empty)) := (HP.out.bel.cell (World.block_lt_of_cell? _ _ cx)).trans (by rw [cx]; unfold rdOf; rw [Int.toNat_natCast])
      have HTK := hid (take_at hjl)
      have HRE := hid (rest_at hjl)
      generalize ml.getD j ByteArray.empty = y at *
      have HFD := hid (field_any y wr (HSS.out _ HQ.out.bel))
      have hfs := hid (show fldS y = ⟨(fieldS y).1, (fieldS y).2.1⟩ from rfl)
      generalize hfx : fieldS y = fx at *
      obtain ⟨f1, f2, f3⟩ := fx
      have hjl2 : (j : Int) < (ml.length : Int) := by omega
      by_cases herr : f3 = 0
      · subst herr
        go_upto_region 12 with (go_at_call 59; refine HFD.out.mono ?_; rintro e w1 ⟨rfl, hb1⟩)
        have hp4 := (HP.out.below hb1).below ((Below.refl _ _).alloc (Nat.le_refl _) (.cells #[.string f1, .string f2] 43))
        have hq0 : (w1.alloc (.cells #[.string f1, .string f2] 43)).heap[w1.heap.size]? = some (.cells #[.string f1, .string f2] 43) := blk_new w1 _
        generalize w1.alloc (.cells #[.string f1, .string f2] 43) = W4 at *
        obtain ⟨A4, cc4, rfl, hcc4, _⟩ := Kd.R_reads hp4.row
        have p0 := (blk_cell hq0 0).trans (show _ = some (Value.string f1) from rfl)
        have p1 := (blk_cell hq0 1).trans (show _ = some (Value.string f2) from rfl)
        have hx := hp4.cells
        obtain ⟨k0, k1, k2⟩ := hx
        have HP4 := hid hp4
        have hml4 : ml.length ≤ 4294967290 := by have := HML.out; omega
        have hlt4 : W1.heap.size + 1 ≤ W4.heap.size := hp4.lt
        have hfl : ((ml.take j).map fldS).length = j := by rw [List.length_map, List.length_take]; omega
        have HMM := hid (show (ml.take (j + 1)).map fldS = (ml.take j).map fldS ++ [⟨f1, f2⟩] by rw [HTK.out, List.map_append, List.map_singleton, hfs.out])
        have HO2 := hid (show fldsE (ml.take (j + 1)) = 0 by rw [HTK.out]; exact fldsE_snoc_ok _ _ HE.out (by rw [hfx]))
        clear HTK HRE hfs hfx HFD hq0 hb1 cx hp4 y0 y1 y2 x0 x1 x2 z0 z1 z2 HQ HP
        generalize (ml.take j).map fldS = fs4 at *
        subst hfl
        generalize w1.heap.size = q at *
        go_wp2_with ((with_reducible refine gate_builtin (b := .append) (xs := #[.tmp 63, .tmp 65]) rfl ?_); at_builtin; refine Kd.R_append k43 (w0 := W4) (W1.heap.size + 1) rfl (.tmp 63) (.tmp 65) 34 43 (.agg #[.string ⟨#[]⟩, .string ⟨#[]⟩]) 32 rfl Tryd.underlying34 info43 rfl (by decide) (by omega) (.slice A4 fs4.length cc4) fs4 ⟨f1, f2⟩ [.string f1, .string f2] (fun _ => True) (fun _ => False) rfl (by first | (go_simp; done) | (go_simp; rfl)) (k43_mkM _ _ _ ⟨f1, f2⟩) (fun _ hk => hk.elim) (fun _ _ => trivial) HP4.out.row (Below.refl _ _) hlt4 (by omega) ?_; intro v1 w5 hrow5 hb5 hg5 _; have hp5 := HP4.out.grow hb5 hg5 hrow5; have HP5 := hid hp5; have hbx := (hg5.block _ HP4.out.lt (own_ne HP4.out.row)).trans HP4.out.box; have b1 := blk_cell hbx 1; have b1f := blk_frozen hbx 1; have hsl := Kd.R_reads hrow5; obtain ⟨a5, c5, rfl, _, _⟩ := hsl; clear hp5 hrow5 hb5 hg5)
        go_roundw
        case rel => exact ⟨fs4.length + 1, _, by omega, by go_num, by rw [HMM.out]; have h := HP5.out; rw [List.length_append, List.length_singleton] at h; exact hid h, HO2⟩
        case measure => first | omega | (simp [intOf]; done) | (simp [intOf]; omega)
      · have herr2 : (f3 == 0) = false := by simpa using herr
        obtain ⟨rfl, rfl, rfl, rfl⟩ := HE1.out (by rw [HRE.out, fldsE_bad _ _ _ HE.out (by rw [hfx]; exact herr), hfx]; exact herr)
        go_wp2_with (go_at_call 59; refine HFD.out.mono ?_; rintro e w1 ⟨rfl, hb1⟩; have HQ1 := hid ((HQ.out.below hb1).below ((Below.refl _ _).alloc (Nat.le_refl _) (.cells #[.string f1, .string f2] 43))); have hqx := HQ1.out.cells; obtain ⟨p0, p1, p2⟩ := hqx; have q0 := blk_frozen HQ1.out.box 0; have q1 := blk_frozen HQ1.out.box 1; have q2 := blk_frozen HQ1.out.box 2)
        refine rs_out HQ1.out _ 0 10 _ _ _ _ ?_ ?_ (Kd.R_nil _ _ _ _ _) (Kd.R_nil _ _ _ _ _) <;> rfl
    · obtain rfl : j = ml.length := by omega
      rw [List.take_length] at HP HE
      have HPR1 := hid (HPR.out HE.out)
      have HE2 := hid (HE2.out HE.out)
      have HE3 := hid (HE3.out HE.out)
      have HE4 := hid (HE4.out HE.out)
      have hwl : w.heap.size + 1 ≤ W1.heap.size + 1 := Nat.succ_le_succ HP.out.q.bel.size
      have hmm1 : (0 : Int) ≤ (m : Int) := by omega
      have hmm2 : (m : Int) ≤ (l0.length : Int) := by omega
      have HCL := hid (fun (W : World) (h : Below w.heap.size w W) (hB : W1.heap.size + 1 ≤ W.heap.size) => clone_any B1 (c0 - m) bd W (W1.heap.size + 1) (HCD.out W h) hlm hB)
      clear HE1 HPR HSS HM HML HCD HE
      generalize ml.map fldS = fs4 at *
      have hp := HP.out
      obtain ⟨A4, cc4, rfl, hcc4, _⟩ := Kd.R_reads hp.row
      clear hp
      obtain ⟨p1, p2⟩ := pr
      dsimp only at HPR1 HE2 HE3 HE4
      by_cases hp2 : p2 = 0
      · subst hp2
        cases heq : ((strOfNums l0).toList == (strOfNums p1).toList) with
        | true =>
          obtain ⟨rfl, rfl, rfl, rfl⟩ := HE4.out rfl heq
          have HEQ1 := hid (fun (W : World) (A : Option Addr) (c : Nat) (h1 : Below w.heap.size w W) (h2 : Kd.C (Kd.int .u8) W A p1.length p1) (h3 : p1.length ≤ c) => heq ▸ HEQ.out W A c p1 h1 h2 h3)
          clear HEQ heq HE2 HE3 HE4
          go_wp2_with (first
            | (go_at_call 60; refine (HCL.out _ HQ.out.bel HP.out.lt).mono ?_; rintro e W5 ⟨v5, rfl, hr5, hb5⟩; have hp5 := HP.out.below hb5; have hx5 := hp5.cells; obtain ⟨e0, e1, e2⟩ := hx5; have ef := blk_frozen hp5.box 2; have HP6 := hid (hp5.setB v5); have HR6 := hid (R_past (i := 2) hr5 v5); have hsl := Kd.R_reads hr5; obtain ⟨A5, c5, rfl, hc5, _⟩ := hsl; clear hp5 hr5 hb5)
            | (go_at_call 27; refine (HPR1.out _ (HT.out _ HP6.out.all.bel) A4 cc4 A5 c5 (rowC HP6.out.row) hcc4 (rowC HR6.out) hc5).mono ?_; rintro e W6 ⟨v6, rfl, hr6, hb6⟩; have hp7 := HP6.out.below hb6; have hx7 := hp7.cells; obtain ⟨g0, g1, g2⟩ := hx7; have HP7 := hid hp7; have HR7 := hid (Kd.R_below HR6.out hb6); have hqx := hp7.all.cells; obtain ⟨r0, r1, r2⟩ := hqx; have rf0 := blk_frozen hp7.all.box 0; have rf1 := blk_frozen hp7.all.box 1; have rf2 := blk_frozen hp7.all.box 2; have hsl := Kd.R_reads hr6; obtain ⟨A6, c6, rfl, hc6, hC6⟩ := hsl; have HC6 := hid hC6; clear hp7 hr6 hb6 hC6)
            | (go_at_call 61; refine (HEQ1.out _ A6 c6 HP7.out.all.bel HC6.out hc6).mono ?_; rintro e W7 ⟨rfl, ⟨n7, rfl⟩⟩))
          refine rs_out (HP7.out.below (bN (Below.refl _ _) n7)).all _ _ 0 _ _ _ _ ?_ ?_ (Kd.R_lower (Kd.R_drewN HP7.out.row n7) hwl) (Kd.R_lower (Kd.R_drewN HR7.out n7) hwl) <;> rfl
        | false =>
          obtain ⟨rfl, rfl, rfl, rfl⟩ := HE3.out rfl heq
          have HEQ1 := hid (fun (W : World) (A : Option Addr) (c : Nat) (h1 : Below w.heap.size w W) (h2 : Kd.C (Kd.int .u8) W A p1.length p1) (h3 : p1.length ≤ c) => heq ▸ HEQ.out W A c p1 h1 h2 h3)
          clear HEQ heq HE2 HE3 HE4
          go_wp2_with (first
            | (go_at_call 60; refine (HCL.out _ HQ.out.bel HP.out.lt).mono ?_; rintro e W5 ⟨v5, rfl, hr5, hb5⟩; have hp5 := HP.out.below hb5; have hx5 := hp5.cells; obtain ⟨e0, e1, e2⟩ := hx5; have ef := blk_frozen hp5.box 2; have HP6 := hid (hp5.setB v5); have HR6 := hid (R_past (i := 2) hr5 v5); have hsl := Kd.R_reads hr5; obtain ⟨A5, c5, rfl, hc5, _⟩ := hsl; clear hp5 hr5 hb5)
            | (go_at_call 27; refine (HPR1.out _ (HT.out _ HP6.out.all.bel) A4 cc4 A5 c5 (rowC HP6.out.row) hcc4 (rowC HR6.out) hc5).mono ?_; rintro e W6 ⟨v6, rfl, hr6, hb6⟩; have hp7 := HP6.out.below hb6; have hx7 := hp7.cells; obtain ⟨g0, g1, g2⟩ := hx7; have HP7 := hid hp7; have HR7 := hid (Kd.R_below HR6.out hb6); have hqx := hp7.all.cells; obtain ⟨r0, r1, r2⟩ := hqx; have rf0 := blk_frozen hp7.all.box 0; have rf1 := blk_frozen hp7.all.box 1; have rf2 := blk_frozen hp7.all.box 2; have hsl := Kd.R_reads hr6; obtain ⟨A6, c6, rfl, hc6, hC6⟩ := hsl; have HC6 := hid hC6; clear hp7 hr6 hb6 hC6)
            | (go_at_call 61; refine (HEQ1.out _ A6 c6 HP7.out.all.bel HC6.out hc6).mono ?_; rintro e W7 ⟨rfl, ⟨n7, rfl⟩⟩))
          refine rs_out (HP7.out.below (bN (Below.refl _ _) n7)).all _ 0 10 _ _ _ _ ?_ ?_ (Kd.R_nil _ _ _ _ _) (Kd.R_nil _ _ _ _ _) <;> rfl
      · have hp3 : (p2 == 0) = false := by simpa using hp2
        obtain ⟨rfl, rfl, rfl, rfl⟩ := HE2.out hp2
        clear HEQ HE2 HE3 HE4
        go_wp2_with (first
          | (go_at_call 60; refine (HCL.out _ HQ.out.bel HP.out.lt).mono ?_; rintro e W5 ⟨v5, rfl, hr5, hb5⟩; have hp5 := HP.out.below hb5; have hx5 := hp5.cells; obtain ⟨e0, e1, e2⟩ := hx5; have ef := blk_frozen hp5.box 2; have HP6 := hid (hp5.setB v5); have HR6 := hid (R_past (i := 2) hr5 v5); have hsl := Kd.R_reads hr5; obtain ⟨A5, c5, rfl, hc5, _⟩ := hsl; clear hp5 hr5 hb5)
          | (go_at_call 27; refine (HPR1.out _ (HT.out _ HP6.out.all.bel) A4 cc4 A5 c5 (rowC HP6.out.row) hcc4 (rowC HR6.out) hc5).mono ?_; rintro e W6 ⟨v6, rfl, hr6, hb6⟩; have hp7 := HP6.out.below hb6; have hx7 := hp7.cells; obtain ⟨g0, g1, g2⟩ := hx7; have HP7 := hid hp7; have HR7 := hid (Kd.R_below HR6.out hb6); have hqx := hp7.all.cells; obtain ⟨r0, r1, r2⟩ := hqx; have rf0 := blk_frozen hp7.all.box 0; have rf1 := blk_frozen hp7.all.box 1; have rf2 := blk_frozen hp7.all.box 2; have hsl := Kd.R_reads hr6; obtain ⟨A6, c6, rfl, hc6, hC6⟩ := hsl; have HC6 := hid hC6; clear hp7 hr6 hb6 hC6))
        refine rs_out HP7.out.all _ 0 10 _ _ _ _ ?_ ?_ (Kd.R_nil _ _ _ _ _) (Kd.R_nil _ _ _ _ _) <;> rfl
end Go.Proofs.YtpfbemcoblganaaDoor.Pl

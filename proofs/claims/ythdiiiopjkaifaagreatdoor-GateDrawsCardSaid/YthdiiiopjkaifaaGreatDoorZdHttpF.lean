/-
 Package http: Parse, by its parts.
-/
import Derived.Test.YthdiiiopjkaifaaGreatDoorZdHttpE
import Derived.Test.YthdiiiopjkaifaaGreatDoorZdPall4
namespace Go.Proofs.YthdiiiopjkaifaaGreatDoor.Pl
open Go.RowKit Go.Proofs.YthdiiiopjkaifaaGreatDoor.Pall Go.Proofs.YthdiiiopjkaifaaGreatDoorW.PrintWords Go.Proofs.YthdiiiopjkaifaaGreatDoorW.PrintLast
set_option linter.unusedVariables false
set_option linter.unusedSimpArgs false
/-- the two results' variables, as they were laid -/
structure Door (w W : World) : Prop where
 bel : Below w.heap.size w W
 q : W.heap[w.heap.size]? = some (.cells #[.string ⟨#[]⟩, .string ⟨#[]⟩, .slice none 0 0, .slice none 0 0] 25 (0, 0))
 e : W.heap[w.heap.size + 1]? = some (.cells #[.int .u16 0] 106 (0, 0))
theorem Door.lt {w W : World} (h : Door w W) : w.heap.size + 2 ≤ W.heap.size := (Array.getElem?_eq_some_iff.1 h.e).1
theorem Door.below {w W W' : World} {b : Nat} (h : Door w W) (hb : Below b W W') (hlt : w.heap.size + 2 ≤ b) : Door w W' :=
 ⟨h.bel.trans (hb.mono (by omega)), (hb.block _ (by omega)).trans h.q, (hb.block _ (by omega)).trans h.e⟩
theorem Door.new (w : World) : Door w ((w.alloc (.cells #[.string ⟨#[]⟩, .string ⟨#[]⟩, .slice none 0 0, .slice none 0 0] 25)).alloc (.cells #[.int .u16 0] 106)) := by
 have hb : Below w.heap.size w (w.alloc (.cells #[.string ⟨#[]⟩, .string ⟨#[]⟩, .slice none 0 0, .slice none 0 0] 25)) := (Below.refl _ w).alloc (Nat.le_refl _) _
 have h1 : (w.alloc (.cells #[.string ⟨#[]⟩, .string ⟨#[]⟩, .slice none 0 0, .slice none 0 0] 25)).heap[w.heap.size]? = some (.cells #[.string ⟨#[]⟩, .string ⟨#[]⟩, .slice none 0 0, .slice none 0 0] 25) := by show (w.heap.push _)[w.heap.size]? = _; simp
 have hs : (w.alloc (.cells #[.string ⟨#[]⟩, .string ⟨#[]⟩, .slice none 0 0, .slice none 0 0] 25)).heap.size = w.heap.size + 1 := by simp
 generalize w.alloc (.cells #[.string ⟨#[]⟩, .string ⟨#[]⟩, .slice none 0 0, .slice none 0 0] 25) = W at *
 have hb2 : Below W.heap.size W (W.alloc (.cells #[.int .u16 0] 106)) := (Below.refl _ W).alloc (Nat.le_refl _) _
 have h2 : (W.alloc (.cells #[.int .u16 0] 106)).heap[W.heap.size]? = some (.cells #[.int .u16 0] 106) := by show (W.heap.push _)[W.heap.size]? = _; simp
 rw [hs] at h2
 exact ⟨hb.trans (hb2.mono (by omega)), (hb2.block _ (by omega)).trans h1, h2⟩
/-- what Parse hands back -/
def ParseGot (w : World) (r1 r2 : ByteArray) (r3 : List S76) (r4 : List Int) (r5 : Int) (e : Ending) (w' : World) : Prop :=
 ∃ v2 v3, e = .returned (.tuple #[.agg #[.string r1, .string r2, v2, v3], .int .u16 r5]) ∧ Kd.R k76 76 w' w.heap.size (fun _ => True) v2 r3 ∧ Kd.R (Kd.int .u8) 5 w' w.heap.size (fun _ => True) v3 r4 ∧ Below w.heap.size w w'
theorem parse_results (tmps : Array Value) (W : World) (N : Nat) (h2 : tmps.getD 2 undef = .pointer (some ⟨N, 0, none⟩)) (h3 : tmps.getD 3 undef = .pointer (some ⟨N + 1, 0, none⟩)) (v1 v2 v3 v4 x : Value)
  (c1 : W.heap[N]? = some (.cells #[v1, v2, v3, v4] 25 (0, 0))) (c2 : W.heap[N + 1]? = some (.cells #[x] 106 (0, 0))) : (results Tryz.f53 tmps).run Tryz.prog W = .ok (.tuple #[.agg #[v1, v2, v3, v4], x]) W := by
 have hr : Tryz.f53.results = #[.cell 2 25, .cell 3 106] := rfl
 have hu := Tryz.underlying25
 have hb := Tryz.underlying106
 have a0 := (blk_cell c1 0).trans (show _ = some v1 from rfl)
 have a1 := (blk_cell c1 1).trans (show _ = some v2 from rfl)
 have a2 := (blk_cell c1 2).trans (show _ = some v3 from rfl)
 have a3 := (blk_cell c1 3).trans (show _ = some v4 from rfl)
 have b0 := (blk_cell c2 0).trans (show _ = some x from rfl)
 unfold results
 rw [hr]
 rw [Array.getD_eq_getD_getElem?] at h2 h3
 simp [h2, h3, loadVar, a0, a1, a2, a3, b0, go_sem, hu, hb, isAgg, asAddr]
theorem door_out (w W : World) (hd : Door w W) (n : Int) (tmps : Array Value) (h2 : tmps.getD 2 undef = .pointer (some ⟨w.heap.size, 0, none⟩)) (h3 : tmps.getD 3 undef = .pointer (some ⟨w.heap.size + 1, 0, none⟩)) :
  bodyPostD Tryz.prog Tryz.f53 (ParseGot w ⟨#[]⟩ ⟨#[]⟩ [] [] n) (Exit.panic (wrongV n)) { tmps := tmps, defers := [{ target := Target.fn (Fn.func 99) #[.pointer (some ⟨w.heap.size, 0, none⟩), .pointer (some ⟨w.heap.size + 1, 0, none⟩)], args := #[] }] } W := by
 refine leaves_cons (f := 99) (args := #[.pointer (some ⟨w.heap.size, 0, none⟩), .pointer (some ⟨w.heap.size + 1, 0, none⟩)]) (by simp) (by simp [go_sem]) ?_
 refine (catch_wrong w.heap.size _ _ _ _ _ n [] W hd.q hd.e).mono ?_
 rintro e u' w'' ⟨rfl, rfl, hb, hq, he⟩
 exact ⟨_, parse_results tmps w'' w.heap.size h2 h3 _ _ _ _ _ hq he, _, _, rfl, Kd.R_nil _ _ _ _ _, Kd.R_nil _ _ _ _ _, hd.bel.trans hb⟩
set_option maxRecDepth 100000 in
set_option maxHeartbeats 2000000 in
theorem parse_form (A0 : Option Addr) (c0 : Nat) (l0 : List Int) (lines : List ByteArray) (at_ : Int) (ok : Bool) (w : World)
  (hL : ∀ W, Below w.heap.size w W → Calls Tryz.prog 100 #[.slice A0 l0.length c0] W fun e w' => ∃ v0_ : Value, e = .returned (.tuple #[v0_, .int .i64 at_, .bool ok]) ∧ Kd.R Kd.string 9 w' W.heap.size (fun _ => True) v0_ lines ∧ Below W.heap.size W w')
  (hno : ok = false ∨ lines = []) :
  Calls Tryz.prog 53 #[.slice A0 l0.length c0] w (ParseGot w ⟨#[]⟩ ⟨#[]⟩ [] [] 10) := by
 have hmf : ∀ (fn : Fn) (first cap : Array Value) (w : World), (Instr.makeFunc fn first cap).run Tryz.prog w = .ok (.func fn first cap) w := fun _ _ _ _ => rfl
 have HD := hid (Door.new w)
 have HL := hid (hL _ (Door.new w).bel)
 clear hL
 go_enter_defers Tryz.func53, Tryz.ntmps53
 rcases hno with rfl | rfl
 ·go_wp2_with first
   | (go_at_call 100; refine HL.out.mono ?_; rintro e W1 ⟨v0, rfl, hR, hb⟩; have HD := hid (HD.out.below hb HD.out.lt); have hsl := Kd.R_reads hR; obtain ⟨A1, c1, rfl, _, _⟩ := hsl; clear hb hR)
   | (go_at_call 101; refine (need_no 10 _).mono ?_; rintro e w2 ⟨rfl, hsame⟩; rw [hsame]; clear hsame w2)
  exact door_out w _ HD.out 10 _ rfl rfl
 ·cases ok
  ·go_wp2_with first
    | (go_at_call 100; refine HL.out.mono ?_; rintro e W1 ⟨v0, rfl, hR, hb⟩; have HD := hid (HD.out.below hb HD.out.lt); have hsl := Kd.R_reads hR; obtain ⟨A1, c1, rfl, _, _⟩ := hsl; clear hb hR)
    | (go_at_call 101; refine (need_no 10 _).mono ?_; rintro e w2 ⟨rfl, hsame⟩; rw [hsame]; clear hsame w2)
   exact door_out w _ HD.out 10 _ rfl rfl
  ·go_wp2_with first
    | (go_at_call 100; refine HL.out.mono ?_; rintro e W1 ⟨v0, rfl, hR, hb⟩; have HD := hid (HD.out.below hb HD.out.lt); have hsl := Kd.R_reads hR; obtain ⟨A1, c1, rfl, _, _⟩ := hsl; clear hb hR)
    | (go_at_call 101; refine (need_no 10 _).mono ?_; rintro e w2 ⟨rfl, hsame⟩; rw [hsame]; clear hsame w2)
   exact door_out w _ HD.out 10 _ rfl rfl
/-- the reader is made: what stands then -/
structure Made (w W1 W2 : World) (b g c : Nat) (x : ByteArray) (rest : List ByteArray) : Prop where
 door : Door w W2
 bel : Below W1.heap.size W1 W2
 rd : Rd W2 b ⟨#[]⟩ ⟨#[]⟩ (.slice none 0 0) (.slice none 0 0) (.slice (some ⟨g, 0, none⟩) (rest.length + 1) c)
 eq : b = W1.heap.size
 gl : g < b
 ge : w.heap.size + 2 ≤ b
 cap : rest.length + 1 ≤ c
 fst : W2.cell? ⟨g, 0, none⟩ = some (.string x)
 nxt : ∀ j, j < rest.length → W2.cell? ⟨g, 1 + j, none⟩ = some (.string (rest.getD j ByteArray.empty))
theorem made_new (w W1 : World) (v0 : Value) (x : ByteArray) (rest : List ByteArray) (hd : Door w W1) (B : Nat) (hR : Kd.R Kd.string 9 W1 B (fun _ => True) v0 (x :: rest)) :
  ∃ g c, v0 = .slice (some ⟨g, 0, none⟩) (rest.length + 1) c ∧ Made w W1 (W1.alloc (.cells #[.string ⟨#[]⟩, .string ⟨#[]⟩, .slice none 0 0, .slice none 0 0, .slice (some ⟨g, 0, none⟩) (rest.length + 1) c] 180)) W1.heap.size g c x rest := by
 obtain ⟨A, c, hv, hc, hC⟩ := Kd.R_reads hR
 have hown := hR.2
 obtain ⟨inner, ho, _⟩ := hown
 obtain ⟨g, cp, hv2, hg⟩ : ∃ g cp, v0 = .slice (some ⟨g, 0, none⟩) (x :: rest).length cp ∧ g < W1.heap.size := by
  rcases ho.2 with ⟨_, h⟩ | ⟨g, cap, cur, hv, _, hh, _⟩
  ·simp at h
  ·exact ⟨g, cap, hv, (Array.getElem?_eq_some_iff.1 hh).1⟩
 subst hv2
 injection hv with e1 e2 e3
 subst e1
 subst e3
 refine ⟨g, cp, rfl, ?_⟩
 have hb := (Below.refl W1.heap.size W1).alloc (Nat.le_refl _) (.cells #[.string ⟨#[]⟩, .string ⟨#[]⟩, .slice none 0 0, .slice none 0 0, .slice (some ⟨g, 0, none⟩) (rest.length + 1) cp] 180)
 have hat : ∀ j, j < (x :: rest).length → W1.cell? ⟨g, j, none⟩ = some (.string ((x :: rest).getD j ByteArray.empty)) := by
  intro j hj
  obtain ⟨ad, h1, h2⟩ := Kd.at_string hC j (by omega) (by omega)
  injection h1 with h1
  subst h1
  rw [Int.toNat_natCast] at h2
  have e : (⟨g, 0, none⟩ : Addr).add j = ⟨g, j, none⟩ := by unfold Addr.add; split <;> simp_all
  rw [e] at h2
  rw [h2]
  unfold rdOf
  rw [Int.toNat_natCast]
 refine ⟨hd.below hb hd.lt, hb, by show (W1.heap.push _)[W1.heap.size]? = _; simp, rfl, hg, hd.lt, hc, (hb.cell hg).trans (hat 0 (by simp)), fun j hj => (hb.cell hg).trans ?_⟩
 rw [hat (1 + j) (by simp; omega), Nat.add_comm 1 j]
 rfl
def fstW (x : ByteArray) : ByteArray := (wordsL x).getD 0 ByteArray.empty
def sndW (x : ByteArray) : ByteArray := (wordsL x).getD 1 ByteArray.empty
def okW : List ByteArray → Bool
 | [a, b, c] => tokL a.data.toList && (pathL b.data.toList && (c.toList == [72, 84, 84, 80, 47, 49, 46, 49]))
 | _ => false
/-- what is wrong with a first line -/
def fstE (x : ByteArray) : Int := if 2000 < x.size then 3 else if okW (wordsL x) = true then 0 else 11
theorem first_all (m p x : ByteArray) (fv bv : Value) (ad : Addr) (n c b : Nat) (w : World) (hS : Sh w) (hr : Rd w b m p fv bv (.slice (some ad) n c)) (hx : w.cell? ad = some (.string x)) (hn : 0 < n) :
  Calls Tryz.prog 102 #[.pointer (some ⟨b, 0, none⟩)] w fun e w' => Below b w w' ∧ ((fstE x ≠ 0 ∧ e = .panicked (wrongV (fstE x))) ∨ (fstE x = 0 ∧ e = .returned (.tuple #[]) ∧ Rd w' b (fstW x) (sndW x) fv bv (.slice (some ad) n c))) := by
 by_cases hl : 2000 < x.size
 ·have he : fstE x = 3 := by unfold fstE; rw [if_pos hl]
  refine (first_long m p x fv bv ad n c b w hr hx hn hl).mono ?_
  rintro e w' ⟨rfl, hb⟩
  exact ⟨hb, .inl ⟨by rw [he]; decide, by rw [he]⟩⟩
 ·have hl' : x.size ≤ 2000 := by omega
  by_cases h3 : (wordsL x).length = 3
  ·obtain ⟨a1, a2, a3, hw⟩ : ∃ a1 a2 a3, wordsL x = [a1, a2, a3] := by
    match h : wordsL x, h3 with
    | [a1, a2, a3], _ => exact ⟨a1, a2, a3, rfl⟩
   have hf : fstW x = a1 := by unfold fstW; rw [hw]; rfl
   have hs : sndW x = a2 := by unfold sndW; rw [hw]; rfl
   have he : fstE x = if (tokL a1.data.toList && (pathL a2.data.toList && (a3.toList == [72, 84, 84, 80, 47, 49, 46, 49]))) = true then 0 else 11 := by unfold fstE; rw [if_neg hl, hw]; rfl
   cases h1 : tokL a1.data.toList with
   | false =>
    have he : fstE x = 11 := by rw [he, h1]; rfl
    refine (first_no1 m p x a1 a2 a3 fv bv ad n c b w hS hr hx hn hl' hw h1).mono ?_
    rintro e w' ⟨rfl, hb⟩
    exact ⟨hb, .inl ⟨by rw [he]; decide, by rw [he]⟩⟩
   | true =>
    cases h2 : pathL a2.data.toList with
    | false =>
     have he : fstE x = 11 := by rw [he, h1, h2]; rfl
     refine (first_no2 m p x a1 a2 a3 fv bv ad n c b w hS hr hx hn hl' hw h1 h2).mono ?_
     rintro e w' ⟨rfl, hb⟩
     exact ⟨hb, .inl ⟨by rw [he]; decide, by rw [he]⟩⟩
    | true =>
     cases h3 : (a3.toList == [72, 84, 84, 80, 47, 49, 46, 49]) with
     | false =>
      have he : fstE x = 11 := by rw [he, h1, h2, h3]; rfl
      refine (first_no3 m p x a1 a2 a3 fv bv ad n c b w hS hr hx hn hl' hw h1 h2 h3).mono ?_
      rintro e w' ⟨rfl, hb⟩
      exact ⟨hb, .inl ⟨by rw [he]; decide, by rw [he]⟩⟩
     | true =>
      have he : fstE x = 0 := by rw [he, h1, h2, h3]; rfl
      refine (first_three m p x a1 a2 a3 fv bv ad n c b w hS hr hx hn hl' hw h1 h2 h3).mono ?_
      rintro e w' ⟨rfl, hb, hr'⟩
      rw [hf, hs]
      exact ⟨hb, .inr ⟨he, rfl, hr'⟩⟩
  ·have he : fstE x = 11 := by
    unfold fstE
    rw [if_neg hl, if_neg]
    intro h
    match hh : wordsL x, h3, h with
    | [], _, h => simp [okW] at h
    | [_], _, h => simp [okW] at h
    | [_, _], _, h => simp [okW] at h
    | [_, _, _], h3, _ => exact h3 (by rfl)
    | _ :: _ :: _ :: _ :: _, _, h => simp [okW] at h
   refine (first_not3 m p x fv bv ad n c b w hS hr hx hn hl' (by omega)).mono ?_
   rintro e w' ⟨rfl, hb⟩
   exact ⟨hb, .inl ⟨by rw [he]; decide, by rw [he]⟩⟩
theorem fields_all (m p : ByteArray) (bv : Value) (g c b : Nat) (rest : List ByteArray) (w : World) (hS : ∀ W, Below b w W → Sh W) (hr : Rd w b m p (.slice none 0 0) bv (.slice (some ⟨g, 0, none⟩) (rest.length + 1) c)) (hc : rest.length + 1 ≤ c) (hg : g < b)
  (hl : ∀ j, j < rest.length → w.cell? ⟨g, 1 + j, none⟩ = some (.string (rest.getD j ByteArray.empty))) (hn : rest.length ≤ 40) :
  Calls Tryz.prog 103 #[.pointer (some ⟨b, 0, none⟩)] w fun e w' => Below b w w' ∧
   ((fldsE rest ≠ 0 ∧ e = .panicked (wrongV (fldsE rest))) ∨ (fldsE rest = 0 ∧ e = .returned (.tuple #[]) ∧ ∃ v, Rd w' b m p v bv (.slice (some ⟨g, 0, none⟩) (rest.length + 1) c) ∧ Kd.R k76 76 w' (b + 1) (fun _ => True) v (rest.map fldS))) := by
 by_cases h0 : 0 < rest.length
 ·exact fields_some m p bv g c b rest w hS hr hc hg hl hn h0
 ·obtain rfl : rest = [] := List.eq_nil_of_length_eq_zero (by omega)
  refine (fields_none m p _ bv g c b w hr hc).mono ?_
  rintro e w' ⟨rfl, rfl⟩
  exact ⟨Below.refl _ _, .inr ⟨rfl, rfl, _, hr, Kd.R_nil _ _ _ _ _⟩⟩
theorem body_all (m p : ByteArray) (fv bv lv : Value) (fs : List S76) (A : Option Addr) (c b : Nat) (bs : List Int) (w : World) (hr : Rd w b m p fv bv lv) (hf : Kd.R k76 76 w (b + 1) (fun _ => True) fv fs) (hC : Kd.C (Kd.int .u8) w A bs.length bs)
  (hl : fs.length < 8796093022208) (hs : ∀ p ∈ fs, p.f0.size ≤ 140737488351232) (hbs : bs.length ≤ 140737488351232) :
  Calls Tryz.prog 104 #[.pointer (some ⟨b, 0, none⟩), .slice A bs.length c] w fun e w' => Below b w w' ∧ ((bodyE fs bs.length ≠ 0 ∧ e = .panicked (wrongV (bodyE fs bs.length))) ∨
   (bodyE fs bs.length = 0 ∧ e = .returned (.tuple #[]) ∧ ∃ v, Rd w' b m p fv v lv ∧ Kd.R k76 76 w' (b + 1) (fun _ => True) fv fs ∧ Kd.R (Kd.int .u8) 5 w' (b + 1) (fun _ => True) v bs)) := by
 by_cases h14 : (allS fs hostB).length = 1 ∧ (allS fs teB).length = 0 ∧ (allS fs clB).length ≤ 1
 ·match hcl : allS fs clB with
  | [] =>
   have he : bodyE fs bs.length = if bs.length = 0 then 0 else 13 := by unfold bodyE; rw [if_pos h14, hcl]
   refine (body_none m p fv bv lv fs A c b bs w hr hf hC hl hs hbs h14.1 h14.2.1 (by rw [hcl]; rfl)).mono ?_
   rintro e w' ⟨hb, ⟨hz, rfl⟩ | ⟨hz, rfl, v, h1, h2, h3⟩⟩
   ·rw [he, if_neg hz]; exact ⟨hb, .inl ⟨by decide, rfl⟩⟩
   ·rw [he, if_pos hz]; exact ⟨hb, .inr ⟨rfl, rfl, v, h1, h2, h3⟩⟩
  | [x] =>
   have he : bodyE fs bs.length = if (decS x 4000).2 = true ∧ (decS x 4000).1 = (bs.length : Int) then 0 else 13 := by unfold bodyE; rw [if_pos h14, hcl]
   refine (body_one m p fv bv lv fs A c b bs x w hr hf hC hl hs hbs h14.1 h14.2.1 hcl).mono ?_
   rintro e w' ⟨hb, ⟨hz, rfl⟩ | ⟨hz, rfl, v, h1, h2, h3⟩⟩
   ·rw [he, if_neg hz]; exact ⟨hb, .inl ⟨by decide, rfl⟩⟩
   ·rw [he, if_pos hz]; exact ⟨hb, .inr ⟨rfl, rfl, v, h1, h2, h3⟩⟩
  | _ :: _ :: _ => exfalso; have := h14.2.2; rw [hcl] at this; simp at this
 ·have he : bodyE fs bs.length = 14 := by unfold bodyE; rw [if_neg h14]
  refine (body_twice m p fv bv lv fs A bs.length c b w hr hf hl hs h14).mono ?_
  rintro e w' ⟨rfl, hb⟩
  exact ⟨hb.mono (Nat.le_of_lt hr.lt), .inl ⟨by rw [he]; decide, by rw [he]⟩⟩
theorem flds_size (rest : List ByteArray) (h : fldsE rest = 0) : ∀ p ∈ rest.map fldS, p.f0.size ≤ 140737488351232 := by
 induction rest with
 | nil => intro p hp; simp at hp
 | cons l r ih =>
  unfold fldsE at h
  by_cases hl : (fieldS l).2.2 = 0
  ·rw [if_pos hl] at h
   intro p hp
   rw [List.map_cons, List.mem_cons] at hp
   rcases hp with rfl | hp
   ·exact fld_size l hl
   ·exact ih h p hp
  ·rw [if_neg hl] at h; exact absurd h hl
/-- the results are laid -/
def giveW (B : Nat) (s1 s2 v3 v4 x : Value) (W : World) : World := ((((W.setCell ⟨B, 0, none⟩ s1).setCell ⟨B, 1, none⟩ s2).setCell ⟨B, 2, none⟩ v3).setCell ⟨B, 3, none⟩ v4).setCell ⟨B + 1, 0, none⟩ x
theorem give_world (B : Nat) (s1 s2 v3 v4 x : Value) (W : World) {u1 u2 u3 u4 u5 : Value} (hB : W.heap[B]? = some (.cells #[u1, u2, u3, u4] 25 (0, 0))) (hB2 : W.heap[B + 1]? = some (.cells #[u5] 106 (0, 0))) :
  Below B W (giveW B s1 s2 v3 v4 x W) ∧ (giveW B s1 s2 v3 v4 x W).heap[B]? = some (.cells #[s1, s2, v3, v4] 25 (0, 0)) ∧ (giveW B s1 s2 v3 v4 x W).heap[B + 1]? = some (.cells #[x] 106 (0, 0)) ∧ ∀ k, B + 2 ≤ k → (giveW B s1 s2 v3 v4 x W).heap[k]? = W.heap[k]? := by
 have b0 : Below B W (giveW B s1 s2 v3 v4 x W) := (((((Below.refl B W).setCell (p := ⟨B, 0, none⟩) (Nat.le_refl _) _).setCell (p := ⟨B, 1, none⟩) (Nat.le_refl _) _).setCell (p := ⟨B, 2, none⟩) (Nat.le_refl _) _).setCell (p := ⟨B, 3, none⟩) (Nat.le_refl _) _).setCell (p := ⟨B + 1, 0, none⟩) (Nat.le_succ B) _
 have a1 := heap_setCell_same W B 0 _ _ s1 hB
 have a2 := heap_setCell_same _ B 1 _ _ s2 a1
 have a3 := heap_setCell_same _ B 2 _ _ v3 a2
 have a4 := heap_setCell_same _ B 3 _ _ v4 a3
 have hne : ∀ (V : World) (i : Nat) (u : Value) (k : Nat), B + 1 ≤ k → (V.setCell ⟨B, i, none⟩ u).heap[k]? = V.heap[k]? := fun V i u k hk => heap_setCell_other V ⟨B, i, none⟩ k u (by show k ≠ B; omega)
 have c4 : ∀ k, B + 1 ≤ k → ((((W.setCell ⟨B, 0, none⟩ s1).setCell ⟨B, 1, none⟩ s2).setCell ⟨B, 2, none⟩ v3).setCell ⟨B, 3, none⟩ v4).heap[k]? = W.heap[k]? := fun k hk => by rw [hne _ _ _ k hk, hne _ _ _ k hk, hne _ _ _ k hk, hne _ _ _ k hk]
 exact ⟨b0, (heap_setCell_other _ ⟨B + 1, 0, none⟩ B _ (by show B ≠ B + 1; omega)).trans a4, heap_setCell_same _ (B + 1) 0 _ _ x ((c4 _ (Nat.le_refl _)).trans hB2), fun k hk => (heap_setCell_other _ ⟨B + 1, 0, none⟩ k _ (by show k ≠ B + 1; omega)).trans (c4 k (by omega))⟩
theorem R_give {α : Type} {d : Kd α} {e b N : Nat} {W : World} {v : Value} {xs : List α} (h : d.R e W (b + 1) (fun _ => True) v xs) (hN : N + 2 ≤ b) {W' : World} (hk : ∀ k, N + 2 ≤ k → W'.heap[k]? = W.heap[k]?) : d.R e W' N (fun _ => True) v xs :=
 Kd.R_lower (Kd.R_mono (Kd.R_move (Kd.R_bound h) (fun k h1 => hk k (by have := h1.2.1; omega))) (fun _ _ => trivial)) (by omega)
theorem door_good (w W : World) (hd : Door w W) (b : Nat) (r1 r2 : ByteArray) (v3 v4 : Value) (fs : List S76) {bs : List Int} (hb : w.heap.size + 2 ≤ b) (hf : Kd.R k76 76 W (b + 1) (fun _ => True) v3 fs) (hs : Kd.R (Kd.int .u8) 5 W (b + 1) (fun _ => True) v4 bs)
  (tmps : Array Value) (h2 : tmps.getD 2 undef = .pointer (some ⟨w.heap.size, 0, none⟩)) (h3 : tmps.getD 3 undef = .pointer (some ⟨w.heap.size + 1, 0, none⟩)) :
  bodyPostD Tryz.prog Tryz.f53 (ParseGot w r1 r2 fs bs 0) Exit.ret { tmps := tmps, defers := [{ target := Target.fn (Fn.func 99) #[.pointer (some ⟨w.heap.size, 0, none⟩), .pointer (some ⟨w.heap.size + 1, 0, none⟩)], args := #[] }] } (giveW w.heap.size (.string r1) (.string r2) v3 v4 (.int .u16 0) W) := by
 obtain ⟨e1, e2, e3, e4⟩ := give_world w.heap.size (.string r1) (.string r2) v3 v4 (.int .u16 0) W hd.q hd.e
 generalize giveW w.heap.size (.string r1) (.string r2) v3 v4 (.int .u16 0) W = V at *
 have hV : w.heap.size + 1 < V.heap.size := (Array.getElem?_eq_some_iff.1 e3).1
 refine leaves_cons (f := 99) (args := #[.pointer (some ⟨w.heap.size, 0, none⟩), .pointer (some ⟨w.heap.size + 1, 0, none⟩)]) (by simp) (by simp [go_sem]) ?_
 refine (catch_idle ⟨w.heap.size, 0, none⟩ ⟨w.heap.size + 1, 0, none⟩ V).mono ?_
 rintro e u' w'' ⟨rfl, rfl, hb2⟩
 exact ⟨_, parse_results tmps w'' w.heap.size h2 h3 _ _ _ _ _ ((hb2.block _ (by omega)).trans e2) ((hb2.block _ hV).trans e3), _, _, rfl, Kd.R_below (R_give hf hb e4) hb2, Kd.R_below (R_give hs hb e4) hb2, (hd.bel.trans e1).trans (hb2.mono (by omega))⟩
/-- behind the first line -/
structure Gone (w W : World) (b g c : Nat) (m p : ByteArray) (rest : List ByteArray) : Prop where
 door : Door w W
 rd : Rd W b m p (.slice none 0 0) (.slice none 0 0) (.slice (some ⟨g, 0, none⟩) (rest.length + 1) c)
 gl : g < b
 ge : w.heap.size + 2 ≤ b
 cap : rest.length + 1 ≤ c
 nxt : ∀ j, j < rest.length → W.cell? ⟨g, 1 + j, none⟩ = some (.string (rest.getD j ByteArray.empty))
theorem Made.gone {w W1 W2 W3 : World} {b g c : Nat} {x : ByteArray} {rest : List ByteArray} {m p : ByteArray} (h : Made w W1 W2 b g c x rest) (hb : Below b W2 W3) (hr : Rd W3 b m p (.slice none 0 0) (.slice none 0 0) (.slice (some ⟨g, 0, none⟩) (rest.length + 1) c)) : Gone w W3 b g c m p rest :=
 ⟨h.door.below hb h.ge, hr, h.gl, h.ge, h.cap, fun j hj => (hb.cell (p := ⟨g, 1 + j, none⟩) h.gl).trans (h.nxt j hj)⟩
set_option maxRecDepth 100000 in
set_option maxHeartbeats 4000000 in
theorem parse_first (A0 : Option Addr) (c0 : Nat) (l0 : List Int) (x : ByteArray) (rest : List ByteArray) (at_ : Int) (w : World) (hS : Sh w)
  (hL : ∀ W, Below w.heap.size w W → Calls Tryz.prog 100 #[.slice A0 l0.length c0] W fun e w' => ∃ v0_ : Value, e = .returned (.tuple #[v0_, .int .i64 at_, .bool true]) ∧ Kd.R Kd.string 9 w' W.heap.size (fun _ => True) v0_ (x :: rest) ∧ Below W.heap.size W w')
  (hE : fstE x ≠ 0) :
  Calls Tryz.prog 53 #[.slice A0 l0.length c0] w (ParseGot w ⟨#[]⟩ ⟨#[]⟩ [] [] (fstE x)) := by
 have hmf : ∀ (fn : Fn) (first cap : Array Value) (w : World), (Instr.makeFunc fn first cap).run Tryz.prog w = .ok (.func fn first cap) w := fun _ _ _ _ => rfl
 have HD := hid (Door.new w)
 have HL := hid (hL _ (Door.new w).bel)
 have HS := hid (fun (W : World) (h : Below w.heap.size w W) => hS.of_below h)
 clear hL hS
 go_enter_defers Tryz.func53, Tryz.ntmps53
 go_wp2_with first
  | (go_at_call 100; refine HL.out.mono ?_; rintro e W1 ⟨v0, rfl, hR, hb⟩; have hm := made_new w W1 v0 x rest (HD.out.below hb HD.out.lt) _ hR; obtain ⟨g, c, rfl, hm⟩ := hm; have HM := hid hm; clear hb hR hm)
  | (go_at_call 101; (try rw [decide_eq_true (by omega)]); refine (need_yes 10 _).mono ?_; rintro e w2 ⟨rfl, hsame⟩; rw [hsame]; clear hsame w2)
  | (go_at_call 102; refine (first_all _ _ x _ _ ⟨g, 0, none⟩ _ c _ _ (HS.out _ HM.out.door.bel) HM.out.rd HM.out.fst (Nat.succ_pos _)).mono ?_; rintro e W3 ⟨hb3, hcase⟩; obtain ⟨_, rfl⟩ := hcase.resolve_right (fun h => hE h.1); have HD := hid (HM.out.door.below hb3 HM.out.ge); clear hb3 hcase)
 exact door_out w _ HD.out _ _ rfl rfl
set_option maxRecDepth 100000 in
set_option maxHeartbeats 4000000 in
theorem parse_long (A0 : Option Addr) (c0 : Nat) (l0 : List Int) (x : ByteArray) (rest : List ByteArray) (at_ : Int) (w : World) (hS : Sh w)
  (hL : ∀ W, Below w.heap.size w W → Calls Tryz.prog 100 #[.slice A0 l0.length c0] W fun e w' => ∃ v0_ : Value, e = .returned (.tuple #[v0_, .int .i64 at_, .bool true]) ∧ Kd.R Kd.string 9 w' W.heap.size (fun _ => True) v0_ (x :: rest) ∧ Below W.heap.size W w')
  (hE : fstE x = 0) (hn : 40 < rest.length) (hn2 : rest.length ≤ 140737488351232) :
  Calls Tryz.prog 53 #[.slice A0 l0.length c0] w (ParseGot w ⟨#[]⟩ ⟨#[]⟩ [] [] 3) := by
 have hmf : ∀ (fn : Fn) (first cap : Array Value) (w : World), (Instr.makeFunc fn first cap).run Tryz.prog w = .ok (.func fn first cap) w := fun _ _ _ _ => rfl
 have HD := hid (Door.new w)
 have HL := hid (hL _ (Door.new w).bel)
 have HS := hid (fun (W : World) (h : Below w.heap.size w W) => hS.of_below h)
 clear hL hS
 go_enter_defers Tryz.func53, Tryz.ntmps53
 go_wp2_with first
  | (go_at_call 100; refine HL.out.mono ?_; rintro e W1 ⟨v0, rfl, hR, hb⟩; have hm := made_new w W1 v0 x rest (HD.out.below hb HD.out.lt) _ hR; obtain ⟨g, c, rfl, hm⟩ := hm; have HM := hid hm; clear hb hR hm)
  | (go_at_call 101; (try rw [decide_eq_true (by omega)]); refine (need_yes 10 _).mono ?_; rintro e w2 ⟨rfl, hsame⟩; rw [hsame]; clear hsame w2)
  | (go_at_call 102; refine (first_all _ _ x _ _ ⟨g, 0, none⟩ _ c _ _ (HS.out _ HM.out.door.bel) HM.out.rd HM.out.fst (Nat.succ_pos _)).mono ?_; rintro e W3 ⟨hb3, hcase⟩; obtain ⟨_, rfl, hr3⟩ := hcase.resolve_left (fun h => h.1 hE); have HG := hid (HM.out.gone hb3 hr3); clear hb3 hr3 hcase)
  | (go_at_call 103; refine (fields_long _ _ _ _ _ _ c _ _ HG.out.rd (by omega) (by omega)).mono ?_; rintro e W4 ⟨rfl, hb4⟩; have HD := hid (HG.out.door.below hb4 HG.out.ge); clear hb4)
 exact door_out w _ HD.out _ _ rfl rfl
set_option maxRecDepth 100000 in
set_option maxHeartbeats 4000000 in
theorem parse_fields (A0 : Option Addr) (c0 : Nat) (l0 : List Int) (x : ByteArray) (rest : List ByteArray) (at_ : Int) (w : World) (hS : Sh w)
  (hL : ∀ W, Below w.heap.size w W → Calls Tryz.prog 100 #[.slice A0 l0.length c0] W fun e w' => ∃ v0_ : Value, e = .returned (.tuple #[v0_, .int .i64 at_, .bool true]) ∧ Kd.R Kd.string 9 w' W.heap.size (fun _ => True) v0_ (x :: rest) ∧ Below W.heap.size W w')
  (hE : fstE x = 0) (hn : rest.length ≤ 40) (hE2 : fldsE rest ≠ 0) :
  Calls Tryz.prog 53 #[.slice A0 l0.length c0] w (ParseGot w ⟨#[]⟩ ⟨#[]⟩ [] [] (fldsE rest)) := by
 have hmf : ∀ (fn : Fn) (first cap : Array Value) (w : World), (Instr.makeFunc fn first cap).run Tryz.prog w = .ok (.func fn first cap) w := fun _ _ _ _ => rfl
 have HD := hid (Door.new w)
 have HL := hid (hL _ (Door.new w).bel)
 have HS := hid (fun (W : World) (h : Below w.heap.size w W) => hS.of_below h)
 clear hL hS
 go_enter_defers Tryz.func53, Tryz.ntmps53
 go_wp2_with first
  | (go_at_call 100; refine HL.out.mono ?_; rintro e W1 ⟨v0, rfl, hR, hb⟩; have hm := made_new w W1 v0 x rest (HD.out.below hb HD.out.lt) _ hR; obtain ⟨g, c, rfl, hm⟩ := hm; have HM := hid hm; clear hb hR hm)
  | (go_at_call 101; (try rw [decide_eq_true (by omega)]); refine (need_yes 10 _).mono ?_; rintro e w2 ⟨rfl, hsame⟩; rw [hsame]; clear hsame w2)
  | (go_at_call 102; refine (first_all _ _ x _ _ ⟨g, 0, none⟩ _ c _ _ (HS.out _ HM.out.door.bel) HM.out.rd HM.out.fst (Nat.succ_pos _)).mono ?_; rintro e W3 ⟨hb3, hcase⟩; obtain ⟨_, rfl, hr3⟩ := hcase.resolve_left (fun h => h.1 hE); have HG := hid (HM.out.gone hb3 hr3); clear hb3 hr3 hcase)
  | (go_at_call 103; refine (fields_all _ _ _ g c _ rest _ (fun W h => HS.out W (HG.out.door.below h HG.out.ge).bel) HG.out.rd HG.out.cap HG.out.gl HG.out.nxt hn).mono ?_; rintro e W4 ⟨hb4, hcase⟩; obtain ⟨_, rfl⟩ := hcase.resolve_right (fun h => hE2 h.1); have HD := hid (HG.out.door.below hb4 HG.out.ge); clear hb4 hcase)
 exact door_out w _ HD.out _ _ rfl rfl
set_option maxRecDepth 100000 in
set_option maxHeartbeats 4000000 in
theorem parse_body (A0 : Option Addr) (c0 : Nat) (l0 : List Int) (x : ByteArray) (rest : List ByteArray) (m : Nat) (w : World) (hS : Sh w)
  (hL : ∀ W, Below w.heap.size w W → Calls Tryz.prog 100 #[.slice A0 l0.length c0] W fun e w' => ∃ v0_ : Value, e = .returned (.tuple #[v0_, .int .i64 (m : Int), .bool true]) ∧ Kd.R Kd.string 9 w' W.heap.size (fun _ => True) v0_ (x :: rest) ∧ Below W.heap.size W w')
  (hC : Kd.C (Kd.int .u8) w A0 l0.length l0) (hc0 : l0.length ≤ c0) (hm : m ≤ l0.length) (hl0 : l0.length ≤ 140737488351232) (hE : fstE x = 0) (hn : rest.length ≤ 40) (hE2 : fldsE rest = 0) (hE3 : bodyE (rest.map fldS) (l0.drop m).length ≠ 0) :
  Calls Tryz.prog 53 #[.slice A0 l0.length c0] w (ParseGot w ⟨#[]⟩ ⟨#[]⟩ [] [] (bodyE (rest.map fldS) (l0.drop m).length)) := by
 have hmf : ∀ (fn : Fn) (first cap : Array Value) (w : World), (Instr.makeFunc fn first cap).run Tryz.prog w = .ok (.func fn first cap) w := fun _ _ _ _ => rfl
 have HD := hid (Door.new w)
 have HL := hid (hL _ (Door.new w).bel)
 have HS := hid (fun (W : World) (h : Below w.heap.size w W) => hS.of_below h)
 clear hL hS
 obtain ⟨A1, hcut, hcd⟩ := cut_bytes A0 c0 l0 m hm hc0
 have HCD := hid (fun (W : World) (h : Below w.heap.size w W) => hcd W (Kd.C_below hC h))
 have HSZ := hid (flds_size rest hE2)
 have hlm : (l0.drop m).length ≤ 140737488351232 := by rw [List.length_drop]; omega
 have hrl : (rest.map fldS).length ≤ 40 := by rw [List.length_map]; exact hn
 clear hcd hC
 generalize l0.drop m = bs at *
 go_enter_defers Tryz.func53, Tryz.ntmps53
 go_wp2_with first
  | (go_at_call 100; refine HL.out.mono ?_; rintro e W1 ⟨v0, rfl, hR, hb⟩; have hm := made_new w W1 v0 x rest (HD.out.below hb HD.out.lt) _ hR; obtain ⟨g, c, rfl, hm⟩ := hm; have HM := hid hm; clear hb hR hm)
  | (go_at_call 101; (try rw [decide_eq_true (by omega)]); refine (need_yes 10 _).mono ?_; rintro e w2 ⟨rfl, hsame⟩; rw [hsame]; clear hsame w2)
  | (go_at_call 102; refine (first_all _ _ x _ _ ⟨g, 0, none⟩ _ c _ _ (HS.out _ HM.out.door.bel) HM.out.rd HM.out.fst (Nat.succ_pos _)).mono ?_; rintro e W3 ⟨hb3, hcase⟩; obtain ⟨_, rfl, hr3⟩ := hcase.resolve_left (fun h => h.1 hE); have HG := hid (HM.out.gone hb3 hr3); clear hb3 hr3 hcase)
  | (go_at_call 103; refine (fields_all _ _ _ g c _ rest _ (fun W h => HS.out W (HG.out.door.below h HG.out.ge).bel) HG.out.rd HG.out.cap HG.out.gl HG.out.nxt hn).mono ?_; rintro e W4 ⟨hb4, hcase⟩; obtain ⟨_, rfl, v4, hr4, hrow4⟩ := hcase.resolve_left (fun h => h.1 hE2); have hsl := Kd.R_reads hrow4; obtain ⟨Af, cf, rfl, _, _⟩ := hsl; have HD4 := hid (HG.out.door.below hb4 HG.out.ge); have HGE := hid HG.out.ge; have HR4 := hid hr4; have HROW4 := hid hrow4; clear hb4 hr4 hrow4 hcase)
  | (go_at_call 104; refine (body_all _ _ _ _ _ _ A1 (c0 - m) _ bs _ HR4.out HROW4.out (HCD.out _ HD4.out.bel) (by omega) HSZ.out hlm).mono ?_; rintro e W5 ⟨hb5, hcase⟩; obtain ⟨_, rfl⟩ := hcase.resolve_right (fun h => hE3 h.1); have HD := hid (HD4.out.below hb5 HGE.out); clear hb5 hcase)
 exact door_out w _ HD.out _ _ rfl rfl
set_option maxRecDepth 100000 in
set_option maxHeartbeats 4000000 in
theorem parse_good (A0 : Option Addr) (c0 : Nat) (l0 : List Int) (x : ByteArray) (rest : List ByteArray) (m : Nat) (w : World) (hS : Sh w)
  (hL : ∀ W, Below w.heap.size w W → Calls Tryz.prog 100 #[.slice A0 l0.length c0] W fun e w' => ∃ v0_ : Value, e = .returned (.tuple #[v0_, .int .i64 (m : Int), .bool true]) ∧ Kd.R Kd.string 9 w' W.heap.size (fun _ => True) v0_ (x :: rest) ∧ Below W.heap.size W w')
  (hC : Kd.C (Kd.int .u8) w A0 l0.length l0) (hc0 : l0.length ≤ c0) (hm : m ≤ l0.length) (hl0 : l0.length ≤ 140737488351232) (hE : fstE x = 0) (hn : rest.length ≤ 40) (hE2 : fldsE rest = 0) (hE3 : bodyE (rest.map fldS) (l0.drop m).length = 0) :
  Calls Tryz.prog 53 #[.slice A0 l0.length c0] w (ParseGot w (fstW x) (sndW x) (rest.map fldS) (l0.drop m) 0) := by
 have hmf : ∀ (fn : Fn) (first cap : Array Value) (w : World), (Instr.makeFunc fn first cap).run Tryz.prog w = .ok (.func fn first cap) w := fun _ _ _ _ => rfl
 have HD := hid (Door.new w)
 have HL := hid (hL _ (Door.new w).bel)
 have HS := hid (fun (W : World) (h : Below w.heap.size w W) => hS.of_below h)
 clear hL hS
 obtain ⟨A1, hcut, hcd⟩ := cut_bytes A0 c0 l0 m hm hc0
 have HCD := hid (fun (W : World) (h : Below w.heap.size w W) => hcd W (Kd.C_below hC h))
 have HSZ := hid (flds_size rest hE2)
 have hlm : (l0.drop m).length ≤ 140737488351232 := by rw [List.length_drop]; omega
 have hrl : (rest.map fldS).length ≤ 40 := by rw [List.length_map]; exact hn
 clear hcd hC
 generalize l0.drop m = bs at *
 go_enter_defers Tryz.func53, Tryz.ntmps53
 go_upto_region 8 with first
  | (go_at_call 100; refine HL.out.mono ?_; rintro e W1 ⟨v0, rfl, hR, hb⟩; have hm := made_new w W1 v0 x rest (HD.out.below hb HD.out.lt) _ hR; obtain ⟨g, c, rfl, hm⟩ := hm; have HM := hid hm; clear hb hR hm)
  | (go_at_call 101; (try rw [decide_eq_true (by omega)]); refine (need_yes 10 _).mono ?_; rintro e w2 ⟨rfl, hsame⟩; rw [hsame]; clear hsame w2)
  | (go_at_call 102; refine (first_all _ _ x _ _ ⟨g, 0, none⟩ _ c _ _ (HS.out _ HM.out.door.bel) HM.out.rd HM.out.fst (Nat.succ_pos _)).mono ?_; rintro e W3 ⟨hb3, hcase⟩; obtain ⟨_, rfl, hr3⟩ := hcase.resolve_left (fun h => h.1 hE); have HG := hid (HM.out.gone hb3 hr3); clear hb3 hr3 hcase)
  | (go_at_call 103; refine (fields_all _ _ _ g c _ rest _ (fun W h => HS.out W (HG.out.door.below h HG.out.ge).bel) HG.out.rd HG.out.cap HG.out.gl HG.out.nxt hn).mono ?_; rintro e W4 ⟨hb4, hcase⟩; obtain ⟨_, rfl, v4, hr4, hrow4⟩ := hcase.resolve_left (fun h => h.1 hE2); have hsl := Kd.R_reads hrow4; obtain ⟨Af, cf, rfl, _, _⟩ := hsl; have HD4 := hid (HG.out.door.below hb4 HG.out.ge); have HGE := hid HG.out.ge; have HR4 := hid hr4; have HROW4 := hid hrow4; clear hb4 hr4 hrow4 hcase)
  | (go_at_call 104; refine (body_all _ _ _ _ _ _ A1 (c0 - m) _ bs _ HR4.out HROW4.out (HCD.out _ HD4.out.bel) (by omega) HSZ.out hlm).mono ?_; rintro e W5 ⟨hb5, hcase⟩; obtain ⟨_, rfl, v5, hr5, hrow5, hbs5⟩ := hcase.resolve_left (fun h => h.1 hE3); have hsl := Kd.R_reads hbs5; obtain ⟨Ab, cb, rfl, _, _⟩ := hsl; have HD5 := hid (HD4.out.below hb5 HGE.out); have HR5 := hid hr5; have HROW5 := hid hrow5; have HBS5 := hid hbs5; clear hb5 hr5 hrow5 hbs5 hcase)
 obtain ⟨k0, k1, k2, k3, k4⟩ := HR5.out.cell
 have q0 := (blk_cell HD5.out.q 0).trans (show _ = some (Value.string ⟨#[]⟩) from rfl)
 have q1 := (blk_cell HD5.out.q 1).trans (show _ = some (Value.string ⟨#[]⟩) from rfl)
 have q2 := (blk_cell HD5.out.q 2).trans (show _ = some (Value.slice none 0 0) from rfl)
 have q3 := (blk_cell HD5.out.q 3).trans (show _ = some (Value.slice none 0 0) from rfl)
 have z0 := blk_frozen HD5.out.q 0
 have z1 := blk_frozen HD5.out.q 1
 have z2 := blk_frozen HD5.out.q 2
 have z3 := blk_frozen HD5.out.q 3
 have d0 := (blk_cell HD5.out.e 0).trans (show _ = some (Value.int .u16 0) from rfl)
 have y0 := blk_frozen HD5.out.e 0
 have hu36 := Tryz.underlying25
 clear HM HG HD4 HR4 HROW4 HL HS HCD HSZ hcut
 go_wp2
 have hrow5 := HROW5.out
 rw [List.length_map] at hrow5
 exact door_good w W5 HD5.out W1.heap.size (fstW x) (sndW x) (.slice Af rest.length cf) (.slice Ab bs.length cb) (rest.map fldS) HGE.out hrow5 HBS5.out _ rfl rfl
end Go.Proofs.YthdiiiopjkaifaaGreatDoor.Pl

/-
  RespPrints: Print, Parse, Reason and Same of any responses and bytes, and of choices, are what the chapter says.
-/
import Derived.Test.YtpfbemcoblganaaDoorQpRow
import Derived.Test.YtpfbemcoblganaaDoorQpRowC
import Derived.Test.YtpfbemcoblganaaDoorTie
import Derived.Test.YtpfbemcoblganaaDoorCards
import Derived.Test.YtpfbemcoblganaaDoorQpPl10p
import Derived.Test.YtpfbemcoblganaaDoorQpPl10t
import Derived.Test.YtpfbemcoblganaaDoorQpPl10s
import Derived.Test.YtpfbemcoblganaaDoorQpPall20
import Derived.Test.YtpfbemcoblganaaDoorQpPall22
import Derived.Test.YtpfbemcoblganaaDoorQpPall28
import Derived.Test.YtpfbemcoblganaaDoorQpPall30
import Derived.Test.YtpfbemcoblganaaDoorQpPall32
import Derived.Test.YtpfbemcoblganaaDoorQpPall29
import Derived.Test.YtpfbemcoblganaaDoorQpPall33
import Derived.Test.YtpfbemcoblganaaDoorQpPall25
import Derived.Deep.RegionLaw
namespace Go.Proofs.YtpfbemcoblganaaDoor.respPrints
open Go.RowKit Go.Proofs.YtpfbemcoblganaaDoor.Pl Go.Proofs.YtpfbemcoblganaaDoor.Pall Go.Proofs.YtpfbemcoblganaaDoorW.PrintWords Go.Proofs.YtpfbemcoblganaaDoorW.PrintLast
set_option linter.unusedVariables false
set_option linter.unusedSimpArgs false
structure S0 (W : World) (c8 c9 : Array Value) (w : World) : Prop where
  bel : Below W.heap.size W w
  x8 : w.heap[W.heap.size]? = some (.cells c8 51 (0, 0))
  x9 : w.heap[W.heap.size + 1]? = some (.cells c9 51 (0, 0))
theorem S0.start (W : World) (c8 c9 : Array Value) : S0 W c8 c9 ((W.alloc (.cells c8 51)).alloc (.cells c9 51)) where
  bel := bA (bA (Below.refl _ _) _) _
  x8 := blk_alloc (blk_new W _) _
  x9 := by
    have h := blk_new (W.alloc (.cells c8 51)) (.cells c9 51)
    have e : (W.alloc (.cells c8 51)).heap.size = W.heap.size + 1 := by simp [World.alloc, -World.alloc_eq]
    rw [e] at h
    exact h
theorem S0.next {W : World} {c8 c9 : Array Value} {w w' : World} (h : S0 W c8 c9 w) (hb : Below w.heap.size w w') : S0 W c8 c9 w' where
  bel := h.bel.trans (hb.mono h.bel.size)
  x8 := blk_below h.x8 hb
  x9 := blk_below h.x9 hb
structure S1 (W : World) (c8 c9 c17 : Array Value) (g : Nat) (Aa : Option Addr) (fs : List S43) (Ab : Option Addr) (nb : List Int) (w : World) : Prop where
  s0 : S0 W c8 c9 w
  x17 : w.heap[g]? = some (.cells c17 51 (0, 0))
  fs : Kd.C k43 w Aa fs.length fs
  nb : Kd.C (Kd.int .u8) w Ab nb.length nb
theorem S1.next {W : World} {c8 c9 c17 : Array Value} {g : Nat} {Aa : Option Addr} {fs : List S43} {Ab : Option Addr} {nb : List Int} {w w' : World} (h : S1 W c8 c9 c17 g Aa fs Ab nb w) (hb : Below w.heap.size w w') : S1 W c8 c9 c17 g Aa fs Ab nb w' where
  s0 := h.s0.next hb
  x17 := blk_below h.x17 hb
  fs := Kd.C_below h.fs hb
  nb := Kd.C_below h.nb hb
structure S2 (W : World) (c8 c9 c17 : Array Value) (g : Nat) (Aa : Option Addr) (fs : List S43) (Ab : Option Addr) (nb : List Int) (Ay : Option Addr) (yl : List Int) (Az : Option Addr) (zl : List Int) (w : World) : Prop where
  s1 : S1 W c8 c9 c17 g Aa fs Ab nb w
  y : Kd.C (Kd.int .u8) w Ay yl.length yl
  z : Kd.C (Kd.int .u8) w Az zl.length zl
theorem S2.next {W : World} {c8 c9 c17 : Array Value} {g : Nat} {Aa : Option Addr} {fs : List S43} {Ab : Option Addr} {nb : List Int} {Ay : Option Addr} {yl : List Int} {Az : Option Addr} {zl : List Int} {w w' : World} (h : S2 W c8 c9 c17 g Aa fs Ab nb Ay yl Az zl w) (hb : Below w.heap.size w w') : S2 W c8 c9 c17 g Aa fs Ab nb Ay yl Az zl w' where
  s1 := h.s1.next hb
  y := Kd.C_below h.y hb
  z := Kd.C_below h.z hb
theorem good_small {fs : List S43} (h : ∀ p ∈ fs, goodP p) : smallF fs = true := by
  unfold smallF
  rw [List.all_eq_true]
  intro p hp
  have h1 := (h p hp).2.2
  rw [len_data, len_data] at h1
  exact decide_eq_true ⟨by omega, by omega⟩
theorem small_fsL (ls : List ByteArray) (h : fldsE (midL ls) = 0) : smallF (fsL ls) = true := by
  unfold smallF
  rw [List.all_eq_true]
  intro p hp
  obtain ⟨l, hl, rfl⟩ := List.mem_map.1 hp
  exact decide_eq_true (fld_sizes l (fldsE_mem _ h l hl))
theorem parseR_cases (l0 : List Int) : parseR l0 = noRsp ∨ ((parseR l0).2.2.2 = 0 ∧ smallF (parseR l0).2.1 = true ∧ (prS (parseR l0).1 (parseR l0).2.1 (parseR l0).2.2.1).2 = 0 ∧ ((strOfNums l0).toList == (strOfNums (prS (parseR l0).1 (parseR l0).2.1 (parseR l0).2.2.1).1).toList) = true) := by
  unfold parseR
  generalize linesS (strOfNums l0).data.toList = r
  by_cases h1 : r.2.2 = true
  · rw [if_pos h1]
    unfold parseRL
    by_cases hg : goodR l0 r.1 (l0.drop (l0.length - r.2.1))
    · rw [if_pos hg]
      obtain ⟨_, _, h3, h4, h5⟩ := hg
      generalize l0.drop (l0.length - r.2.1) = bd at *
      refine .inr ⟨rfl, small_fsL _ h3, ?_, ?_⟩
      · dsimp only; exact h4
      · dsimp only; exact h5
    · rw [if_neg hg]; exact .inl rfl
  · rw [if_neg h1]; exact .inl rfl
theorem parseR_few (l0 : List Int) : (parseR l0).2.1.length ≤ 40 := by
  rcases parseR_cases l0 with h | ⟨_, _, h, _⟩
  · rw [h]; exact Nat.zero_le _
  · rcases Nat.lt_or_ge 40 (parseR l0).2.1.length with hl | hl
    · exfalso
      unfold prS at h
      split at h
      · exact absurd h (show ¬ (1 : Int) = 0 by decide)
      · rw [if_pos (.inr hl)] at h; exact absurd h (show ¬ (3 : Int) = 0 by decide)
    · exact hl
theorem pr_len (st : Int) (fs : List S43) (bs : List UInt8) (hb : bs.length ≤ 500) (hf : fs.length ≤ 6) : ∃ ys : List UInt8, (prS st fs (numsL bs)).1 = numsL ys ∧ ys.length ≤ 100000 := by
  have e0 : ([] : List Int) = numsL [] := rfl
  unfold prS
  split
  · exact ⟨[], e0, Nat.zero_le _⟩
  · split
    · exact ⟨[], e0, Nat.zero_le _⟩
    · split
      · exact ⟨[], e0, Nat.zero_le _⟩
      · rename_i h _ _
        have h1 := hdT_len st h
        have h2 := fsTxt_len fs
        have h3 := itoa_len ((numsL bs).length : Int) (by omega) (by rw [numsL_len]; omega)
        have h4 : (lenT (numsL bs).length).length = 16 + (Lib.itoa ((numsL bs).length : Int)).length + 4 := by unfold lenT; simp; omega
        refine ⟨(hdT st ++ fsTxt fs ++ lenT (numsL bs).length) ++ bs, by unfold numsL; exact (List.map_append).symm, ?_⟩
        rw [List.length_append, List.length_append, List.length_append]
        omega
theorem S1.start {W w : World} {c8 c9 : Array Value} {Aa : Option Addr} {fs : List S43} {Ab : Option Addr} {nb : List Int} (h : S0 W c8 c9 w) (h1 : Kd.C k43 w Aa fs.length fs) (h2 : Kd.C (Kd.int .u8) w Ab nb.length nb) (c17 : Array Value) : S1 W c8 c9 c17 w.heap.size Aa fs Ab nb (w.alloc (.cells c17 51)) where
  s0 := h.next (bA (Below.refl _ _) _)
  x17 := blk_new _ _
  fs := Kd.C_alloc h1 _
  nb := Kd.C_alloc h2 _
set_option maxRecDepth 100000 in
set_option maxHeartbeats 4000000 in
theorem walk (a0 : Int) (w0 : (Lit.int .i64 a0).wf = true) (A0 : Option Addr) (c0 : Nat) (l0 : List S43) {W : World} (hr0 : Kd.C k43 W A0 l0.length l0) (hc0 : l0.length ≤ c0) (y0 : ∀ x ∈ l0, x.f0.size ≤ 140737488351232 ∧ x.f1.size ≤ 140737488351232) (yy0 : l0.length * 32 ≤ 140737488351232)
    (B0 : Option Addr) (e0 : Nat) (m0 : List Int) (hs0 : Kd.C (Kd.int .u8) W B0 m0.length m0) (hd0 : m0.length ≤ e0) (u0 : ∀ x ∈ m0, (Lit.int .u8 x).wf = true) (z0 : m0.length ≤ 140737488351232)
    (a1 : Int) (w1 : (Lit.int .i64 a1).wf = true) (A1 : Option Addr) (c1 : Nat) (l1 : List S43) (hr1 : Kd.C k43 W A1 l1.length l1) (hc1 : l1.length ≤ c1) (y1 : ∀ x ∈ l1, x.f0.size ≤ 140737488351232 ∧ x.f1.size ≤ 140737488351232) (yy1 : l1.length * 32 ≤ 140737488351232)
    (B1 : Option Addr) (e1 : Nat) (m1 : List Int) (hs1 : Kd.C (Kd.int .u8) W B1 m1.length m1) (hd1 : m1.length ≤ e1) (u1 : ∀ x ∈ m1, (Lit.int .u8 x).wf = true) (z1 : m1.length ≤ 140737488351232)
    (A2 : Option Addr) (c2 : Nat) (l2 : List Int) (hr2 : Kd.C (Kd.int .u8) W A2 l2.length l2) (hc2 : l2.length ≤ c2) (hw2 : ∀ x ∈ l2, (Lit.int .u8 x).wf = true) (y2 : l2.length ≤ 140737488351232)
    (A3 : Option Addr) (c3 : Nat) (l3 : List Int) (hr3 : Kd.C (Kd.int .u8) W A3 l3.length l3) (hc3 : l3.length ≤ c3) (hw3 : ∀ x ∈ l3, (Lit.int .u8 x).wf = true) (y3 : l3.length ≤ 140737488351232)
    (A4 : Option Addr) (c4 : Nat) (l4 : List Int) (hr4 : Kd.C (Kd.int .u8) W A4 l4.length l4) (hc4 : l4.length ≤ c4) (hw4 : ∀ x ∈ l4, (Lit.int .u8 x).wf = true) (y4 : l4.length ≤ 140737488351232)
    (a5 : Int) (w5 : (Lit.int .u8 a5).wf = true) (a6 : Int) (w6 : (Lit.int .u16 a6).wf = true) (a7 : Int) (w7 : (Lit.int .u8 a7).wf = true) (W' : World) (e : W' = W) (hS : Sh W) (hT : Tb W) :
    Calls Tryd.prog 14 #[.agg #[.int .i64 a0, .slice A0 l0.length c0, .slice B0 m0.length e0], .agg #[.int .i64 a1, .slice A1 l1.length c1, .slice B1 m1.length e1], .slice A2 l2.length c2, .slice A3 l3.length c3, .slice A4 l4.length c4, .int .u8 a5, .int .u16 a6, .int .u8 a7] W fun e W' => e = .returned (.bool true) ∧ Below W.heap.size W W' := by
  simp [Lit.wf, IntKind.min, IntKind.max, IntKind.signed, IntKind.bits] at w0 w1 w5 w6 w7
  clear e W'
  have hu := Tryd.underlying51
  have HK := hid (fun (W' : World) (h : Below W.heap.size W W') => wicketmanlaw10_known.calls true W' (hT.of_below h) (Aside0.mk rfl) wicketmanlaw10_known.told)
  obtain ⟨h0, he0⟩ := heavy_ends a0 l0 m0 (by omega)
  obtain ⟨k0, hk0⟩ := he0.rounds
  obtain ⟨h1, he1⟩ := heavy_ends a1 l1 m1 (by omega)
  obtain ⟨k1, hk1⟩ := he1.rounds
  have HH0 := hid (fun (W' : World) (h : Below W.heap.size W W') => wicketmanlaw10_heavy.calls k0 a0 A0 c0 l0 B0 e0 m0 h0 W' (Kd.C_below hr0 h) hc0 (Kd.C_below hs0 h) hd0 hk0)
  have HH1 := hid (fun (W' : World) (h : Below W.heap.size W W') => wicketmanlaw10_heavy.calls k1 a1 A1 c1 l1 B1 e1 m1 h1 W' (Kd.C_below hr1 h) hc1 (Kd.C_below hs1 h) hd1 hk1)
  clear he0 hk0 he1 hk1
  by_cases hbig : h0 = true ∨ h1 = true ∨ (500 : Int) < (l2.length : Int) + (l4.length : Int)
  · clear hr0 hc0 hs0 hd0 u0 hr1 hc1 hs1 hd1 u1 hr2 hc2 hw2 hr3 hc3 hw3 hr4 hc4 hw4 hS hT
    go_enter Tryd.func14, Tryd.ntmps14
    go_upto_region 1 with (fail)
    have HSc := hid (S0.start W #[.int .i64 a0, .slice A0 l0.length c0, .slice B0 m0.length e0] #[.int .i64 a1, .slice A1 l1.length c1, .slice B1 m1.length e1])
    generalize (W.alloc (.cells #[.int .i64 a0, .slice A0 l0.length c0, .slice B0 m0.length e0] 51)).alloc (.cells #[.int .i64 a1, .slice A1 l1.length c1, .slice B1 m1.length e1] 51) = wz at HSc ⊢
    have z80 := blk_cell HSc.out.x8 0
    have z81 := blk_cell HSc.out.x8 1
    have z82 := blk_cell HSc.out.x8 2
    have z90 := blk_cell HSc.out.x9 0
    have z91 := blk_cell HSc.out.x9 1
    have z92 := blk_cell HSc.out.x9 2
    have fin : ∀ w, Hid (S0 W #[.int .i64 a0, .slice A0 l0.length c0, .slice B0 m0.length e0] #[.int .i64 a1, .slice A1 l1.length c1, .slice B1 m1.length e1] w) → Below W.heap.size W w := fun w h => h.out.bel
    rcases hbig with rfl | hbig
    · go_wp2_with (first
        | (go_at_call 37; refine (HH0.out _ HSc.out.bel).mono ?_; rintro e w1 ⟨rfl, hb⟩; have HSn := hid (HSc.out.next hb); clear HSc HH0 z80 z81 z82 z90 z91 z92; have HSc := HSn; clear HSn hb)
        | (go_at_call 28; refine (HK.out _ HSc.out.bel).mono ?_; rintro e w3 ⟨rfl, hb⟩; have HSn := hid (HSc.out.next hb); clear HSc; have HSc := HSn; clear HSn hb))
      go_ret
      exact ⟨rfl, fin _ HSc⟩
    · have hsum : h1 = true ∨ h1 = false ∧ (500 : Int) < (l2.length : Int) + (l4.length : Int) := by cases h1 <;> simp_all
      clear hbig
      cases h0
      case true =>
        go_wp2_with (first
          | (go_at_call 37; refine (HH0.out _ HSc.out.bel).mono ?_; rintro e w1 ⟨rfl, hb⟩; have HSn := hid (HSc.out.next hb); clear HSc HH0 z80 z81 z82 z90 z91 z92; have HSc := HSn; clear HSn hb)
          | (go_at_call 28; refine (HK.out _ HSc.out.bel).mono ?_; rintro e w3 ⟨rfl, hb⟩; have HSn := hid (HSc.out.next hb); clear HSc; have HSc := HSn; clear HSn hb))
        go_ret
        exact ⟨rfl, fin _ HSc⟩
      case false =>
        rcases hsum with rfl | ⟨rfl, hsum⟩
        all_goals
          go_wp2_with (first
            | (go_at_call 37; refine (HH0.out _ HSc.out.bel).mono ?_; rintro e w1 ⟨rfl, hb⟩; have HSn := hid (HSc.out.next hb); clear HSc HH0 z80 z81 z82 z90 z91 z92; have HSc := HSn; clear HSn hb; have z90 := blk_cell HSc.out.x9 0; have z91 := blk_cell HSc.out.x9 1; have z92 := blk_cell HSc.out.x9 2)
            | (go_at_call 37; refine (HH1.out _ HSc.out.bel).mono ?_; rintro e w2 ⟨rfl, hb⟩; have HSn := hid (HSc.out.next hb); clear HSc z90 z91 z92; have HSc := HSn; clear HSn hb)
            | (go_at_call 28; refine (HK.out _ HSc.out.bel).mono ?_; rintro e w3 ⟨rfl, hb⟩; have HSn := hid (HSc.out.next hb); clear HSc; have HSc := HSn; clear HSn hb))
          go_ret
          exact ⟨rfl, fin _ HSc⟩
  · obtain rfl : h0 = false := by cases h0; rfl; exact absurd (.inl rfl) hbig
    obtain rfl : h1 = false := by cases h1; rfl; exact absurd (.inr (.inl rfl)) hbig
    have hsum : ((500 : Int) < (l2.length : Int) + (l4.length : Int)) = False := eq_false (fun h => hbig (.inr (.inr h)))
    have hsumN : l2.length + l4.length ≤ 500 := by
      have : ¬ (500 : Int) < (l2.length : Int) + (l4.length : Int) := fun h => hbig (.inr (.inr h))
      omega
    clear hbig
    obtain ⟨bs0, rfl⟩ := nums_of m0 (u8s_of_wf u0)
    obtain ⟨bs2, rfl⟩ := nums_of l2 (u8s_of_wf hw2)
    obtain ⟨bs4, rfl⟩ := nums_of l4 (u8s_of_wf hw4)
    have hb2 : bs2.length ≤ 500 := by rw [numsL_len] at hsumN; omega
    have hb4 : bs4.length ≤ 500 := by rw [numsL_len, numsL_len] at hsumN; omega
    obtain ⟨st, fs, hg, hl, hev⟩ := resp_any l3 (numsL bs4) (u8s_of_wf hw3) (by omega) a5 (by omega) (by omega)
    obtain ⟨kR, hkR⟩ := hev.rounds
    have hfsm := good_small hg
    obtain ⟨kP, hkP⟩ := (refPr st fs bs4 (fun p hp => of_decide_eq_true (List.all_eq_true.1 hfsm p hp))).rounds
    obtain ⟨ys, hys, hyl⟩ := pr_len st fs bs4 hb4 hl
    generalize prS st fs (numsL bs4) = pr at hkP hys
    obtain ⟨pl, pe⟩ := pr
    dsimp only at hys
    obtain ⟨kp0, hkp0⟩ := (prints10_true a0 l0 bs0 (List.all_eq_true.2 fun p hp => decide_eq_true (y0 p hp))).rounds
    obtain ⟨kpx, hkpx⟩ := (prints10_true st fs bs4 hfsm).rounds
    have HPS := hid (fun (ws : List UInt8) (hw : ws.length ≤ 100000) (W' : World) (h : Below W.heap.size W W') (A : Option Addr) (c : Nat) (h1 : Kd.C (Kd.int .u8) W' A (numsL ws).length (numsL ws)) (h2 : (numsL ws).length ≤ c) =>
      (show Calls Tryd.prog 40 #[.slice A (numsL ws).length c] W' fun e w' => e = .returned (.bool true) ∧ Below W'.heap.size W' w' from by
        obtain ⟨k, hk⟩ := (parses10_true ws (by omega) (by have := parseR_few (numsL ws); omega)).rounds
        exact wicketmanlaw10_parses.calls k A c (numsL ws) true W' h1 h2 (hS.of_below h) (hT.of_below h) (Aside0.mk rfl) hk))
    obtain ⟨v, ev1, ev2⟩ := same_both a0 l0 (numsL bs0) a1 l1 m1 (by omega)
    obtain ⟨ks, hks⟩ := ev1.rounds
    obtain ⟨kt, hkt⟩ := ev2.rounds
    obtain ⟨kx, hkx⟩ := (same_self st fs (numsL bs4) (by omega)).rounds
    have HRS := hid (fun (W' : World) (h : Below W.heap.size W W') => wicketmanlaw10_Response.calls kR A3 c3 l3 (fun k_ => k_ < W'.heap.size) A4 c4 (numsL bs4) a5 st fs (numsL bs4) W' (Kd.C_below hr3 h) hc3 (Kd.V_mk hc4 (Kd.C_F (Kd.heap_int .u8) (Kd.C_below hr4 h))) hkR)
    have HRP := hid (fun (W' : World) (h : Below W.heap.size W W') (A : Option Addr) (c : Nat) (A' : Option Addr) (c' : Nat) (h1 : Kd.C k43 W' A fs.length fs) (h2 : fs.length ≤ c) (h3 : Kd.C (Kd.int .u8) W' A' (numsL bs4).length (numsL bs4)) (h4 : (numsL bs4).length ≤ c') => wicketmanref10_Print.calls kP st A c fs A' c' (numsL bs4) pl pe W' h1 h2 h3 h4 (hT.of_below h) hkP)
    have HP0 := hid (fun (W' : World) (h : Below W.heap.size W W') => wicketmanlaw10_prints.calls kp0 a0 A0 c0 l0 B0 e0 (numsL bs0) true W' (Kd.C_below hr0 h) hc0 (Kd.C_below hs0 h) hd0 (hT.of_below h) (Aside0.mk rfl) hkp0)
    have HPX := hid (fun (W' : World) (h : Below W.heap.size W W') (A : Option Addr) (c : Nat) (A' : Option Addr) (c' : Nat) (h1 : Kd.C k43 W' A fs.length fs) (h2 : fs.length ≤ c) (h3 : Kd.C (Kd.int .u8) W' A' (numsL bs4).length (numsL bs4)) (h4 : (numsL bs4).length ≤ c') => wicketmanlaw10_prints.calls kpx st A c fs A' c' (numsL bs4) true W' h1 h2 h3 h4 (hT.of_below h) (Aside0.mk rfl) hkpx)
    have HPB := hid (fun (W' : World) (h : Below W.heap.size W W') => HPS.out bs2 (by omega) W' h A2 c2 (Kd.C_below hr2 h) hc2)
    have HRE := hid (fun (n : Int) (W' : World) => resp_Reason.calls n (reasonS n) W' rfl)
    have HRR := hid (fun (n : Int) (W' : World) => (show Calls Tryd.prog 41 #[.int .i64 n] W' fun e w' => e = .returned (.string (reasonS n)) ∧ Below W'.heap.size W' w' from by
      obtain ⟨k, hk⟩ := (refReason n).rounds
      exact wicketmanref10_Reason.calls k n (reasonS n) W' hk))
    have HSB := hid (fun (W' : World) (h : Below W.heap.size W W') => resp_Same.calls ks a0 A0 c0 l0 B0 e0 (numsL bs0) a1 A1 c1 l1 B1 e1 m1 v W' (Kd.C_below hr0 h) hc0 (Kd.C_below hs0 h) hd0 (Kd.C_below hr1 h) hc1 (Kd.C_below hs1 h) hd1 hks)
    have HST := hid (fun (W' : World) (h : Below W.heap.size W W') => wicketmanref10_Same.calls kt a0 A0 c0 l0 B0 e0 (numsL bs0) a1 A1 c1 l1 B1 e1 m1 v W' (Kd.C_below hr0 h) hc0 (Kd.C_below hs0 h) hd0 (Kd.C_below hr1 h) hc1 (Kd.C_below hs1 h) hd1 hkt)
    have HSX := hid (fun (W' : World) (A : Option Addr) (c : Nat) (A' : Option Addr) (c' : Nat) (h1 : Kd.C k43 W' A fs.length fs) (h2 : fs.length ≤ c) (h3 : Kd.C (Kd.int .u8) W' A' (numsL bs4).length (numsL bs4)) (h4 : (numsL bs4).length ≤ c') => resp_Same.calls kx st A c fs A' c' (numsL bs4) st A c fs A' c' (numsL bs4) true W' h1 h2 h3 h4 h1 h2 h3 h4 hkx)
    have HPL := hid (show pl.length ≤ 100000 by rw [hys, numsL_len]; exact hyl)
    have HYS := hid hys
    have HYL := hid hyl
    obtain ⟨m6, hm6⟩ : ∃ m : Nat, a6 % 600 = (m : Int) := ⟨(a6 % 600).toNat, by omega⟩
    have m6b : m6 < 600 := by omega
    have hm6t : Int.tmod a6 600 = (m6 : Int) := by rw [Int.tmod_eq_emod_of_nonneg (by omega)]; exact hm6
    have HM6 := hid hm6
    have HM6T := hid hm6t
    have HM6B := hid m6b
    clear hr0 hc0 hs0 hd0 u0 hr1 hc1 hs1 hd1 u1 hr2 hc2 hw2 hr3 hc3 hw3 hr4 hw4 hS hT hev hkR hkP hkp0 hkpx hks hkt hkx ev1 ev2 hg hl hfsm hys hyl y0 y1 hm6 hm6t m6b
    generalize numsL bs4 = nb at *
    generalize numsL bs0 = n0 at *
    go_enter Tryd.func14, Tryd.ntmps14
    go_upto_region 1 with (fail)
    have HSc := hid (S0.start W #[.int .i64 a0, .slice A0 l0.length c0, .slice B0 n0.length e0] #[.int .i64 a1, .slice A1 l1.length c1, .slice B1 m1.length e1])
    generalize (W.alloc (.cells #[.int .i64 a0, .slice A0 l0.length c0, .slice B0 n0.length e0] 51)).alloc (.cells #[.int .i64 a1, .slice A1 l1.length c1, .slice B1 m1.length e1] 51) = wz at HSc ⊢
    have z80 := blk_cell HSc.out.x8 0
    have z81 := blk_cell HSc.out.x8 1
    have z82 := blk_cell HSc.out.x8 2
    have z90 := blk_cell HSc.out.x9 0
    have z91 := blk_cell HSc.out.x9 1
    have z92 := blk_cell HSc.out.x9 2
    go_upto_region 3 with (first
      | (go_at_call 37; refine (HH0.out _ HSc.out.bel).mono ?_; rintro e w1 ⟨rfl, hb⟩; have HSn := hid (HSc.out.next hb); clear HSc HH0 z80 z81 z82 z90 z91 z92; have HSc := HSn; clear HSn hb; have z90 := blk_cell HSc.out.x9 0; have z91 := blk_cell HSc.out.x9 1; have z92 := blk_cell HSc.out.x9 2)
      | (go_at_call 37; refine (HH1.out _ HSc.out.bel).mono ?_; rintro e w2 ⟨rfl, hb⟩; have HSn := hid (HSc.out.next hb); clear HSc z90 z91 z92; have HSc := HSn; clear HSn hb)
      | (go_at_call 28; refine (HK.out _ HSc.out.bel).mono ?_; rintro e w3 ⟨rfl, hb⟩; have HSn := hid (HSc.out.next hb); clear HSc; have HSc := HSn; clear HSn hb))
    go_upto_region 4 with (go_at_call 34; refine (HRS.out _ HSc.out.bel).mono ?_; rintro e w4 ⟨v1, v2, rfl, ho1, ho2, hb⟩; have HS4 := hid (HSc.out.next hb); obtain ⟨Aa, ca, rfl, hca, hCa⟩ := Kd.R_reads ho1; obtain ⟨Ab, cb, rfl⟩ := Kd.V_slice ho2; have HV := Kd.V_reads' ho2; have hcb := HV.2.1; have HC1 := hid hCa; have HC2 := hid HV.2.2; clear hb ho1 ho2 hCa HV)
    have HS1 := hid (S1.start HS4.out HC1.out HC2.out #[.int .i64 st, .slice Aa fs.length ca, .slice Ab nb.length cb])
    generalize hwg : w4.heap.size = g17 at HS1 ⊢
    generalize w4.alloc (.cells #[.int .i64 st, .slice Aa fs.length ca, .slice Ab nb.length cb] 51) = w5 at HS1 ⊢
    clear HSc HS4 HC1 HC2 HRS HK hsum hsumN
    have z70 := blk_cell HS1.out.x17 0
    have z71 := blk_cell HS1.out.x17 1
    have z72 := blk_cell HS1.out.x17 2
    go_upto_region 5 with (go_at_call 38; refine (HRP.out _ HS1.out.s0.bel Aa ca Ab cb HS1.out.fs hca HS1.out.nb hcb).mono ?_; rintro e w6 ⟨v3, rfl, ho3, hb⟩; have HS2 := hid (HS1.out.next hb); obtain ⟨Ay, cy, rfl⟩ := Kd.V_slice ho3; have HVY := Kd.V_reads' ho3; have hcy := HVY.2.1; have HY := hid HVY.2.2; have HYO := hid HVY.2.2; clear hb ho3 HVY z70 z71 z72)
    clear HS1 HRP
    go_upto_region 7 with ((with_reducible refine gate_builtin (b := .append) (xs := #[.tmp 49, .tmp 50]) rfl ?_); at_builtin; refine Kd.R_append_rows (Kd.int .u8) (w0 := w6) w6.heap.size rfl (.tmp 49) (.tmp 50) 22 5 (.int .u8 0) 1 rfl Tryd.underlying22 info5 rfl (by decide) (by omega) (.slice none 0 0) ([] : List Int) pl _ _ _ (fun _ => True) (fun _ => False) rfl rfl (Kd.R_nil _ _ _ _ _) HY.out (fun _ _ h => h) (fun _ h => h.elim) (fun _ _ => trivial) (Below.refl _ _) (Nat.le_refl _) (by have := HPL.out; simp only [List.length_nil]; omega) ?_; intro v6 w7 ho6 hb6 hg6 _; rw [List.nil_append] at ho6; have HO6 := hid ho6; have HB6 := hid hb6; have hsl := Kd.R_slice ho6; obtain ⟨Az, cz, rfl⟩ := hsl; clear ho6 hb6 hg6)
    clear HY
    have HPY := hid (fun (W' : World) (h : Below W.heap.size W W') (A : Option Addr) (c : Nat) (h1 : Kd.C (Kd.int .u8) W' A pl.length pl) (h2 : pl.length ≤ c) =>
      (show Calls Tryd.prog 40 #[.slice A pl.length c] W' fun e w' => e = .returned (.bool true) ∧ Below W'.heap.size W' w' from by
        have h := HPS.out ys HYL.out W' h A c
        rw [← HYS.out] at h
        exact h h1 h2))
    have hmem : ∀ x ∈ pl, 0 ≤ x ∧ x ≤ 255 := by
      intro x hx
      rw [HYS.out] at hx
      obtain ⟨b, _, rfl⟩ := List.mem_map.1 hx
      have := b.toNat_lt
      omega
    have HPZ : ∀ (zl : List Int), zl.length = pl.length → (∀ x ∈ zl, 0 ≤ x ∧ x ≤ 255) → Hid (∀ (W' : World) (h : Below W.heap.size W W') (A : Option Addr) (c : Nat) (h1 : Kd.C (Kd.int .u8) W' A zl.length zl) (h2 : pl.length ≤ c), Calls Tryd.prog 40 #[.slice A pl.length c] W' fun e w' => e = .returned (.bool true) ∧ Below W'.heap.size W' w') := by
      intro zl hz hzm
      obtain ⟨zs, rfl⟩ := nums_of zl hzm
      refine hid fun W' h A c h1 h2 => ?_
      have h := HPS.out zs (by have := HPL.out; rw [numsL_len] at hz; omega) W' h A c h1 (by omega)
      rw [hz] at h
      exact h
    have HPZ := hid HPZ
    by_cases hpos : 0 < pl.length
    obtain ⟨m, hm⟩ : ∃ m : Nat, a6 % (pl.length : Int) = (m : Int) := ⟨(a6 % (pl.length : Int)).toNat, by have := Int.emod_nonneg a6 (show (pl.length : Int) ≠ 0 by omega); omega⟩
    have hml : m < pl.length := by have := Int.emod_lt_of_pos a6 (show (0 : Int) < (pl.length : Int) by omega); omega
    have hmt : Int.tmod a6 (pl.length : Int) = (m : Int) := by rw [Int.tmod_eq_emod_of_nonneg (by omega)]; exact hm
    have hcz := (Kd.R_reads' HO6.out).2.1
    obtain ⟨g, cap, he, hg0, hg1, _⟩ := Kd.R_form HO6.out (by omega)
    injection he with he1 he2 he3
    subst he1 he3
    obtain ⟨k0, k1⟩ := Kd.R_cell (enc := Value.int .u8) (h1 := fun _ => rfl) (0 : Int) HO6.out (m : Int) (by omega) (by omega)
    have hnx := (Kd.R_put (enc := Value.int .u8) (h1 := fun _ => rfl) HO6.out (m : Int) (a7 : Int)).1
    rw [Int.toNat_natCast] at k0 k1 hnx
    have hCz := (Kd.R_reads' hnx).2.2
    clear hnx
    have hBZ := HB6.out.setCell (p := ⟨g, m, none⟩) hg0 (.int .u8 a7)
    have HQZ := hid (HPZ.out (pl.set m a7) List.length_set (fun x hx => by rcases List.mem_or_eq_of_mem_set hx with h | h; exact hmem x h; omega))
    have HS9 := hid (show S2 W #[.int .i64 a0, .slice A0 l0.length c0, .slice B0 n0.length e0] #[.int .i64 a1, .slice A1 l1.length c1, .slice B1 m1.length e1] #[.int .i64 st, .slice Aa fs.length ca, .slice Ab nb.length cb] g17 Aa fs Ab nb Ay pl (some ⟨g, 0, none⟩) (pl.set m a7) (w7.setCell ⟨g, m, none⟩ (.int .u8 a7)) from ⟨HS2.out.next hBZ, Kd.C_below HYO.out hBZ, hCz⟩)
    clear hCz hBZ HS2 HYO HO6 HB6
    generalize pl.set m a7 = zl at HS9 HQZ
    have hposI : (0 : Int) < (pl.length : Int) := by omega
    have hplI : (pl.length : Int) ≤ 100000 := by have := HPL.out; omega
    go_upto_region 9 with (fail)
    generalize (some ⟨g, 0, none⟩ : Option Addr) = Az at HS9 ⊢
    generalize w7.setCell ⟨g, m, none⟩ (.int .u8 a7) = wq at HS9 ⊢
    clear k0 k1 hm hmt hml hposI hplI hg0 hg1
    rotate_left
    have hposI : ((0 : Int) < (pl.length : Int)) = False := eq_false (by omega)
    have hcz := (Kd.R_reads' HO6.out).2.1
    have HQZ := hid (HPZ.out pl rfl hmem)
    have HS9 := hid (show S2 W #[.int .i64 a0, .slice A0 l0.length c0, .slice B0 n0.length e0] #[.int .i64 a1, .slice A1 l1.length c1, .slice B1 m1.length e1] #[.int .i64 st, .slice Aa fs.length ca, .slice Ab nb.length cb] g17 Aa fs Ab nb Ay pl Az pl w7 from ⟨HS2.out.next HB6.out, Kd.C_below HYO.out HB6.out, (Kd.R_reads' HO6.out).2.2⟩)
    clear HS2 HYO HO6 HB6
    obtain ⟨zl, hzl⟩ : ∃ zl, zl = pl := ⟨_, rfl⟩
    have HS9 := hid (show S2 W #[.int .i64 a0, .slice A0 l0.length c0, .slice B0 n0.length e0] #[.int .i64 a1, .slice A1 l1.length c1, .slice B1 m1.length e1] #[.int .i64 st, .slice Aa fs.length ca, .slice Ab nb.length cb] g17 Aa fs Ab nb Ay pl Az zl w7 from by rw [hzl]; exact HS9.out)
    have HQZ := hid (show ∀ (W' : World) (h : Below W.heap.size W W') (A : Option Addr) (c : Nat) (h1 : Kd.C (Kd.int .u8) W' A zl.length zl) (h2 : pl.length ≤ c), Calls Tryd.prog 40 #[.slice A pl.length c] W' fun e w' => e = .returned (.bool true) ∧ Below W'.heap.size W' w' from by rw [hzl]; exact HQZ.out)
    clear hzl
    go_upto_region 9 with (fail)
    generalize w7 = wq at HS9 ⊢
    clear hposI
    all_goals
      have HPZ := HQZ
      have hm6 := HM6.out
      have hm6t := HM6T.out
      have hm6b := HM6B.out
      clear HQZ HH1 HM6 HM6T HM6B HPS HYS HYL hmem
      refine start_ (n := 53) (S := fun w' => S2 W #[.int .i64 a0, .slice A0 l0.length c0, .slice B0 n0.length e0] #[.int .i64 a1, .slice A1 l1.length c1, .slice B1 m1.length e1] #[.int .i64 st, .slice Aa fs.length ca, .slice Ab nb.length cb] g17 Aa fs Ab nb Ay pl Az zl w') (ds := []) #[false, false, false, false, false, false, false, false, false, false, false, false, false, false, false, false, false, false, false, false, false, false, false, false, false, false, false, false, false, false, false, false, false, false, false, false, false, false, false, false, false, false, false, false, false, false, false, false, false, false, false, false, false] (by kernel_rfl) rfl rfl (HS9.out.next (bD (Below.refl _ _))) (fun hHeld => ?_)
      generalize wq.drew = wd at hHeld ⊢
      refine take_ (i := 0) (N := some 63) (v := ?_) (a' := ?_) #[true, false, false, false, false, false, false, false, false, false, false, false, false, false, false, false, false, false, false, false, false, false, false, false, false, false, false, false, false, false, false, false, false, false, false, false, false, false, false, false, false, false, false, false, false, false, false, false, false, false, false, false, false] rfl rfl (by kernel_rfl) (fun _ _ _ h => h) (Or.inl ⟨by rfl, ?_⟩) hHeld ?_ ?_
      rotate_left
      · rintro w' hs; have z80 := blk_cell hs.s1.s0.x8 0; have z81 := blk_cell hs.s1.s0.x8 1; have z82 := blk_cell hs.s1.s0.x8 2; have z90 := blk_cell hs.s1.s0.x9 0; have z91 := blk_cell hs.s1.s0.x9 1; have z92 := blk_cell hs.s1.s0.x9 2; have z70 := blk_cell hs.s1.x17 0; have z71 := blk_cell hs.s1.x17 1; have z72 := blk_cell hs.s1.x17 2
        go_simp
        with_reducible rfl
      rotate_left
      · simp only [Act.put, List.setIfInBounds_toArray, List.set_cons_zero, List.set_cons_succ]
        rfl
      refine one_ (i := 1) (N := some 64) #[true, true, false, false, false, false, false, false, false, false, false, false, false, false, false, false, false, false, false, false, false, false, false, false, false, false, false, false, false, false, false, false, false, false, false, false, false, false, false, false, false, false, false, false, false, false, false, false, false, false, false, false, false] rfl rfl (by kernel_rfl) (by decide) (fun K hK => ?_)
      go_simp; go_wp2_with (go_at_call 39; refine (HP0.out _ hHeld.s1.s0.bel).mono ?_; rintro e w9 ⟨rfl, hb⟩; have hN := hHeld.next hb; clear hb)
      refine hK.out _ _ (hN) (fun hHeld => ?_)
      clear hK K
      refine pure_ (i := 2) (N := some 65) (v := ?_) (a' := ?_) #[true, true, true, false, false, false, false, false, false, false, false, false, false, false, false, false, false, false, false, false, false, false, false, false, false, false, false, false, false, false, false, false, false, false, false, false, false, false, false, false, false, false, false, false, false, false, false, false, false, false, false, false, false] rfl rfl (by kernel_rfl) (fun _ _ _ h => h) (Or.inl ⟨by rfl, ?_⟩) ?_ ?_
      rotate_left
      · intro w'
        go_simp
        with_reducible rfl
      rotate_left
      · simp only [Act.put, List.setIfInBounds_toArray, List.set_cons_zero, List.set_cons_succ]
        rfl
      refine take_ (i := 3) (N := some 66) (v := ?_) (a' := ?_) #[true, true, true, true, false, false, false, false, false, false, false, false, false, false, false, false, false, false, false, false, false, false, false, false, false, false, false, false, false, false, false, false, false, false, false, false, false, false, false, false, false, false, false, false, false, false, false, false, false, false, false, false, false] rfl rfl (by kernel_rfl) (fun _ _ _ h => h) (Or.inl ⟨by rfl, ?_⟩) hHeld ?_ ?_
      rotate_left
      · rintro w' hs; have z80 := blk_cell hs.s1.s0.x8 0; have z81 := blk_cell hs.s1.s0.x8 1; have z82 := blk_cell hs.s1.s0.x8 2; have z90 := blk_cell hs.s1.s0.x9 0; have z91 := blk_cell hs.s1.s0.x9 1; have z92 := blk_cell hs.s1.s0.x9 2; have z70 := blk_cell hs.s1.x17 0; have z71 := blk_cell hs.s1.x17 1; have z72 := blk_cell hs.s1.x17 2
        go_simp
        with_reducible rfl
      rotate_left
      · simp only [Act.put, List.setIfInBounds_toArray, List.set_cons_zero, List.set_cons_succ]
        rfl
      refine one_ (i := 4) (N := some 67) #[true, true, true, true, true, false, false, false, false, false, false, false, false, false, false, false, false, false, false, false, false, false, false, false, false, false, false, false, false, false, false, false, false, false, false, false, false, false, false, false, false, false, false, false, false, false, false, false, false, false, false, false, false] rfl rfl (by kernel_rfl) (by decide) (fun K hK => ?_)
      go_simp; go_wp2_with (go_at_call 39; refine (HPX.out _ hHeld.s1.s0.bel Aa ca Ab cb hHeld.s1.fs hca hHeld.s1.nb hcb).mono ?_; rintro e w9 ⟨rfl, hb⟩; have hN := hHeld.next hb; clear hb)
      refine hK.out _ _ (hN) (fun hHeld => ?_)
      clear hK K
      refine pure_ (i := 5) (N := some 68) (v := ?_) (a' := ?_) #[true, true, true, true, true, true, false, false, false, false, false, false, false, false, false, false, false, false, false, false, false, false, false, false, false, false, false, false, false, false, false, false, false, false, false, false, false, false, false, false, false, false, false, false, false, false, false, false, false, false, false, false, false] rfl rfl (by kernel_rfl) (fun _ _ _ h => h) (Or.inl ⟨by rfl, ?_⟩) ?_ ?_
      rotate_left
      · intro w'
        go_simp
        with_reducible rfl
      rotate_left
      · simp only [Act.put, List.setIfInBounds_toArray, List.set_cons_zero, List.set_cons_succ]
        rfl
      refine pure_ (i := 6) (N := some 69) (v := ?_) (a' := ?_) #[true, true, true, true, true, true, true, false, false, false, false, false, false, false, false, false, false, false, false, false, false, false, false, false, false, false, false, false, false, false, false, false, false, false, false, false, false, false, false, false, false, false, false, false, false, false, false, false, false, false, false, false, false] rfl rfl (by kernel_rfl) (fun _ _ _ h => h) (Or.inl ⟨by rfl, ?_⟩) ?_ ?_
      rotate_left
      · intro w'
        go_simp
        with_reducible rfl
      rotate_left
      · simp only [Act.put, List.setIfInBounds_toArray, List.set_cons_zero, List.set_cons_succ]
        rfl
      refine pure_ (i := 7) (N := some 70) (v := ?_) (a' := ?_) #[true, true, true, true, true, true, true, true, false, false, false, false, false, false, false, false, false, false, false, false, false, false, false, false, false, false, false, false, false, false, false, false, false, false, false, false, false, false, false, false, false, false, false, false, false, false, false, false, false, false, false, false, false] rfl rfl (by kernel_rfl) (fun _ _ _ h => h) (Or.inl ⟨by rfl, ?_⟩) ?_ ?_
      rotate_left
      · intro w'
        go_simp
        with_reducible rfl
      rotate_left
      · simp only [Act.put, List.setIfInBounds_toArray, List.set_cons_zero, List.set_cons_succ]
        rfl
      refine one_ (i := 8) (N := some 71) #[true, true, true, true, true, true, true, true, true, false, false, false, false, false, false, false, false, false, false, false, false, false, false, false, false, false, false, false, false, false, false, false, false, false, false, false, false, false, false, false, false, false, false, false, false, false, false, false, false, false, false, false, false] rfl rfl (by kernel_rfl) (by decide) (fun K hK => ?_)
      go_simp; go_wp2_with (go_at_call 40; refine (HPB.out _ hHeld.s1.s0.bel).mono ?_; rintro e w9 ⟨rfl, hb⟩; have hN := hHeld.next hb; clear hb)
      refine hK.out _ _ (hN) (fun hHeld => ?_)
      clear hK K
      refine pure_ (i := 9) (N := some 72) (v := ?_) (a' := ?_) #[true, true, true, true, true, true, true, true, true, true, false, false, false, false, false, false, false, false, false, false, false, false, false, false, false, false, false, false, false, false, false, false, false, false, false, false, false, false, false, false, false, false, false, false, false, false, false, false, false, false, false, false, false] rfl rfl (by kernel_rfl) (fun _ _ _ h => h) (Or.inl ⟨by rfl, ?_⟩) ?_ ?_
      rotate_left
      · intro w'
        go_simp
        with_reducible rfl
      rotate_left
      · simp only [Act.put, List.setIfInBounds_toArray, List.set_cons_zero, List.set_cons_succ]
        rfl
      refine pure_ (i := 10) (N := some 73) (v := ?_) (a' := ?_) #[true, true, true, true, true, true, true, true, true, true, true, false, false, false, false, false, false, false, false, false, false, false, false, false, false, false, false, false, false, false, false, false, false, false, false, false, false, false, false, false, false, false, false, false, false, false, false, false, false, false, false, false, false] rfl rfl (by kernel_rfl) (fun _ _ _ h => h) (Or.inl ⟨by rfl, ?_⟩) ?_ ?_
      rotate_left
      · intro w'
        go_simp
        with_reducible rfl
      rotate_left
      · simp only [Act.put, List.setIfInBounds_toArray, List.set_cons_zero, List.set_cons_succ]
        rfl
      refine pure_ (i := 11) (N := some 74) (v := ?_) (a' := ?_) #[true, true, true, true, true, true, true, true, true, true, true, true, false, false, false, false, false, false, false, false, false, false, false, false, false, false, false, false, false, false, false, false, false, false, false, false, false, false, false, false, false, false, false, false, false, false, false, false, false, false, false, false, false] rfl rfl (by kernel_rfl) (fun _ _ _ h => h) (Or.inl ⟨by rfl, ?_⟩) ?_ ?_
      rotate_left
      · intro w'
        go_simp
        with_reducible rfl
      rotate_left
      · simp only [Act.put, List.setIfInBounds_toArray, List.set_cons_zero, List.set_cons_succ]
        rfl
      refine one_ (i := 12) (N := some 75) #[true, true, true, true, true, true, true, true, true, true, true, true, true, false, false, false, false, false, false, false, false, false, false, false, false, false, false, false, false, false, false, false, false, false, false, false, false, false, false, false, false, false, false, false, false, false, false, false, false, false, false, false, false] rfl rfl (by kernel_rfl) (by decide) (fun K hK => ?_)
      go_simp; go_wp2_with (go_at_call 40; refine (HPY.out _ hHeld.s1.s0.bel Ay cy hHeld.y hcy).mono ?_; rintro e w9 ⟨rfl, hb⟩; have hN := hHeld.next hb; clear hb)
      refine hK.out _ _ (hN) (fun hHeld => ?_)
      clear hK K
      refine pure_ (i := 13) (N := some 76) (v := ?_) (a' := ?_) #[true, true, true, true, true, true, true, true, true, true, true, true, true, true, false, false, false, false, false, false, false, false, false, false, false, false, false, false, false, false, false, false, false, false, false, false, false, false, false, false, false, false, false, false, false, false, false, false, false, false, false, false, false] rfl rfl (by kernel_rfl) (fun _ _ _ h => h) (Or.inl ⟨by rfl, ?_⟩) ?_ ?_
      rotate_left
      · intro w'
        go_simp
        with_reducible rfl
      rotate_left
      · simp only [Act.put, List.setIfInBounds_toArray, List.set_cons_zero, List.set_cons_succ]
        rfl
      refine pure_ (i := 14) (N := some 77) (v := ?_) (a' := ?_) #[true, true, true, true, true, true, true, true, true, true, true, true, true, true, true, false, false, false, false, false, false, false, false, false, false, false, false, false, false, false, false, false, false, false, false, false, false, false, false, false, false, false, false, false, false, false, false, false, false, false, false, false, false] rfl rfl (by kernel_rfl) (fun _ _ _ h => h) (Or.inl ⟨by rfl, ?_⟩) ?_ ?_
      rotate_left
      · intro w'
        go_simp
        with_reducible rfl
      rotate_left
      · simp only [Act.put, List.setIfInBounds_toArray, List.set_cons_zero, List.set_cons_succ]
        rfl
      refine pure_ (i := 15) (N := some 78) (v := ?_) (a' := ?_) #[true, true, true, true, true, true, true, true, true, true, true, true, true, true, true, true, false, false, false, false, false, false, false, false, false, false, false, false, false, false, false, false, false, false, false, false, false, false, false, false, false, false, false, false, false, false, false, false, false, false, false, false, false] rfl rfl (by kernel_rfl) (fun _ _ _ h => h) (Or.inl ⟨by rfl, ?_⟩) ?_ ?_
      rotate_left
      · intro w'
        go_simp
        with_reducible rfl
      rotate_left
      · simp only [Act.put, List.setIfInBounds_toArray, List.set_cons_zero, List.set_cons_succ]
        rfl
      refine one_ (i := 16) (N := some 79) #[true, true, true, true, true, true, true, true, true, true, true, true, true, true, true, true, true, false, false, false, false, false, false, false, false, false, false, false, false, false, false, false, false, false, false, false, false, false, false, false, false, false, false, false, false, false, false, false, false, false, false, false, false] rfl rfl (by kernel_rfl) (by decide) (fun K hK => ?_)
      go_simp; go_wp2_with (go_at_call 40; refine (HPZ.out _ hHeld.s1.s0.bel Az cz hHeld.z hcz).mono ?_; rintro e w9 ⟨rfl, hb⟩; have hN := hHeld.next hb; clear hb)
      refine hK.out _ _ (hN) (fun hHeld => ?_)
      clear hK K
      refine pure_ (i := 17) (N := some 80) (v := ?_) (a' := ?_) #[true, true, true, true, true, true, true, true, true, true, true, true, true, true, true, true, true, true, false, false, false, false, false, false, false, false, false, false, false, false, false, false, false, false, false, false, false, false, false, false, false, false, false, false, false, false, false, false, false, false, false, false, false] rfl rfl (by kernel_rfl) (fun _ _ _ h => h) (Or.inl ⟨by rfl, ?_⟩) ?_ ?_
      rotate_left
      · intro w'
        go_simp
        with_reducible rfl
      rotate_left
      · simp only [Act.put, List.setIfInBounds_toArray, List.set_cons_zero, List.set_cons_succ]
        rfl
      refine pure_ (i := 18) (N := some 81) (v := ?_) (a' := ?_) #[true, true, true, true, true, true, true, true, true, true, true, true, true, true, true, true, true, true, true, false, false, false, false, false, false, false, false, false, false, false, false, false, false, false, false, false, false, false, false, false, false, false, false, false, false, false, false, false, false, false, false, false, false] rfl rfl (by kernel_rfl) (fun _ _ _ h => h) (Or.inl ⟨by rfl, ?_⟩) ?_ ?_
      rotate_left
      · intro w'
        go_simp
        with_reducible rfl
      rotate_left
      · simp only [Act.put, List.setIfInBounds_toArray, List.set_cons_zero, List.set_cons_succ]
        rfl
      refine pure_ (i := 19) (N := some 82) (v := ?_) (a' := ?_) #[true, true, true, true, true, true, true, true, true, true, true, true, true, true, true, true, true, true, true, true, false, false, false, false, false, false, false, false, false, false, false, false, false, false, false, false, false, false, false, false, false, false, false, false, false, false, false, false, false, false, false, false, false] rfl rfl (by kernel_rfl) (fun _ _ _ h => h) (Or.inl ⟨by rfl, ?_⟩) ?_ ?_
      rotate_left
      · intro w'
        go_simp
        with_reducible rfl
      rotate_left
      · simp only [Act.put, List.setIfInBounds_toArray, List.set_cons_zero, List.set_cons_succ]
        rfl
      refine pure_ (i := 22) (N := some 85) (v := ?_) (a' := ?_) #[true, true, true, true, true, true, true, true, true, true, true, true, true, true, true, true, true, true, true, true, false, false, true, false, false, false, false, false, false, false, false, false, false, false, false, false, false, false, false, false, false, false, false, false, false, false, false, false, false, false, false, false, false] rfl rfl (by kernel_rfl) (fun _ _ _ h => h) (Or.inl ⟨by rfl, ?_⟩) ?_ ?_
      rotate_left
      · intro w'
        go_simp
        with_reducible rfl
      rotate_left
      · simp only [Act.put, List.setIfInBounds_toArray, List.set_cons_zero, List.set_cons_succ]
        rfl
      refine take_ (i := 20) (N := some 83) (v := ?_) (a' := ?_) #[true, true, true, true, true, true, true, true, true, true, true, true, true, true, true, true, true, true, true, true, true, false, true, false, false, false, false, false, false, false, false, false, false, false, false, false, false, false, false, false, false, false, false, false, false, false, false, false, false, false, false, false, false] rfl rfl (by kernel_rfl) (fun _ _ _ h => h) (Or.inl ⟨by rfl, ?_⟩) hHeld ?_ ?_
      rotate_left
      · rintro w' hs; have z80 := blk_cell hs.s1.s0.x8 0; have z81 := blk_cell hs.s1.s0.x8 1; have z82 := blk_cell hs.s1.s0.x8 2; have z90 := blk_cell hs.s1.s0.x9 0; have z91 := blk_cell hs.s1.s0.x9 1; have z92 := blk_cell hs.s1.s0.x9 2; have z70 := blk_cell hs.s1.x17 0; have z71 := blk_cell hs.s1.x17 1; have z72 := blk_cell hs.s1.x17 2
        go_simp
        with_reducible rfl
      rotate_left
      · simp only [Act.put, List.setIfInBounds_toArray, List.set_cons_zero, List.set_cons_succ]
        rfl
      refine take_ (i := 23) (N := some 86) (v := ?_) (a' := ?_) #[true, true, true, true, true, true, true, true, true, true, true, true, true, true, true, true, true, true, true, true, true, false, true, true, false, false, false, false, false, false, false, false, false, false, false, false, false, false, false, false, false, false, false, false, false, false, false, false, false, false, false, false, false] rfl rfl (by kernel_rfl) (fun _ _ _ h => h) (Or.inl ⟨by rfl, ?_⟩) hHeld ?_ ?_
      rotate_left
      · rintro w' hs; have z80 := blk_cell hs.s1.s0.x8 0; have z81 := blk_cell hs.s1.s0.x8 1; have z82 := blk_cell hs.s1.s0.x8 2; have z90 := blk_cell hs.s1.s0.x9 0; have z91 := blk_cell hs.s1.s0.x9 1; have z92 := blk_cell hs.s1.s0.x9 2; have z70 := blk_cell hs.s1.x17 0; have z71 := blk_cell hs.s1.x17 1; have z72 := blk_cell hs.s1.x17 2
        go_simp
        with_reducible rfl
      rotate_left
      · simp only [Act.put, List.setIfInBounds_toArray, List.set_cons_zero, List.set_cons_succ]
        rfl
      refine one_ (i := 21) (N := some 84) #[true, true, true, true, true, true, true, true, true, true, true, true, true, true, true, true, true, true, true, true, true, true, true, true, false, false, false, false, false, false, false, false, false, false, false, false, false, false, false, false, false, false, false, false, false, false, false, false, false, false, false, false, false] rfl rfl (by kernel_rfl) (by decide) (fun K hK => ?_)
      go_simp; go_wp2_with (go_at_call 36; refine (HRE.out _ _).mono ?_; rintro e w9 ⟨rfl, hb⟩; have hN := hHeld.next hb; clear hb)
      refine hK.out _ _ (hN) (fun hHeld => ?_)
      clear hK K
      refine one_ (i := 24) (N := some 87) #[true, true, true, true, true, true, true, true, true, true, true, true, true, true, true, true, true, true, true, true, true, true, true, true, true, false, false, false, false, false, false, false, false, false, false, false, false, false, false, false, false, false, false, false, false, false, false, false, false, false, false, false, false] rfl rfl (by kernel_rfl) (by decide) (fun K hK => ?_)
      go_simp; go_wp2_with (go_at_call 41; refine (HRR.out _ _).mono ?_; rintro e w9 ⟨rfl, hb⟩; have hN := hHeld.next hb; clear hb)
      refine hK.out _ _ (hN) (fun hHeld => ?_)
      clear hK K
      refine pure_ (i := 25) (N := some 88) (v := ?_) (a' := ?_) #[true, true, true, true, true, true, true, true, true, true, true, true, true, true, true, true, true, true, true, true, true, true, true, true, true, true, false, false, false, false, false, false, false, false, false, false, false, false, false, false, false, false, false, false, false, false, false, false, false, false, false, false, false] rfl rfl (by kernel_rfl) (fun _ _ _ h => h) (Or.inl ⟨by rfl, ?_⟩) ?_ ?_
      rotate_left
      · intro w'
        go_simp
        with_reducible rfl
      rotate_left
      · simp only [Act.put, List.setIfInBounds_toArray, List.set_cons_zero, List.set_cons_succ]
        rfl
      refine pure_ (i := 26) (N := some 89) (v := ?_) (a' := ?_) #[true, true, true, true, true, true, true, true, true, true, true, true, true, true, true, true, true, true, true, true, true, true, true, true, true, true, true, false, false, false, false, false, false, false, false, false, false, false, false, false, false, false, false, false, false, false, false, false, false, false, false, false, false] rfl rfl (by kernel_rfl) (fun _ _ _ h => h) (Or.inl ⟨by rfl, ?_⟩) ?_ ?_
      rotate_left
      · intro w'
        go_simp
        with_reducible rfl
      rotate_left
      · simp only [Act.put, List.setIfInBounds_toArray, List.set_cons_zero, List.set_cons_succ]
        rfl
      refine pure_ (i := 27) (N := some 90) (v := ?_) (a' := ?_) #[true, true, true, true, true, true, true, true, true, true, true, true, true, true, true, true, true, true, true, true, true, true, true, true, true, true, true, true, false, false, false, false, false, false, false, false, false, false, false, false, false, false, false, false, false, false, false, false, false, false, false, false, false] rfl rfl (by kernel_rfl) (fun _ _ _ h => h) (Or.inl ⟨by rfl, ?_⟩) ?_ ?_
      rotate_left
      · intro w'
        go_simp
        with_reducible rfl
      rotate_left
      · simp only [Act.put, List.setIfInBounds_toArray, List.set_cons_zero, List.set_cons_succ]
        rfl
      refine pure_ (i := 28) (N := some 91) (v := ?_) (a' := ?_) #[true, true, true, true, true, true, true, true, true, true, true, true, true, true, true, true, true, true, true, true, true, true, true, true, true, true, true, true, true, false, false, false, false, false, false, false, false, false, false, false, false, false, false, false, false, false, false, false, false, false, false, false, false] rfl rfl (by kernel_rfl) (fun _ _ _ h => h) (Or.inl ⟨by rfl, ?_⟩) ?_ ?_
      rotate_left
      · intro w'
        go_simp
        with_reducible rfl
      rotate_left
      · simp only [Act.put, List.setIfInBounds_toArray, List.set_cons_zero, List.set_cons_succ]
        rfl
      refine pure_ (i := 32) (N := some 95) (v := ?_) (a' := ?_) #[true, true, true, true, true, true, true, true, true, true, true, true, true, true, true, true, true, true, true, true, true, true, true, true, true, true, true, true, true, false, false, false, true, false, false, false, false, false, false, false, false, false, false, false, false, false, false, false, false, false, false, false, false] rfl rfl (by kernel_rfl) (fun _ _ _ h => h) (Or.inl ⟨by rfl, ?_⟩) ?_ ?_
      rotate_left
      · intro w'
        go_simp
        with_reducible rfl
      rotate_left
      · simp only [Act.put, List.setIfInBounds_toArray, List.set_cons_zero, List.set_cons_succ]
        rfl
      refine pure_ (i := 29) (N := some 92) (v := ?_) (a' := ?_) #[true, true, true, true, true, true, true, true, true, true, true, true, true, true, true, true, true, true, true, true, true, true, true, true, true, true, true, true, true, true, false, false, true, false, false, false, false, false, false, false, false, false, false, false, false, false, false, false, false, false, false, false, false] rfl rfl (by kernel_rfl) (fun _ _ _ h => h) (Or.inl ⟨by rfl, ?_⟩) ?_ ?_
      rotate_left
      · intro w'
        go_simp
        with_reducible rfl
      rotate_left
      · simp only [Act.put, List.setIfInBounds_toArray, List.set_cons_zero, List.set_cons_succ]
        rfl
      refine pure_ (i := 33) (N := some 96) (v := ?_) (a' := ?_) #[true, true, true, true, true, true, true, true, true, true, true, true, true, true, true, true, true, true, true, true, true, true, true, true, true, true, true, true, true, true, false, false, true, true, false, false, false, false, false, false, false, false, false, false, false, false, false, false, false, false, false, false, false] rfl rfl (by kernel_rfl) (fun _ _ _ h => h) (Or.inl ⟨by rfl, ?_⟩) ?_ ?_
      rotate_left
      · intro w'
        go_simp
        with_reducible rfl
      rotate_left
      · simp only [Act.put, List.setIfInBounds_toArray, List.set_cons_zero, List.set_cons_succ]
        rfl
      refine pure_ (i := 30) (N := some 93) (v := ?_) (a' := ?_) #[true, true, true, true, true, true, true, true, true, true, true, true, true, true, true, true, true, true, true, true, true, true, true, true, true, true, true, true, true, true, true, false, true, true, false, false, false, false, false, false, false, false, false, false, false, false, false, false, false, false, false, false, false] rfl rfl (by kernel_rfl) (fun _ _ _ h => h) (Or.inl ⟨by rfl, ?_⟩) ?_ ?_
      rotate_left
      · intro w'
        go_simp
        with_reducible rfl
      rotate_left
      · simp only [Act.put, List.setIfInBounds_toArray, List.set_cons_zero, List.set_cons_succ]
        rfl
      refine pure_ (i := 34) (N := some 97) (v := ?_) (a' := ?_) #[true, true, true, true, true, true, true, true, true, true, true, true, true, true, true, true, true, true, true, true, true, true, true, true, true, true, true, true, true, true, true, false, true, true, true, false, false, false, false, false, false, false, false, false, false, false, false, false, false, false, false, false, false] rfl rfl (by kernel_rfl) (fun _ _ _ h => h) (Or.inl ⟨by rfl, ?_⟩) ?_ ?_
      rotate_left
      · intro w'
        go_simp
        with_reducible rfl
      rotate_left
      · simp only [Act.put, List.setIfInBounds_toArray, List.set_cons_zero, List.set_cons_succ]
        rfl
      refine one_ (i := 31) (N := some 94) #[true, true, true, true, true, true, true, true, true, true, true, true, true, true, true, true, true, true, true, true, true, true, true, true, true, true, true, true, true, true, true, true, true, true, true, false, false, false, false, false, false, false, false, false, false, false, false, false, false, false, false, false, false] rfl rfl (by kernel_rfl) (by decide) (fun K hK => ?_)
      go_simp; go_wp2_with (go_at_call 36; refine (HRE.out _ _).mono ?_; rintro e w9 ⟨rfl, hb⟩; have hN := hHeld.next hb; clear hb)
      refine hK.out _ _ (hN) (fun hHeld => ?_)
      clear hK K
      refine one_ (i := 35) (N := some 98) #[true, true, true, true, true, true, true, true, true, true, true, true, true, true, true, true, true, true, true, true, true, true, true, true, true, true, true, true, true, true, true, true, true, true, true, true, false, false, false, false, false, false, false, false, false, false, false, false, false, false, false, false, false] rfl rfl (by kernel_rfl) (by decide) (fun K hK => ?_)
      go_simp; go_wp2_with (go_at_call 41; refine (HRR.out _ _).mono ?_; rintro e w9 ⟨rfl, hb⟩; have hN := hHeld.next hb; clear hb)
      refine hK.out _ _ (hN) (fun hHeld => ?_)
      clear hK K
      refine pure_ (i := 36) (N := some 99) (v := ?_) (a' := ?_) #[true, true, true, true, true, true, true, true, true, true, true, true, true, true, true, true, true, true, true, true, true, true, true, true, true, true, true, true, true, true, true, true, true, true, true, true, true, false, false, false, false, false, false, false, false, false, false, false, false, false, false, false, false] rfl rfl (by kernel_rfl) (fun _ _ _ h => h) (Or.inl ⟨by rfl, ?_⟩) ?_ ?_
      rotate_left
      · intro w'
        go_simp
        with_reducible rfl
      rotate_left
      · simp only [Act.put, List.setIfInBounds_toArray, List.set_cons_zero, List.set_cons_succ]
        rfl
      refine pure_ (i := 37) (N := some 100) (v := ?_) (a' := ?_) #[true, true, true, true, true, true, true, true, true, true, true, true, true, true, true, true, true, true, true, true, true, true, true, true, true, true, true, true, true, true, true, true, true, true, true, true, true, true, false, false, false, false, false, false, false, false, false, false, false, false, false, false, false] rfl rfl (by kernel_rfl) (fun _ _ _ h => h) (Or.inl ⟨by rfl, ?_⟩) ?_ ?_
      rotate_left
      · intro w'
        go_simp
        with_reducible rfl
      rotate_left
      · simp only [Act.put, List.setIfInBounds_toArray, List.set_cons_zero, List.set_cons_succ]
        rfl
      refine pure_ (i := 38) (N := some 101) (v := ?_) (a' := ?_) #[true, true, true, true, true, true, true, true, true, true, true, true, true, true, true, true, true, true, true, true, true, true, true, true, true, true, true, true, true, true, true, true, true, true, true, true, true, true, true, false, false, false, false, false, false, false, false, false, false, false, false, false, false] rfl rfl (by kernel_rfl) (fun _ _ _ h => h) (Or.inl ⟨by rfl, ?_⟩) ?_ ?_
      rotate_left
      · intro w'
        go_simp
        with_reducible rfl
      rotate_left
      · simp only [Act.put, List.setIfInBounds_toArray, List.set_cons_zero, List.set_cons_succ]
        rfl
      refine take_ (i := 39) (N := some 102) (v := ?_) (a' := ?_) #[true, true, true, true, true, true, true, true, true, true, true, true, true, true, true, true, true, true, true, true, true, true, true, true, true, true, true, true, true, true, true, true, true, true, true, true, true, true, true, true, false, false, false, false, false, false, false, false, false, false, false, false, false] rfl rfl (by kernel_rfl) (fun _ _ _ h => h) (Or.inl ⟨by rfl, ?_⟩) hHeld ?_ ?_
      rotate_left
      · rintro w' hs; have z80 := blk_cell hs.s1.s0.x8 0; have z81 := blk_cell hs.s1.s0.x8 1; have z82 := blk_cell hs.s1.s0.x8 2; have z90 := blk_cell hs.s1.s0.x9 0; have z91 := blk_cell hs.s1.s0.x9 1; have z92 := blk_cell hs.s1.s0.x9 2; have z70 := blk_cell hs.s1.x17 0; have z71 := blk_cell hs.s1.x17 1; have z72 := blk_cell hs.s1.x17 2
        go_simp
        with_reducible rfl
      rotate_left
      · simp only [Act.put, List.setIfInBounds_toArray, List.set_cons_zero, List.set_cons_succ]
        rfl
      refine take_ (i := 40) (N := some 103) (v := ?_) (a' := ?_) #[true, true, true, true, true, true, true, true, true, true, true, true, true, true, true, true, true, true, true, true, true, true, true, true, true, true, true, true, true, true, true, true, true, true, true, true, true, true, true, true, true, false, false, false, false, false, false, false, false, false, false, false, false] rfl rfl (by kernel_rfl) (fun _ _ _ h => h) (Or.inl ⟨by rfl, ?_⟩) hHeld ?_ ?_
      rotate_left
      · rintro w' hs; have z80 := blk_cell hs.s1.s0.x8 0; have z81 := blk_cell hs.s1.s0.x8 1; have z82 := blk_cell hs.s1.s0.x8 2; have z90 := blk_cell hs.s1.s0.x9 0; have z91 := blk_cell hs.s1.s0.x9 1; have z92 := blk_cell hs.s1.s0.x9 2; have z70 := blk_cell hs.s1.x17 0; have z71 := blk_cell hs.s1.x17 1; have z72 := blk_cell hs.s1.x17 2
        go_simp
        with_reducible rfl
      rotate_left
      · simp only [Act.put, List.setIfInBounds_toArray, List.set_cons_zero, List.set_cons_succ]
        rfl
      refine take_ (i := 42) (N := some 105) (v := ?_) (a' := ?_) #[true, true, true, true, true, true, true, true, true, true, true, true, true, true, true, true, true, true, true, true, true, true, true, true, true, true, true, true, true, true, true, true, true, true, true, true, true, true, true, true, true, false, true, false, false, false, false, false, false, false, false, false, false] rfl rfl (by kernel_rfl) (fun _ _ _ h => h) (Or.inl ⟨by rfl, ?_⟩) hHeld ?_ ?_
      rotate_left
      · rintro w' hs; have z80 := blk_cell hs.s1.s0.x8 0; have z81 := blk_cell hs.s1.s0.x8 1; have z82 := blk_cell hs.s1.s0.x8 2; have z90 := blk_cell hs.s1.s0.x9 0; have z91 := blk_cell hs.s1.s0.x9 1; have z92 := blk_cell hs.s1.s0.x9 2; have z70 := blk_cell hs.s1.x17 0; have z71 := blk_cell hs.s1.x17 1; have z72 := blk_cell hs.s1.x17 2
        go_simp
        with_reducible rfl
      rotate_left
      · simp only [Act.put, List.setIfInBounds_toArray, List.set_cons_zero, List.set_cons_succ]
        rfl
      refine take_ (i := 43) (N := some 106) (v := ?_) (a' := ?_) #[true, true, true, true, true, true, true, true, true, true, true, true, true, true, true, true, true, true, true, true, true, true, true, true, true, true, true, true, true, true, true, true, true, true, true, true, true, true, true, true, true, false, true, true, false, false, false, false, false, false, false, false, false] rfl rfl (by kernel_rfl) (fun _ _ _ h => h) (Or.inl ⟨by rfl, ?_⟩) hHeld ?_ ?_
      rotate_left
      · rintro w' hs; have z80 := blk_cell hs.s1.s0.x8 0; have z81 := blk_cell hs.s1.s0.x8 1; have z82 := blk_cell hs.s1.s0.x8 2; have z90 := blk_cell hs.s1.s0.x9 0; have z91 := blk_cell hs.s1.s0.x9 1; have z92 := blk_cell hs.s1.s0.x9 2; have z70 := blk_cell hs.s1.x17 0; have z71 := blk_cell hs.s1.x17 1; have z72 := blk_cell hs.s1.x17 2
        go_simp
        with_reducible rfl
      rotate_left
      · simp only [Act.put, List.setIfInBounds_toArray, List.set_cons_zero, List.set_cons_succ]
        rfl
      refine one_ (i := 41) (N := some 104) #[true, true, true, true, true, true, true, true, true, true, true, true, true, true, true, true, true, true, true, true, true, true, true, true, true, true, true, true, true, true, true, true, true, true, true, true, true, true, true, true, true, true, true, true, false, false, false, false, false, false, false, false, false] rfl rfl (by kernel_rfl) (by decide) (fun K hK => ?_)
      go_simp; go_wp2_with (go_at_call 42; refine (HSB.out _ hHeld.s1.s0.bel).mono ?_; rintro e w9 ⟨rfl, hb⟩; have hN := hHeld.next hb; clear hb)
      refine hK.out _ _ (hN) (fun hHeld => ?_)
      clear hK K
      refine one_ (i := 44) (N := some 107) #[true, true, true, true, true, true, true, true, true, true, true, true, true, true, true, true, true, true, true, true, true, true, true, true, true, true, true, true, true, true, true, true, true, true, true, true, true, true, true, true, true, true, true, true, true, false, false, false, false, false, false, false, false] rfl rfl (by kernel_rfl) (by decide) (fun K hK => ?_)
      go_simp; go_wp2_with (go_at_call 31; refine (HST.out _ hHeld.s1.s0.bel).mono ?_; rintro e w9 ⟨rfl, hb⟩; have hN := hHeld.next hb; clear hb)
      refine hK.out _ _ (hN) (fun hHeld => ?_)
      clear hK K
      refine pure_ (i := 45) (N := some 108) (v := ?_) (a' := ?_) #[true, true, true, true, true, true, true, true, true, true, true, true, true, true, true, true, true, true, true, true, true, true, true, true, true, true, true, true, true, true, true, true, true, true, true, true, true, true, true, true, true, true, true, true, true, true, false, false, false, false, false, false, false] rfl rfl (by kernel_rfl) (fun _ _ _ h => h) (Or.inl ⟨by rfl, ?_⟩) ?_ ?_
      rotate_left
      · intro w'
        go_simp
        with_reducible rfl
      rotate_left
      · simp only [Act.put, List.setIfInBounds_toArray, List.set_cons_zero, List.set_cons_succ]
        rfl
      refine pure_ (i := 46) (N := some 109) (v := ?_) (a' := ?_) #[true, true, true, true, true, true, true, true, true, true, true, true, true, true, true, true, true, true, true, true, true, true, true, true, true, true, true, true, true, true, true, true, true, true, true, true, true, true, true, true, true, true, true, true, true, true, true, false, false, false, false, false, false] rfl rfl (by kernel_rfl) (fun _ _ _ h => h) (Or.inl ⟨by rfl, ?_⟩) ?_ ?_
      rotate_left
      · intro w'
        go_simp
        with_reducible rfl
      rotate_left
      · simp only [Act.put, List.setIfInBounds_toArray, List.set_cons_zero, List.set_cons_succ]
        rfl
      refine pure_ (i := 47) (N := some 110) (v := ?_) (a' := ?_) #[true, true, true, true, true, true, true, true, true, true, true, true, true, true, true, true, true, true, true, true, true, true, true, true, true, true, true, true, true, true, true, true, true, true, true, true, true, true, true, true, true, true, true, true, true, true, true, true, false, false, false, false, false] rfl rfl (by kernel_rfl) (fun _ _ _ h => h) (Or.inl ⟨by rfl, ?_⟩) ?_ ?_
      rotate_left
      · intro w'
        go_simp
        with_reducible rfl
      rotate_left
      · simp only [Act.put, List.setIfInBounds_toArray, List.set_cons_zero, List.set_cons_succ]
        rfl
      refine take_ (i := 48) (N := some 111) (v := ?_) (a' := ?_) #[true, true, true, true, true, true, true, true, true, true, true, true, true, true, true, true, true, true, true, true, true, true, true, true, true, true, true, true, true, true, true, true, true, true, true, true, true, true, true, true, true, true, true, true, true, true, true, true, true, false, false, false, false] rfl rfl (by kernel_rfl) (fun _ _ _ h => h) (Or.inl ⟨by rfl, ?_⟩) hHeld ?_ ?_
      rotate_left
      · rintro w' hs; have z80 := blk_cell hs.s1.s0.x8 0; have z81 := blk_cell hs.s1.s0.x8 1; have z82 := blk_cell hs.s1.s0.x8 2; have z90 := blk_cell hs.s1.s0.x9 0; have z91 := blk_cell hs.s1.s0.x9 1; have z92 := blk_cell hs.s1.s0.x9 2; have z70 := blk_cell hs.s1.x17 0; have z71 := blk_cell hs.s1.x17 1; have z72 := blk_cell hs.s1.x17 2
        go_simp
        with_reducible rfl
      rotate_left
      · simp only [Act.put, List.setIfInBounds_toArray, List.set_cons_zero, List.set_cons_succ]
        rfl
      refine take_ (i := 49) (N := some 112) (v := ?_) (a' := ?_) #[true, true, true, true, true, true, true, true, true, true, true, true, true, true, true, true, true, true, true, true, true, true, true, true, true, true, true, true, true, true, true, true, true, true, true, true, true, true, true, true, true, true, true, true, true, true, true, true, true, true, false, false, false] rfl rfl (by kernel_rfl) (fun _ _ _ h => h) (Or.inl ⟨by rfl, ?_⟩) hHeld ?_ ?_
      rotate_left
      · rintro w' hs; have z80 := blk_cell hs.s1.s0.x8 0; have z81 := blk_cell hs.s1.s0.x8 1; have z82 := blk_cell hs.s1.s0.x8 2; have z90 := blk_cell hs.s1.s0.x9 0; have z91 := blk_cell hs.s1.s0.x9 1; have z92 := blk_cell hs.s1.s0.x9 2; have z70 := blk_cell hs.s1.x17 0; have z71 := blk_cell hs.s1.x17 1; have z72 := blk_cell hs.s1.x17 2
        go_simp
        with_reducible rfl
      rotate_left
      · simp only [Act.put, List.setIfInBounds_toArray, List.set_cons_zero, List.set_cons_succ]
        rfl
      refine one_ (i := 50) (N := some 113) #[true, true, true, true, true, true, true, true, true, true, true, true, true, true, true, true, true, true, true, true, true, true, true, true, true, true, true, true, true, true, true, true, true, true, true, true, true, true, true, true, true, true, true, true, true, true, true, true, true, true, true, false, false] rfl rfl (by kernel_rfl) (by decide) (fun K hK => ?_)
      go_simp; go_wp2_with (go_at_call 42; refine (HSX.out _ Aa ca Ab cb hHeld.s1.fs hca hHeld.s1.nb hcb).mono ?_; rintro e w9 ⟨rfl, hb⟩; have hN := hHeld.next hb; clear hb)
      refine hK.out _ _ (hN) (fun hHeld => ?_)
      clear hK K
      refine pure_ (i := 51) (N := some 114) (v := ?_) (a' := ?_) #[true, true, true, true, true, true, true, true, true, true, true, true, true, true, true, true, true, true, true, true, true, true, true, true, true, true, true, true, true, true, true, true, true, true, true, true, true, true, true, true, true, true, true, true, true, true, true, true, true, true, true, true, false] rfl rfl (by kernel_rfl) (fun _ _ _ h => h) (Or.inl ⟨by rfl, ?_⟩) ?_ ?_
      rotate_left
      · intro w'
        go_simp
        with_reducible rfl
      rotate_left
      · simp only [Act.put, List.setIfInBounds_toArray, List.set_cons_zero, List.set_cons_succ]
        rfl
      refine pure_ (i := 52) (N := some 16) (v := ?_) (a' := ?_) #[true, true, true, true, true, true, true, true, true, true, true, true, true, true, true, true, true, true, true, true, true, true, true, true, true, true, true, true, true, true, true, true, true, true, true, true, true, true, true, true, true, true, true, true, true, true, true, true, true, true, true, true, true] rfl rfl (by kernel_rfl) (fun _ _ _ h => h) (Or.inl ⟨by rfl, ?_⟩) ?_ ?_
      rotate_left
      · intro w'
        go_simp
        with_reducible rfl
      rotate_left
      · simp only [Act.put, List.setIfInBounds_toArray, List.set_cons_zero, List.set_cons_succ]
        rfl
      refine done_ (by kernel_rfl) ?_
      go_wp2
      go_ret
      exact ⟨rfl, hHeld.s1.s0.bel⟩
end Go.Proofs.YtpfbemcoblganaaDoor.respPrints
namespace Go.Proofs.YtpfbemcoblganaaDoor.respPrints
open Go.ChangeShapes Go.WideShapes Go.ChangeAt Go.RowKit Go.Proofs.YtpfbemcoblganaaDoorW Go.Proofs.YtpfbemcoblganaaDoorW.PrintWords Go.Proofs.YtpfbemcoblganaaDoor.Pall
open Go.ChangeMaps (open_string shut_string)
set_option linter.unusedVariables false
theorem own : ownKnob Tryd.prog.godebug = none := by kernel_rfl
theorem laidOut : laidOutB Tryd.prog = true := by kernel_rfl
set_option maxRecDepth 100000 in
theorem lifted (os : Os) (started : os.Started) (H : Type) (enc : TypeId × Value → H) :
    ReturnsInHanded {} Tryd.checked os 14 .any (fun w args => (Rows.respPrintsSpec.pre enc Tryd.prog Tryd.f14 [] false w args ∧ laidMetH Tryd.prog Rows.respPrintsRow.laid w) ∧ sizedMet enc Tryd.prog Tryd.f14 (OpenSpec.ofChange Rows.respPrintsSpec) false w args)
      (Rows.respPrintsSpec.post enc Tryd.prog Tryd.f14 false true false false) := by
  refine law_lifted (C := Tryd.checked) (rt := 4) (L := Rows.respPrintsRow.laid) own started (by kernel_rfl) Tryd.func14 laidOut (by kernel_rfl) rfl rfl (by rfl) Tryd.underlying4 ?_ (ChangeSpec.witness_shaped (enc := enc) (C := Tryd.checked) (os := os) (X := fun w _ => laidMetH Tryd.prog Rows.respPrintsRow.laid w) false (World.laidAll Tryd.prog os Rows.respPrintsRow.laid) #[.agg #[.int .i64 0, .slice none 0 0, .slice none 0 0], .agg #[.int .i64 0, .slice none 0 0, .slice none 0 0], .slice none 0 0, .slice none 0 0, .slice none 0 0, .int .u8 0, .int .u16 0, .int .u8 0] 8 (World.laidAll_os _ _ _)
    (World.shaped_of_ZipB (by kernel_rfl) (by kernel_rfl)) (by kernel_rfl) (by kernel_rfl) (by kernel_rfl) (by rw [MakeChecks.laidMetH_plain _ _ _ (by kernel_rfl)]; exact laidMet_laidAll _ (by kernel_rfl) (by kernel_rfl))) ?_
  · intro ds hds
    have hds : ds.length = 8 := hds
    match ds, hds with
    | [_, _, _, _, _, _, _, _], _ => rfl
  intro W base args ds ps hval0 hA0 hsz0 hL hsh
  have hS : Sh W := cell_of_shapedOpen_int' hsh
  have hT : Tb W := tb_of hL (by kernel_rfl) 2 rfl
  have hval : ∀ (j : Nat) t v, Tryd.f14.params[j]? = some t → args[j]? = some v → Value.okWide Tryd.prog W .any base t v := hval0
  have hA : DataW.TrodAll enc Tryd.prog W 0 (fun _ => true) true Tryd.f14.params.toList args.toList ds ps := hA0
  have hsz : (DataW.weightsEach Tryd.prog Tryd.f14.params.toList ds).all (· ≤ reachBytes) = true := hsz0
  rw [Tryd.params14] at hA hval hsz
  obtain ⟨v0, vs0, d0, ds0, p0, q0, hargs, rfl, rfl, h0, r0⟩ := trodAll_cons hA
  obtain ⟨v1, vs1, d1, ds1, p1, q1, rfl, rfl, rfl, h1, r1⟩ := trodAll_cons r0
  obtain ⟨v2, vs2, d2, ds2, p2, q2, rfl, rfl, rfl, h2, r2⟩ := trodAll_cons r1
  obtain ⟨v3, vs3, d3, ds3, p3, q3, rfl, rfl, rfl, h3, r3⟩ := trodAll_cons r2
  obtain ⟨v4, vs4, d4, ds4, p4, q4, rfl, rfl, rfl, h4, r4⟩ := trodAll_cons r3
  obtain ⟨v5, vs5, d5, ds5, p5, q5, rfl, rfl, rfl, h5, r5⟩ := trodAll_cons r4
  obtain ⟨v6, vs6, d6, ds6, p6, q6, rfl, rfl, rfl, h6, r6⟩ := trodAll_cons r5
  obtain ⟨v7, vs7, d7, ds7, p7, q7, rfl, rfl, rfl, h7, r7⟩ := trodAll_cons r6
  obtain ⟨rfl, rfl, rfl⟩ := trodAll_nil r7
  obtain rfl : args = #[v0, v1, v2, v3, v4, v5, v6, v7] := by cases args; simp_all
  obtain ⟨a0, A0, c0, l0, B0, e0, m0, rfl, w0, hr0, hc0, y0, yy0, hs0, hd0, u0, z0⟩ := resp_open hsz (j := 0) rfl rfl (hval 0 51 v0 rfl rfl) h0
  obtain ⟨a1, A1, c1, l1, B1, e1, m1, rfl, w1, hr1, hc1, y1, yy1, hs1, hd1, u1, z1⟩ := resp_open hsz (j := 1) rfl rfl (hval 1 51 v1 rfl rfl) h1
  obtain ⟨A2, len2, cap2, rfl⟩ := okWide_slice Tryd.underlying22 (hval 2 22 v2 rfl rfl)
  obtain ⟨z2, w2⟩ := ints_row Tryd.underlying22 Tryd.underlying5 (by kernel_rfl) h2
  have y2 : len2 * 1 ≤ 140737488351232 := PrintWords.sized_ints hsz (j := 2) (t := 22) rfl rfl Tryd.underlying22 Tryd.underlying5 (by kernel_rfl) (by kernel_rfl) h2
  obtain ⟨l2, rfl, hr2, hm2, hw2, hc2⟩ := ReadsInt.ofRowC w2
  obtain ⟨A3, len3, cap3, rfl⟩ := okWide_slice Tryd.underlying22 (hval 3 22 v3 rfl rfl)
  obtain ⟨z3, w3⟩ := ints_row Tryd.underlying22 Tryd.underlying5 (by kernel_rfl) h3
  have y3 : len3 * 1 ≤ 140737488351232 := PrintWords.sized_ints hsz (j := 3) (t := 22) rfl rfl Tryd.underlying22 Tryd.underlying5 (by kernel_rfl) (by kernel_rfl) h3
  obtain ⟨l3, rfl, hr3, hm3, hw3, hc3⟩ := ReadsInt.ofRowC w3
  obtain ⟨A4, len4, cap4, rfl⟩ := okWide_slice Tryd.underlying22 (hval 4 22 v4 rfl rfl)
  obtain ⟨z4, w4⟩ := ints_row Tryd.underlying22 Tryd.underlying5 (by kernel_rfl) h4
  have y4 : len4 * 1 ≤ 140737488351232 := PrintWords.sized_ints hsz (j := 4) (t := 22) rfl rfl Tryd.underlying22 Tryd.underlying5 (by kernel_rfl) (by kernel_rfl) h4
  obtain ⟨l4, rfl, hr4, hm4, hw4, hc4⟩ := ReadsInt.ofRowC w4
  obtain ⟨a5, rfl, rfl, rfl, w5⟩ := open_int Tryd.underlying5 (hval 5 5 v5 rfl rfl) h5
  obtain ⟨a6, rfl, rfl, rfl, w6⟩ := open_int Tryd.underlying23 (hval 6 23 v6 rfl rfl) h6
  obtain ⟨a7, rfl, rfl, rfl, w7⟩ := open_int Tryd.underlying5 (hval 7 5 v7 rfl rfl) h7
  exact walk a0 w0 A0 c0 l0 hr0 hc0 y0 yy0 B0 e0 m0 hs0 hd0 u0 z0 a1 w1 A1 c1 l1 hr1 hc1 y1 yy1 B1 e1 m1 hs1 hd1 u1 z1 A2 cap2 l2 (Kd.C_of_reads (d := (0 : Int)) (h1 := fun _ => rfl) hr2) hc2 hw2 (by omega) A3 cap3 l3 (Kd.C_of_reads (d := (0 : Int)) (h1 := fun _ => rfl) hr3) hc3 hw3 (by omega) A4 cap4 l4 (Kd.C_of_reads (d := (0 : Int)) (h1 := fun _ => rfl) hr4) hc4 hw4 (by omega) a5 w5 a6 w6 a7 w7 W rfl hS hT
theorem over : Rows.respPrintsRow.holds Tryd.pinned (OpenSpec.ofChange Rows.respPrintsSpec) :=
  OpenClaim.holds_of_wide 14 Tryd.f14 rfl rfl rfl rfl rfl rfl rfl ⟨rfl, rfl, rfl, rfl, rfl⟩ rfl rfl rfl rfl rfl (by kernel_rfl) Tryd.func14 (by kernel_rfl)
    (of_decide_eq_true (by kernel_rfl)) (by unfold Func.isWrapper; rw [if_neg (of_decide_eq_false (by kernel_rfl))]; exact ⟨rfl, rfl⟩)
    (fun os started H enc _ => lifted os started H enc)
theorem said : Rows.RespPrintsSaid := over
theorem card : Rows.RespPrintsCardSaid :=
  Claim7.holds_tied_plain_at .later [] [.data, .data, .data, .data, .sentinel, .pinned] true (true, "79a6d220dc140684a9dab3eb2f9ce24deda1b71e26dfa61c675eb49a4432bf09") true said (fun _ h => by cases h) (by kernel_rfl) (fun _ h => by cases h) respPrints_row_tie rfl ⟨rfl, rfl⟩ (by kernel_rfl) rfl
    (fun f fn hf hfn => by
      obtain rfl : f = 14 := Option.some.inj ((show Tryd.prog.funcNamed "wicketman/wicketmanlaw10.RespPrints" = some 14 by kernel_rfl).symm.trans hf) |>.symm
      obtain rfl : fn = Tryd.f14 := (Option.some.inj (Tryd.func14.symm.trans hfn)).symm
      exact ⟨by kernel_rfl, fun j t ht => by
        rw [Tryd.params14] at ht
        have hm : t ∈ [51, 51, 22, 22, 22, 5, 23, 5] := by simpa using Array.mem_of_getElem? ht
        have hall : ([51, 51, 22, 22, 22, 5, 23, 5].all fun u => !Tryd.prog.wantsStandIn u) = true := by kernel_rfl
        exact (show Tryd.prog.wantsStandIn t = false by simpa using List.all_eq_true.1 hall t hm)⟩)
    (by kernel_rfl)
#print axioms card
end Go.Proofs.YtpfbemcoblganaaDoor.respPrints
namespace Go.Proofs.YtpfbemcoblganaaDoor
/-- The card, under a short name, for the claim. -/
theorem respPrints_card : Rows.RespPrintsCardSaid := respPrints.card
end Go.Proofs.YtpfbemcoblganaaDoor

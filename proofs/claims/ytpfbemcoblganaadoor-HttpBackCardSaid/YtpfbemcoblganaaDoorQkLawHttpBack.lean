/-
  HttpBack: a request that may be is parsed as it was, byte by byte of its body; with a byte of the body more, or fewer, it is none.
-/
import Derived.Test.YtpfbemcoblganaaDoorQkRow
import Derived.Test.YtpfbemcoblganaaDoorTie
import Derived.Test.YtpfbemcoblganaaDoorCards
import Derived.Test.YtpfbemcoblganaaDoorQkPl09u
import Derived.Test.YtpfbemcoblganaaDoorQkPl09q
import Derived.Test.YtpfbemcoblganaaDoorQkPall3
import Derived.Test.YtpfbemcoblganaaDoorQkPall4
import Derived.Deep.RegionLaw
namespace Go.Proofs.YtpfbemcoblganaaDoor.httpBack
open Go.RowKit Go.Proofs.YtpfbemcoblganaaDoor.Pl Go.Proofs.YtpfbemcoblganaaDoor.Pall Go.Proofs.YtpfbemcoblganaaDoorW.PrintWords Go.Proofs.YtpfbemcoblganaaDoorW.PrintLast
set_option linter.unusedVariables false
set_option linter.unusedSimpArgs false
def chC (x : Int) : UInt8 := UInt8.ofNat (33 + (x % 94).toNat)
def chD (x : Int) : UInt8 := UInt8.ofNat (97 + (x % 26).toNat)
theorem pth_of (n : Nat) (h1 : 33 ≤ n) (h2 : n ≤ 126) : pthB (UInt8.ofNat n) = true := by
  unfold pthB
  rw [UInt8.toNat_ofNat', Nat.mod_eq_of_lt (by omega), decide_eq_true h1, decide_eq_true h2]; rfl
theorem chC_vis (l : List Int) : (l.map chC).all pthB = true := by
  rw [List.all_eq_true]
  intro x hx
  obtain ⟨y, _, rfl⟩ := List.mem_map.1 hx
  exact pth_of _ (by omega) (by have := Int.emod_lt_of_pos y (show (0 : Int) < 94 by omega); omega)
theorem chD_vis (l : List Int) : (l.map chD).all pthB = true := by
  rw [List.all_eq_true]
  intro x hx
  obtain ⟨y, _, rfl⟩ := List.mem_map.1 hx
  exact pth_of _ (by omega) (by have := Int.emod_lt_of_pos y (show (0 : Int) < 26 by omega); omega)
/-- what stands while the request is made: its box, its fields -/
structure Qx (w W : World) (g : Nat) (mv pv fv bv : Value) (fs : List S43) : Prop where
  bel : Below w.heap.size w W
  ge : w.heap.size ≤ g
  box : W.heap[g]? = some (.cells #[mv, pv, fv, bv] 36 (0, 0))
  row : Kd.R k43 43 W w.heap.size (fun k => k ≠ g) fv fs
theorem Qx.below {w W W' : World} {g : Nat} {mv pv fv bv : Value} {fs : List S43} (h : Qx w W g mv pv fv bv fs) (hb : Below W.heap.size W W') : Qx w W' g mv pv fv bv fs :=
  ⟨h.bel.trans (hb.mono h.bel.size), h.ge, blk_below h.box hb, Kd.R_below h.row hb⟩
theorem Qx.cells {w W : World} {g : Nat} {mv pv fv bv : Value} {fs : List S43} (h : Qx w W g mv pv fv bv fs) : W.cell? ⟨g, 0, none⟩ = some mv ∧ W.cell? ⟨g, 1, none⟩ = some pv ∧ W.cell? ⟨g, 2, none⟩ = some fv ∧ W.cell? ⟨g, 3, none⟩ = some bv :=
  ⟨blk_cell h.box 0, blk_cell h.box 1, blk_cell h.box 2, blk_cell h.box 3⟩
theorem Qx.put {w W : World} {g : Nat} {mv pv fv bv : Value} {fs : List S43} (h : Qx w W g mv pv fv bv fs) (i : Nat) (v : Value) (mv' pv' : Value) (hi : (#[mv, pv, fv, bv] : Array Value).setIfInBounds i v = #[mv', pv', fv, bv]) : Qx w (W.setCell ⟨g, i, none⟩ v) g mv' pv' fv bv fs :=
  ⟨h.bel.setCell (p := ⟨g, i, none⟩) h.ge _, h.ge, blk_put h.box i v hi, Kd.R_far h.row (fun k hk => hk) v⟩
theorem Qx.drew {w W : World} {g : Nat} {mv pv fv bv : Value} {fs : List S43} (h : Qx w W g mv pv fv bv fs) : Qx w W.drew g mv pv fv bv fs := ⟨h.bel.drew, h.ge, h.box, Kd.R_drew h.row⟩
theorem Qx.alloc {w W : World} {g : Nat} {mv pv fv bv : Value} {fs : List S43} (h : Qx w W g mv pv fv bv fs) (o : Obj) : Qx w (W.alloc o) g mv pv fv bv fs := h.below ((Below.refl _ _).alloc (Nat.le_refl _) _)
theorem keep_c {W : World} {p : Addr} {v : Value} (h : W.cell? p = some v) (o : Obj) : (W.alloc o).cell? p = some v := (((Below.refl _ W).alloc (Nat.le_refl _) o).cell (World.block_lt_of_cell? _ _ h)).trans h
/-- the fields have grown -/
theorem Qx.grow {w W W' : World} {g : Nat} {mv pv fv bv v1 : Value} {fs fs' : List S43} (h : Qx w W g mv pv fv bv fs) (hb : Below w.heap.size w W') (hg : W.grownBy W' fv.ownBlock) (hrow : Kd.R k43 43 W' w.heap.size (fun k => k ≠ g) v1 fs') : Qx w (W'.setCell ⟨g, 2, none⟩ v1) g mv pv v1 bv fs' :=
  ⟨hb.setCell (p := ⟨g, 2, none⟩) h.ge _, h.ge, blk_put ((hg.block _ (blk_lt h.box) (fun e => h.row.1 g e.symm rfl)).trans h.box) 2 v1 rfl, Kd.R_far hrow (fun k hk => hk) v1⟩
theorem row_one (W : World) : Kd.R k43 43 (W.alloc (.cells #[.string ⟨#[72, 111, 115, 116]⟩, .string ⟨#[97]⟩] 43)) W.heap.size (fun k => k ≠ W.heap.size + 1) (.slice (some ⟨W.heap.size, 0, none⟩) 1 1) [hostP] := by
  refine ⟨fun k hk => ?_, [.string ⟨#[72, 111, 115, 116]⟩, .string ⟨#[97]⟩], ?_, ?_⟩
  · have : W.heap.size = k := by simpa [Value.ownBlock] using hk
    omega
  · have h2 := World.ownsRow_lit (base := W.heap.size) (e := 43) (size := 2) W #[.string ⟨#[72, 111, 115, 116]⟩, .string ⟨#[97]⟩] 1 (Nat.le_refl _) (by decide) (by rfl)
    exact h2
  · exact Reps.c2 (k43_mkM _ _ _ hostP) (Reps.none _ _)
theorem Qx.new (W : World) (mv bv : Value) : Qx W ((W.alloc (.cells #[.string ⟨#[72, 111, 115, 116]⟩, .string ⟨#[97]⟩] 43)).alloc (.cells #[mv, .string ⟨#[47]⟩, .slice (some ⟨W.heap.size, 0, none⟩) 1 1, bv] 36)) (W.heap.size + 1) mv (.string ⟨#[47]⟩) (.slice (some ⟨W.heap.size, 0, none⟩) 1 1) bv [hostP] := by
  have hz : (W.alloc (.cells #[.string ⟨#[72, 111, 115, 116]⟩, .string ⟨#[97]⟩] 43)).heap.size = W.heap.size + 1 := by show (W.heap.push _).size = _; simp
  have hb := blk_new (W.alloc (.cells #[.string ⟨#[72, 111, 115, 116]⟩, .string ⟨#[97]⟩] 43)) (.cells #[mv, .string ⟨#[47]⟩, .slice (some ⟨W.heap.size, 0, none⟩) 1 1, bv] 36)
  rw [hz] at hb
  exact ⟨bA (bA (Below.refl _ _) _) _, Nat.le_succ _, hb, Kd.R_alloc (row_one W) _⟩
def meB (post : Bool) : ByteArray := mkB (methL post)
set_option maxRecDepth 100000 in
set_option maxHeartbeats 4000000 in
theorem walk (A0 : Option Addr) (c0 : Nat) (l0 : List Int) {W : World} (hr0 : Kd.C (Kd.int .u8) W A0 l0.length l0) (hc0 : l0.length ≤ c0) (hw0 : ∀ x ∈ l0, (Lit.int .u8 x).wf = true) (y0 : l0.length ≤ 140737488351232)
    (A1 : Option Addr) (c1 : Nat) (l1 : List Int) (hr1 : Kd.C (Kd.int .u8) W A1 l1.length l1) (hc1 : l1.length ≤ c1) (hw1 : ∀ x ∈ l1, (Lit.int .u8 x).wf = true) (y1 : l1.length ≤ 140737488351232)
    (A2 : Option Addr) (c2 : Nat) (l2 : List Int) (hr2 : Kd.C (Kd.int .u8) W A2 l2.length l2) (hc2 : l2.length ≤ c2) (hw2 : ∀ x ∈ l2, (Lit.int .u8 x).wf = true) (y2 : l2.length ≤ 140737488351232)
    (a3 : Bool) (W' : World) (e : W' = W) (hS : Sh W) :
    Calls Tryd.prog 15 #[.slice A0 l0.length c0, .slice A1 l1.length c1, .slice A2 l2.length c2, .bool a3] W fun e W' => e = .returned (.bool true) ∧ Below W.heap.size W W' := by
  clear e W'
  have hu := Tryd.underlying36
  have hu43 := Tryd.underlying43
  have HK := hid (fun (W' : World) (h : Below W.heap.size W W') => wicketmanlaw09_known.calls true W' (hS.of_below h) (Aside0.mk rfl) wicketmanlaw09_known.told)
  have HB0 := hid (Below.refl W.heap.size W)
  by_cases h1 : (200 : Int) < (l2.length : Int)
  · clear hr0 hr1 hr2 hw0 hw1 hw2 hS
    go_enter Tryd.func15, Tryd.ntmps15
    go_wp2_with (go_at_call 16; refine (HK.out _ HB0.out).mono ?_; rintro e W1 ⟨rfl, hb⟩)
    go_ret
    exact ⟨rfl, hb⟩
  by_cases h2 : (20 : Int) < (l0.length : Int)
  · clear hr0 hr1 hr2 hw0 hw1 hw2 hS
    go_enter Tryd.func15, Tryd.ntmps15
    go_wp2_with (go_at_call 16; refine (HK.out _ HB0.out).mono ?_; rintro e W1 ⟨rfl, hb⟩)
    go_ret
    exact ⟨rfl, hb⟩
  obtain ⟨bs, rfl⟩ := nums_of l2 (u8s_of_wf hw2)
  have H80 := hid (u8s_of_wf hw0)
  have H81 := hid (u8s_of_wf hw1)
  have HC0 := hid hr0
  have HC1 := hid hr1
  have HC2 := hid hr2
  have HS := hid hS
  obtain ⟨md, hmd⟩ : ∃ m : Nat, m = min l1.length 20 := ⟨_, rfl⟩
  have hbl : bs.length ≤ 200 := by rw [numsL_len] at h1; omega
  obtain ⟨cs, hcs⟩ : ∃ cs, cs = l0.map chC := ⟨_, rfl⟩
  obtain ⟨ds, hds⟩ : ∃ ds, ds = (l1.take md).map chD := ⟨_, rfl⟩
  have hcl : cs.length ≤ 20 := by rw [hcs, List.length_map]; omega
  have hdl : ds.length ≤ 20 := by rw [hds, List.length_map, List.length_take]; omega
  obtain ⟨qb1, qb2, qb3⟩ := q_back a3 cs ds bs (by rw [hcs]; exact chC_vis _) (by omega) (by rw [hds]; exact chD_vis _) (by omega) (by omega)
  have hgd := flsQ_good ds bs.length (by rw [hds]; exact chD_vis _) (by omega)
  have hfl : (flsQ ds bs.length).length ≤ 22 := by unfold flsQ; rw [List.length_cons, List.length_append, List.length_map, List.length_singleton]; omega
  obtain ⟨k, hk⟩ := (hsame_self (meB a3) (mkB (47 :: cs)) (flsQ ds bs.length) (numsL bs) (by omega)).rounds
  obtain ⟨k2, hk2⟩ := (same09_true (meB a3) (mkB (47 :: cs)) (flsQ ds bs.length) (numsL bs) (by omega)).rounds
  obtain ⟨kd, hkd⟩ := (digits_ev bs.length (by omega)).rounds
  have hme : (meB a3).size ≤ 4 := by unfold meB; rw [mkB_size]; exact (meth_ok a3).2.2.1
  have hpz : (mkB (47 :: cs)).size ≤ 21 := by rw [mkB_size, List.length_cons]; omega
  have hTl : (reqT (meB a3) (mkB (47 :: cs)) (flsQ ds bs.length) (numsL bs)).length ≤ 100000 := by
    have := reqL_len (meB a3) (mkB (47 :: cs)) (flsQ ds bs.length)
    unfold reqT
    rw [List.length_append, numsL_len, numsL_len]
    omega
  have hT0 : 0 < (reqT (meB a3) (mkB (47 :: cs)) (flsQ ds bs.length) (numsL bs)).length := by
    unfold reqT reqL
    rw [List.length_append, numsL_len, List.length_append]
    simp only [List.length_cons, List.length_nil]
    omega
  have hpp : http_Parse.f (reqT (meB a3) (mkB (47 :: cs)) (flsQ ds bs.length) (numsL bs)) = some (meB a3, mkB (47 :: cs), flsQ ds bs.length, numsL bs, 0) := by
    unfold http_Parse.f
    rw [if_pos (by omega)]
    exact congrArg some qb1
  have hpf : http_Print.f k (meB a3) (mkB (47 :: cs)) (flsQ ds bs.length) (numsL bs) = some (reqT (meB a3) (mkB (47 :: cs)) (flsQ ds bs.length) (numsL bs), 0) := by
    have hsm : smallQ (meB a3) (mkB (47 :: cs)) (flsQ ds bs.length) (numsL bs) = true := by
      unfold smallQ smallH bytesL
      rw [decide_eq_true ⟨by omega, by omega, by omega, by rw [numsL_len]; omega⟩, Bool.true_and, Bool.and_eq_true, List.all_eq_true, List.all_eq_true]
      refine ⟨fun p hp => ?_, fun x hx => ?_⟩
      · have h := (hgd p hp).2.2
        rw [len_data, len_data] at h
        exact decide_eq_true ⟨by omega, by omega⟩
      · obtain ⟨c, _, rfl⟩ := List.mem_map.1 hx
        have := c.toNat_lt
        exact decide_eq_true ⟨by omega, by omega⟩
    unfold http_Print.f
    rw [if_pos hsm, hpp, Option.bind_some]
    simp only [if_true]
    rw [hk]; rfl
  obtain ⟨m1, m2, m3, m4, hmo⟩ : ∃ (m1 m2 : ByteArray) (m3 : List S43) (m4 : List Int), http_Parse.f (reqT (meB a3) (mkB (47 :: cs)) (flsQ ds bs.length) (numsL bs) ++ [0]) = some (m1, m2, m3, m4, 13) := by
    have h := qb2 0
    unfold http_Parse.f
    rw [if_pos (by rw [List.length_append, List.length_singleton]; omega)]
    exact ⟨_, _, _, _, congrArg some (by rw [← h]; rfl)⟩
  obtain ⟨E, hE⟩ : ∃ E : Int, E = if bs.length = 0 then 10 else 13 := ⟨_, rfl⟩
  obtain ⟨n1, n2, n3, n4, hcu⟩ : ∃ (m1 m2 : ByteArray) (m3 : List S43) (m4 : List Int), http_Parse.f ((reqT (meB a3) (mkB (47 :: cs)) (flsQ ds bs.length) (numsL bs)).take ((reqT (meB a3) (mkB (47 :: cs)) (flsQ ds bs.length) (numsL bs)).length - 1)) = some (m1, m2, m3, m4, E) := by
    unfold http_Parse.f
    rw [if_pos (by rw [List.length_take]; omega), hE]
    exact ⟨_, _, _, _, congrArg some (by rw [← qb3]; rfl)⟩
  have HEE := hid (show (E = 10 ∧ (bs.length : Int) = 0) ∨ (E = 13 ∧ (0 : Int) < (bs.length : Int)) by rw [hE]; split <;> omega)
  have hnl : (numsL bs).length = bs.length := numsL_len bs
  have HDG := hid (fun (W' : World) => wicketmanlaw09_digits.calls kd (bs.length : Int) (mkB (dgL bs.length)) W' hkd)
  rw [← hnl] at HDG HEE hpf hpp hk2 hmo hcu hTl hT0 hfl
  clear qb1 qb2 qb3 hgd hk hkd hme hpz hE
  have HMD := hid hmd
  generalize hT : reqT (meB a3) (mkB (47 :: cs)) (flsQ ds (numsL bs).length) (numsL bs) = T at *
  have HPR := hid (fun (W' : World) (h : Below W.heap.size W W') (A : Option Addr) (c : Nat) (h1 : Kd.C k43 W' A (flsQ ds (numsL bs).length).length (flsQ ds (numsL bs).length)) (h2 : (flsQ ds (numsL bs).length).length ≤ c) => http_Print.calls k (meB a3) (mkB (47 :: cs)) A c (flsQ ds (numsL bs).length) A2 c2 (numsL bs) T 0 W' h1 h2 (Kd.C_below hr2 h) hc2 (hS.of_below h) hpf)
  have HPA := hid (fun (W' : World) (h : Below W.heap.size W W') (A : Option Addr) (c : Nat) (h1 : Kd.C (Kd.int .u8) W' A T.length T) (h2 : T.length ≤ c) => http_Parse.calls A c T (meB a3) (mkB (47 :: cs)) (flsQ ds (numsL bs).length) (numsL bs) 0 W' h1 h2 (hS.of_below h) hpp)
  have HMO := hid (fun (W' : World) (h : Below W.heap.size W W') (A : Option Addr) (c : Nat) (h1 : Kd.C (Kd.int .u8) W' A (T ++ [0]).length (T ++ [0])) (h2 : (T ++ [0]).length ≤ c) => http_Parse.calls A c (T ++ [0]) m1 m2 m3 m4 13 W' h1 h2 (hS.of_below h) hmo)
  obtain ⟨tl, htl⟩ : ∃ n : Nat, n = T.length - 1 := ⟨_, rfl⟩
  have htk : (T.take tl).length = tl := by rw [List.length_take]; omega
  have hcl2 : (T.length : Int) - 1 = (tl : Int) := by omega
  rw [← htl] at hcu
  have HCU := hid (fun (W' : World) (h : Below W.heap.size W W') (A : Option Addr) (c : Nat) (h1 : Kd.C (Kd.int .u8) W' A T.length T) (h2 : T.length ≤ c) => http_Parse.calls A c (T.take tl) n1 n2 n3 n4 E W' (Kd.C_take h1 (by omega)) (Nat.le_trans (by rw [htk]; omega) h2) (hS.of_below h) hcu)
  rw [htk] at HCU
  obtain ⟨ie, hie, _, hze, _⟩ := info_parts info5
  have HCT := hid (fun (A : Option Addr) (c : Nat) (hc : T.length ≤ c) (W : World) => (show (Instr.slice 22 (.slice A T.length c) none (some (.int .i64 (tl : Int))) none).run Tryd.prog W = .ok (.slice A tl c) W from by
    have h := cut_to (P := Tryd.prog) 22 5 .i64 Tryd.underlying22 hie A T.length c (tl : Int) (by omega) (by omega) hc W
    rw [Int.toNat_natCast] at h
    exact h))
  have HSA := hid (fun (W' : World) (h : Below W.heap.size W W') (A : Option Addr) (c : Nat) (B : Option Addr) (d : Nat) (B' : Option Addr) (d' : Nat) (h1 : Kd.C k43 W' A (flsQ ds (numsL bs).length).length (flsQ ds (numsL bs).length)) (h2 : (flsQ ds (numsL bs).length).length ≤ c) (g1 : Kd.C k43 W' B (flsQ ds (numsL bs).length).length (flsQ ds (numsL bs).length)) (g2 : (flsQ ds (numsL bs).length).length ≤ d) (g3 : Kd.C (Kd.int .u8) W' B' (numsL bs).length (numsL bs)) (g4 : (numsL bs).length ≤ d') =>
    wicketmanref09_Same.calls k2 (meB a3) (mkB (47 :: cs)) A c (flsQ ds (numsL bs).length) A2 c2 (numsL bs) (meB a3) (mkB (47 :: cs)) B d (flsQ ds (numsL bs).length) B' d' (numsL bs) true W' h1 h2 (Kd.C_below hr2 h) hc2 g1 g2 g3 g4 hk2)
  have HTL := hid hTl
  have HT0 := hid hT0
  have HNL := hid hnl
  have HFQ := hid (show flsQ ds (numsL bs).length = (hostP :: ds.map xP) ++ [lenP (numsL bs).length] from rfl)
  have HCS := hid hcs
  have HDS := hid hds
  have HCL2 := hid hcl2
  have HTK := hid htl
  clear hT hpf hpp hmo hcu hk2 hTl hT0 hnl hcs hds hcl hdl hbl htk htl hcl2 hfl hie hze
  clear hr0 hr1 hr2 hw0 hw1 hw2 hS hmd
  go_enter Tryd.func15, Tryd.ntmps15
  have HQ0 := hid (fun mv => Qx.new W mv (.slice A2 (numsL bs).length c2))
  generalize numsL bs = nb at *
  go_upto_region 4 with (fail)
  have f0 := blk_frozen (HQ0.out (.string ⟨#[71, 69, 84]⟩)).box 0
  have hx := (HQ0.out (.string ⟨#[71, 69, 84]⟩)).cells
  obtain ⟨x0, x1, x2, x3⟩ := hx
  cases a3
  all_goals
    go_upto_region 7 with (fail)
    first
      | go_loopw [10] (fun i wr => ∃ j : Nat, j ≤ l0.length ∧ i = .int .i64 (j : Int) ∧ Hid (Qx W wr (W.heap.size + 1) (.string (meB true)) (.string (mkB (47 :: (l0.take j).map chC))) (.slice (some ⟨W.heap.size, 0, none⟩) 1 1) (.slice A2 nb.length c2) [hostP])) (fun i _ => l0.length - (intOf i).toNat)
        case atStart => exact ⟨0, Nat.zero_le _, rfl, hid (HQ0.out (.string ⟨#[80, 79, 83, 84]⟩))⟩
      | go_loopw [10] (fun i wr => ∃ j : Nat, j ≤ l0.length ∧ i = .int .i64 (j : Int) ∧ Hid (Qx W wr (W.heap.size + 1) (.string (meB false)) (.string (mkB (47 :: (l0.take j).map chC))) (.slice (some ⟨W.heap.size, 0, none⟩) 1 1) (.slice A2 nb.length c2) [hostP])) (fun i _ => l0.length - (intOf i).toNat)
        case atStart => exact ⟨0, Nat.zero_le _, rfl, hid (HQ0.out (.string ⟨#[71, 69, 84]⟩))⟩
    case round =>
      obtain ⟨j, hj, rfl, HQ⟩ := hrel
      clear x0 x1 x2 x3 f0 HQ0
      have hx := HQ.out.cells
      obtain ⟨x0, x1, x2, x3⟩ := hx
      by_cases hlt : j < l0.length
      · obtain ⟨ad, hA, hcell⟩ := Kd.at_int HC0.out (j : Int) (by omega) (by omega)
        subst hA
        rw [Int.toNat_natCast] at hcell
        have hcell := (HQ.out.bel.cell (World.block_lt_of_cell? _ _ hcell)).trans hcell
        have hx8 := H80.out _ (show l0.getD j 0 ∈ l0 from getD_mem l0 0 (by omega))
        have hrd : rd l0 (j : Int) = l0.getD j 0 := by unfold rd; rw [Int.toNat_natCast]
        rw [hrd] at hcell
        clear hrd
        have HTX := hid (show l0.take (j + 1) = l0.take j ++ [l0.getD j 0] by rw [List.take_succ_eq_append_getElem (by omega), List.getD, List.getElem?_eq_getElem (by omega)]; rfl)
        obtain ⟨x, hx⟩ : ∃ x : Nat, l0.getD j 0 = (x : Int) := ⟨(l0.getD j 0).toNat, by omega⟩
        rw [hx] at hcell hx8 HTX
        clear hx
        obtain ⟨p, hp⟩ : ∃ p : Nat, p = x % 94 := ⟨_, rfl⟩
        obtain ⟨nC, hnC⟩ : ∃ nC, nC = strOfNums [33 + (p : Int)] := ⟨_, rfl⟩
        obtain ⟨pc, hpc⟩ : ∃ pc, pc = mkB (47 :: (l0.take j).map chC) := ⟨_, rfl⟩
        have hcat : pc ++ nC = mkB (47 :: (l0.take (j + 1)).map chC) := by
          rw [HTX.out, hpc, hnC, hp]
          refine Pall.ba_ext ?_
          simp only [ByteArray.data_append, Array.toList_append, strOfNums_data, mkB_list, List.map_append]
          show 47 :: (l0.take j).map chC ++ [UInt8.ofNat (33 + ((x % 94 : Nat) : Int)).toNat] = _
          rw [show (33 + ((x % 94 : Nat) : Int)).toNat = 33 + x % 94 by omega]
          have e : chC (x : Int) = UInt8.ofNat (33 + x % 94) := by unfold chC; rw [show ((x : Int) % 94).toNat = x % 94 by omega]
          rw [List.map_cons, List.map_nil, e]; rfl
        have zC : nC.size = 1 := by rw [hnC]; rfl
        have zp : pc.size ≤ 30 := by rw [hpc, mkB_size, List.length_cons, List.length_map, List.length_take]; omega
        rw [← hpc] at x1 HQ
        have hz1 : (9223372036854775807 < pc.size + nC.size) = False := eq_false (by omega)
        have hz2 : (9223372036854775807 < pc.size + 1) = False := eq_false (by omega)
        have e1 : (x : Int) % 94 = (p : Int) := by omega
        have e3 : Int.tmod (x : Int) 94 = (p : Int) := by rw [Int.tmod_eq_emod_of_nonneg (by omega)]; exact e1
        have e5 : IntKind.u8.wrap (33 + (p : Int)) = 33 + (p : Int) := by rw [IntKind.wrap_u8]; omega
        have hcA := fun (W : World) (B : Nat) (h : W.cell? ⟨B, 0, none⟩ = some (.int .u8 (33 + (p : Int)))) => hnC ▸ conv1 W B _ h
        have hfz := fun (o : Obj) => blk_frozen (HQ.out.alloc o).box 1
        have hxz := fun (o : Obj) => blk_cell (HQ.out.alloc o).box 1
        have hj1 : (j : Int) < (l0.length : Int) := by omega
        have HCAT := hid hcat
        clear hcat hnC zC zp hx8 hp hpc
        go_wp2
        refine start_ (n := 13) (S := fun w' => w'.cell? ⟨W.heap.size + 1, 1, none⟩ = some (.string pc) ∧ w'.cell? (ad.add j) = some (.int .u8 (x : Int))) (ds := [12]) #[false, false, false, false, false, false, false, false, false, false, false, false, false] (by kernel_rfl) rfl rfl ⟨x1, hcell⟩ (fun hHeld => ?_)
        refine pure_ (i := 0) (N := some 42) (v := ?_) (a' := ?_) #[true, false, false, false, false, false, false, false, false, false, false, false, false] rfl rfl (by kernel_rfl) (fun _ _ _ h => h) (Or.inl ⟨by rfl, ?_⟩) ?_ ?_
        rotate_left
        · intro w'
          go_simp
          with_reducible rfl
        rotate_left
        · simp only [Act.put, List.setIfInBounds_toArray, List.set_cons_zero, List.set_cons_succ]
          rfl
        refine take_ (i := 1) (N := some 43) (v := ?_) (a' := ?_) #[true, true, false, false, false, false, false, false, false, false, false, false, false] rfl rfl (by kernel_rfl) (fun _ _ _ h => h) (Or.inl ⟨by rfl, ?_⟩) hHeld ?_ ?_
        rotate_left
        · rintro w' ⟨s0, s1⟩
          go_simp
          with_reducible rfl
        rotate_left
        · simp only [Act.put, List.setIfInBounds_toArray, List.set_cons_zero, List.set_cons_succ]
          rfl
        refine pure_ (i := 2) (N := some 44) (v := ?_) (a' := ?_) #[true, true, true, false, false, false, false, false, false, false, false, false, false] rfl rfl (by kernel_rfl) (fun _ _ _ h => h) (Or.inl ⟨by rfl, ?_⟩) ?_ ?_
        rotate_left
        · intro w'
          go_simp
          with_reducible rfl
        rotate_left
        · simp only [Act.put, List.setIfInBounds_toArray, List.set_cons_zero, List.set_cons_succ]
          rfl
        refine pure_ (i := 3) (N := some 45) (v := ?_) (a' := ?_) #[true, true, true, true, false, false, false, false, false, false, false, false, false] rfl rfl (by kernel_rfl) (fun _ _ _ h => h) (Or.inl ⟨by rfl, ?_⟩) ?_ ?_
        rotate_left
        · intro w'
          go_simp
          with_reducible rfl
        rotate_left
        · simp only [Act.put, List.setIfInBounds_toArray, List.set_cons_zero, List.set_cons_succ]
          rfl
        refine pure_ (i := 4) (N := some 46) (v := ?_) (a' := ?_) #[true, true, true, true, true, false, false, false, false, false, false, false, false] rfl rfl (by kernel_rfl) (fun _ _ _ h => h) (Or.inl ⟨by rfl, ?_⟩) ?_ ?_
        rotate_left
        · intro w'
          go_simp
          with_reducible rfl
        rotate_left
        · simp only [Act.put, List.setIfInBounds_toArray, List.set_cons_zero, List.set_cons_succ]
          rfl
        refine take_ (i := 5) (N := some 47) (v := ?_) (a' := ?_) #[true, true, true, true, true, true, false, false, false, false, false, false, false] rfl rfl (by kernel_rfl) (fun _ _ _ h => h) (Or.inl ⟨by rfl, ?_⟩) hHeld ?_ ?_
        rotate_left
        · rintro w' ⟨s0, s1⟩
          go_simp
          with_reducible rfl
        rotate_left
        · simp only [Act.put, List.setIfInBounds_toArray, List.set_cons_zero, List.set_cons_succ]
          rfl
        refine pure_ (i := 6) (N := some 48) (v := ?_) (a' := ?_) #[true, true, true, true, true, true, true, false, false, false, false, false, false] rfl rfl (by kernel_rfl) (fun _ _ _ h => h) (Or.inl ⟨by rfl, ?_⟩) ?_ ?_
        rotate_left
        · intro w'
          go_simp
          with_reducible rfl
        rotate_left
        · simp only [Act.put, List.setIfInBounds_toArray, List.set_cons_zero, List.set_cons_succ]
          rfl
        refine pure_ (i := 7) (N := some 49) (v := ?_) (a' := ?_) #[true, true, true, true, true, true, true, true, false, false, false, false, false] rfl rfl (by kernel_rfl) (fun _ _ _ h => h) (Or.inl ⟨by rfl, ?_⟩) ?_ ?_
        rotate_left
        · intro w'
          go_simp
          with_reducible rfl
        rotate_left
        · simp only [Act.put, List.setIfInBounds_toArray, List.set_cons_zero, List.set_cons_succ]
          rfl
        refine one_ (i := 8) (N := some 50) #[true, true, true, true, true, true, true, true, true, false, false, false, false] rfl rfl (by kernel_rfl) (by decide) (fun K hK => ?_)
        go_simp
        refine hK.out _ _ (by first | exact hHeld | exact ⟨keep_c hHeld.1 _, keep_c hHeld.2 _⟩) (fun hHeld => ?_)
        clear hK K
        refine one_ (i := 9) (N := some 51) #[true, true, true, true, true, true, true, true, true, true, false, false, false] rfl rfl (by kernel_rfl) (by decide) (fun K hK => ?_)
        go_simp
        refine hK.out _ _ (by first | exact hHeld | exact ⟨keep_c hHeld.1 _, keep_c hHeld.2 _⟩) (fun hHeld => ?_)
        clear hK K
        refine pure_ (i := 10) (N := some 52) (v := ?_) (a' := ?_) #[true, true, true, true, true, true, true, true, true, true, true, false, false] rfl rfl (by kernel_rfl) (fun _ _ _ h => h) (Or.inl ⟨by rfl, ?_⟩) ?_ ?_
        rotate_left
        · intro w'
          go_simp
          with_reducible rfl
        rotate_left
        · simp only [Act.put, List.setIfInBounds_toArray, List.set_cons_zero, List.set_cons_succ]
          rfl
        refine pure_ (i := 11) (N := some 53) (v := ?_) (a' := ?_) #[true, true, true, true, true, true, true, true, true, true, true, true, false] rfl rfl (by kernel_rfl) (fun _ _ _ h => h) (Or.inl ⟨by rfl, ?_⟩) ?_ ?_
        rotate_left
        · intro w'
          go_simp
          with_reducible rfl
        rotate_left
        · simp only [Act.put, List.setIfInBounds_toArray, List.set_cons_zero, List.set_cons_succ]
          rfl
        refine last_ (i := 12) (N := none) #[true, true, true, true, true, true, true, true, true, true, true, true, true] rfl rfl (by kernel_rfl) (by decide) (fun K hK => ?_)
        go_simp
        refine hK.out _ _ ?_
        clear hK K
        refine done_ (by kernel_rfl) ?_
        clear e1 e3 e5 hz1 hz2 hcA hfz hxz hcell hHeld
        go_wp2
        go_roundw
        case rel => exact ⟨j + 1, by omega, by go_num, hid (HCAT.out ▸ ((HQ.out.alloc (.cells #[.int .u8 (33 + (p : Int))] 5)).put 1 (.string (pc ++ nC)) _ _ rfl).drew)⟩
        case measure => first | omega | (simp [intOf]; done) | (simp [intOf]; omega)
      · obtain rfl : j = l0.length := by omega
        rw [List.take_length] at HQ
        clear x0 x1 x2 x3 hlt hj
        go_upto_region 11 with (fail)
        first
          | go_loopw [11] (fun i wr => ∃ (j : Nat) (fv : Value), j ≤ md ∧ i = .int .i64 (j : Int) ∧ Hid (Qx W wr (W.heap.size + 1) (.string (meB true)) (.string (mkB (47 :: l0.map chC))) fv (.slice A2 nb.length c2) (hostP :: ((l1.take j).map chD).map xP))) (fun i _ => md - (intOf i).toNat)
            case atStart => exact ⟨0, _, Nat.zero_le _, rfl, HQ⟩
          | go_loopw [11] (fun i wr => ∃ (j : Nat) (fv : Value), j ≤ md ∧ i = .int .i64 (j : Int) ∧ Hid (Qx W wr (W.heap.size + 1) (.string (meB false)) (.string (mkB (47 :: l0.map chC))) fv (.slice A2 nb.length c2) (hostP :: ((l1.take j).map chD).map xP))) (fun i _ => md - (intOf i).toNat)
            case atStart => exact ⟨0, _, Nat.zero_le _, rfl, HQ⟩
        case round =>
          obtain ⟨j, fv, hj, rfl, HQ2⟩ := hrel
          clear HQ
          have HQ := HQ2
          clear HQ2
          obtain ⟨Af, cf, rfl⟩ := Kd.R_slice HQ.out.row
          have hx := HQ.out.cells
          obtain ⟨x0, x1, x2, x3⟩ := hx
          have hmd := HMD.out
          by_cases hlt : j < md
          · obtain ⟨ad, hA, hcw⟩ := Kd.at_int HC1.out (j : Int) (by omega) (by omega)
            subst hA
            rw [Int.toNat_natCast] at hcw
            have hx8 := H81.out _ (show l1.getD j 0 ∈ l1 from getD_mem l1 0 (by omega))
            have hrd : rd l1 (j : Int) = l1.getD j 0 := by unfold rd; rw [Int.toNat_natCast]
            rw [hrd] at hcw
            clear hrd
            have HTX := hid (show l1.take (j + 1) = l1.take j ++ [l1.getD j 0] by rw [List.take_succ_eq_append_getElem (by omega), List.getD, List.getElem?_eq_getElem (by omega)]; rfl)
            obtain ⟨x, hx⟩ : ∃ x : Nat, l1.getD j 0 = (x : Int) := ⟨(l1.getD j 0).toNat, by omega⟩
            rw [hx] at hcw hx8 HTX
            clear hx
            have hcell := (HQ.out.bel.cell (World.block_lt_of_cell? _ _ hcw)).trans hcw
            have HCW := hid hcw
            clear hcw
            obtain ⟨p, hp⟩ : ∃ p : Nat, p = x % 26 := ⟨_, rfl⟩
            obtain ⟨nD, hnD⟩ : ∃ nD, nD = strOfNums [97 + (p : Int)] := ⟨_, rfl⟩
            obtain ⟨fs, hfs⟩ : ∃ fs, fs = hostP :: ((l1.take j).map chD).map xP := ⟨_, rfl⟩
            have HCAT := hid (show fs ++ [⟨⟨#[88]⟩, nD⟩] = hostP :: ((l1.take (j + 1)).map chD).map xP by
              rw [HTX.out, hfs, List.map_append, List.map_append]
              have e : nD = mkB [chD (x : Int)] := by
                rw [hnD, hp]
                refine Pall.ba_ext ?_
                rw [strOfNums_data, mkB_list]
                show [UInt8.ofNat (97 + ((x % 26 : Nat) : Int)).toNat] = _
                rw [show (97 + ((x % 26 : Nat) : Int)).toNat = 97 + x % 26 by omega]
                unfold chD
                rw [show ((x : Int) % 26).toNat = x % 26 by omega]
              rw [e]; rfl)
            have HFL := hid (show fs.length ≤ 30 by rw [hfs, List.length_cons, List.length_map, List.length_map, List.length_take]; omega)
            rw [← hfs] at x2 HQ
            have e1 : (x : Int) % 26 = (p : Int) := by omega
            have e3 : Int.tmod (x : Int) 26 = (p : Int) := by rw [Int.tmod_eq_emod_of_nonneg (by omega)]; exact e1
            have e5 : IntKind.u8.wrap (97 + (p : Int)) = 97 + (p : Int) := by rw [IntKind.wrap_u8]; omega
            have hcA := fun (W : World) (B : Nat) (h : W.cell? ⟨B, 0, none⟩ = some (.int .u8 (97 + (p : Int)))) => hnD ▸ conv1 W B _ h
            have hj1 : (j : Int) < (l1.length : Int) := by omega
            have hj2 : (j : Int) < 20 := by omega
            clear hfs hnD hx8 hp hmd
            go_wp2
            refine start_ (n := 15) (S := fun w' => w'.cell? ⟨W.heap.size + 1, 2, none⟩ = some (.slice Af fs.length cf) ∧ w'.cell? (ad.add j) = some (.int .u8 (x : Int))) (ds := [14]) #[false, false, false, false, false, false, false, false, false, false, false, false, false, false, false] (by kernel_rfl) rfl rfl ⟨x2, hcell⟩ (fun hHeld => ?_)
            have HQA := hid (HQ.out.drew.alloc (.cells #[.int .u8 (97 + (p : Int))] 5)); generalize wr.drew = wd at HQA hHeld ⊢
            refine pure_ (i := 0) (N := some 64) (v := ?_) (a' := ?_) #[true, false, false, false, false, false, false, false, false, false, false, false, false, false, false] rfl rfl (by kernel_rfl) (fun _ _ _ h => h) (Or.inl ⟨by rfl, ?_⟩) ?_ ?_
            rotate_left
            · intro w'
              go_simp
              with_reducible rfl
            rotate_left
            · simp only [Act.put, List.setIfInBounds_toArray, List.set_cons_zero, List.set_cons_succ]
              rfl
            refine take_ (i := 1) (N := some 65) (v := ?_) (a' := ?_) #[true, true, false, false, false, false, false, false, false, false, false, false, false, false, false] rfl rfl (by kernel_rfl) (fun _ _ _ h => h) (Or.inl ⟨by rfl, ?_⟩) hHeld ?_ ?_
            rotate_left
            · rintro w' ⟨s0, s1⟩
              go_simp
              with_reducible rfl
            rotate_left
            · simp only [Act.put, List.setIfInBounds_toArray, List.set_cons_zero, List.set_cons_succ]
              rfl
            refine pure_ (i := 2) (N := some 66) (v := ?_) (a' := ?_) #[true, true, true, false, false, false, false, false, false, false, false, false, false, false, false] rfl rfl (by kernel_rfl) (fun _ _ _ h => h) (Or.inl ⟨by rfl, ?_⟩) ?_ ?_
            rotate_left
            · intro w'
              go_simp
              with_reducible rfl
            rotate_left
            · simp only [Act.put, List.setIfInBounds_toArray, List.set_cons_zero, List.set_cons_succ]
              rfl
            refine pure_ (i := 3) (N := some 67) (v := ?_) (a' := ?_) #[true, true, true, true, false, false, false, false, false, false, false, false, false, false, false] rfl rfl (by kernel_rfl) (fun _ _ _ h => h) (Or.inl ⟨by rfl, ?_⟩) ?_ ?_
            rotate_left
            · intro w'
              go_simp
              with_reducible rfl
            rotate_left
            · simp only [Act.put, List.setIfInBounds_toArray, List.set_cons_zero, List.set_cons_succ]
              rfl
            refine pure_ (i := 4) (N := some 68) (v := ?_) (a' := ?_) #[true, true, true, true, true, false, false, false, false, false, false, false, false, false, false] rfl rfl (by kernel_rfl) (fun _ _ _ h => h) (Or.inl ⟨by rfl, ?_⟩) ?_ ?_
            rotate_left
            · intro w'
              go_simp
              with_reducible rfl
            rotate_left
            · simp only [Act.put, List.setIfInBounds_toArray, List.set_cons_zero, List.set_cons_succ]
              rfl
            refine take_ (i := 5) (N := some 69) (v := ?_) (a' := ?_) #[true, true, true, true, true, true, false, false, false, false, false, false, false, false, false] rfl rfl (by kernel_rfl) (fun _ _ _ h => h) (Or.inl ⟨by rfl, ?_⟩) hHeld ?_ ?_
            rotate_left
            · rintro w' ⟨s0, s1⟩
              go_simp
              with_reducible rfl
            rotate_left
            · simp only [Act.put, List.setIfInBounds_toArray, List.set_cons_zero, List.set_cons_succ]
              rfl
            refine pure_ (i := 6) (N := some 70) (v := ?_) (a' := ?_) #[true, true, true, true, true, true, true, false, false, false, false, false, false, false, false] rfl rfl (by kernel_rfl) (fun _ _ _ h => h) (Or.inl ⟨by rfl, ?_⟩) ?_ ?_
            rotate_left
            · intro w'
              go_simp
              with_reducible rfl
            rotate_left
            · simp only [Act.put, List.setIfInBounds_toArray, List.set_cons_zero, List.set_cons_succ]
              rfl
            refine pure_ (i := 7) (N := some 71) (v := ?_) (a' := ?_) #[true, true, true, true, true, true, true, true, false, false, false, false, false, false, false] rfl rfl (by kernel_rfl) (fun _ _ _ h => h) (Or.inl ⟨by rfl, ?_⟩) ?_ ?_
            rotate_left
            · intro w'
              go_simp
              with_reducible rfl
            rotate_left
            · simp only [Act.put, List.setIfInBounds_toArray, List.set_cons_zero, List.set_cons_succ]
              rfl
            refine one_ (i := 8) (N := some 72) #[true, true, true, true, true, true, true, true, true, false, false, false, false, false, false] rfl rfl (by kernel_rfl) (by decide) (fun K hK => ?_)
            go_simp
            refine hK.out _ _ (by first | exact hHeld | exact ⟨keep_c hHeld.1 _, keep_c hHeld.2 _⟩ | exact ⟨hk2, hs1⟩) (fun hHeld => ?_)
            clear hK K
            refine one_ (i := 9) (N := some 73) #[true, true, true, true, true, true, true, true, true, true, false, false, false, false, false] rfl rfl (by kernel_rfl) (by decide) (fun K hK => ?_)
            go_simp
            refine hK.out _ _ (by first | exact hHeld | exact ⟨keep_c hHeld.1 _, keep_c hHeld.2 _⟩ | exact ⟨hk2, hs1⟩) (fun hHeld => ?_)
            clear hK K
            refine pure_ (i := 10) (N := some 74) (v := ?_) (a' := ?_) #[true, true, true, true, true, true, true, true, true, true, true, false, false, false, false] rfl rfl (by kernel_rfl) (fun _ _ _ h => h) (Or.inl ⟨by rfl, ?_⟩) ?_ ?_
            rotate_left
            · intro w'
              go_simp
              with_reducible rfl
            rotate_left
            · simp only [Act.put, List.setIfInBounds_toArray, List.set_cons_zero, List.set_cons_succ]
              rfl
            refine one_ (i := 11) (N := some 75) #[true, true, true, true, true, true, true, true, true, true, true, true, false, false, false] rfl rfl (by kernel_rfl) (by decide) (fun K hK => ?_)
            go_simp
            refine hK.out _ _ (by first | exact hHeld | exact ⟨keep_c hHeld.1 _, keep_c hHeld.2 _⟩ | exact ⟨hk2, hs1⟩) (fun hHeld => ?_)
            clear hK K
            refine one_ (i := 12) (N := some 76) #[true, true, true, true, true, true, true, true, true, true, true, true, true, false, false] rfl rfl (by kernel_rfl) (by decide) (fun K hK => ?_)
            refine Kd.R_append_step k43 (W := wd.alloc (.cells #[.int .u8 (97 + (p : Int))] 5)) (w0 := W) W.heap.size (by rfl) (.tmp 65) (.tmp 75) 34 43 (.agg #[.string ⟨#[]⟩, .string ⟨#[]⟩]) 32 rfl Tryd.underlying34 info43 rfl (by decide) (by omega) (.slice Af fs.length cf) fs ⟨⟨#[88]⟩, nD⟩ [.string ⟨#[88]⟩, .string nD] (fun k => k ≠ W.heap.size + 1) (fun _ => False) rfl (by first | (go_simp; done) | (go_simp; rfl)) (k43_mkM _ _ _ ⟨⟨#[88]⟩, nD⟩) (fun _ hk => hk.elim) (fun k hk => by have := blk_lt HQA.out.box; omega) HQA.out.row HQA.out.bel HQA.out.bel.size (by have := HFL.out; omega) ?_; intro v6 w6 hrow6 hb6 hg6 _; have HQN := hid (HQA.out.grow hb6 hg6 hrow6); have hk1 := (hg6.block _ (blk_lt HQA.out.box) (fun e => HQA.out.row.1 _ e.symm rfl)).trans HQA.out.box; have hk2 := blk_cell hk1 2; have hk3 := blk_frozen hk1 2; have hs1 := (hb6.cell (World.block_lt_of_cell? _ _ HCW.out)).trans HCW.out; have hsl6 := Kd.R_slice hrow6; obtain ⟨A6, c6, rfl⟩ := hsl6; clear hrow6 hb6 hg6 hk1
            refine hK.out _ _ (by first | exact hHeld | exact ⟨keep_c hHeld.1 _, keep_c hHeld.2 _⟩ | exact ⟨hk2, hs1⟩) (fun hHeld => ?_)
            clear hK K
            refine norm_ (a' := ?_) ?_ ?_
            rotate_left
            · simp only [Act.put, List.setIfInBounds_toArray, List.set_cons_zero, List.set_cons_succ]
              rfl
            refine pure_ (i := 13) (N := some 77) (v := ?_) (a' := ?_) #[true, true, true, true, true, true, true, true, true, true, true, true, true, true, false] rfl rfl (by kernel_rfl) (fun _ _ _ h => h) (Or.inl ⟨by rfl, ?_⟩) ?_ ?_
            rotate_left
            · intro w'
              go_simp
              with_reducible rfl
            rotate_left
            · simp only [Act.put, List.setIfInBounds_toArray, List.set_cons_zero, List.set_cons_succ]
              rfl
            refine last_ (i := 14) (N := none) #[true, true, true, true, true, true, true, true, true, true, true, true, true, true, true] rfl rfl (by kernel_rfl) (by decide) (fun K hK => ?_)
            go_simp
            refine hK.out _ _ ?_
            clear hK K
            refine done_ (by kernel_rfl) ?_
            clear e1 e3 e5 hcA hk2 hk3 hs1 hHeld x0 x1 x2 x3
            go_wp2
            go_roundw
            case rel =>
              have h := HQN.out
              rw [List.length_append, List.length_singleton, HCAT.out] at h
              exact ⟨j + 1, _, by omega, by go_num, hid h⟩
            case measure => first | omega | (simp [intOf]; done) | (simp [intOf]; omega)
          · obtain rfl : j = md := by omega
            have hn1 : (j : Int) < (l1.length : Int) → ¬ (j : Int) < 20 := by omega
            obtain ⟨fs, hfs⟩ : ∃ fs, fs = hostP :: ((l1.take j).map chD).map xP := ⟨_, rfl⟩
            have HFL := hid (show fs.length ≤ 30 by rw [hfs, List.length_cons, List.length_map, List.length_map, List.length_take]; omega)
            have HFQ2 := hid (show fs ++ [lenP nb.length] = flsQ ds nb.length by rw [HFQ.out, hfs, HDS.out])
            obtain ⟨D, hD⟩ : ∃ D, D = mkB (dgL nb.length) := ⟨_, rfl⟩
            have HLP := hid (show lenP nb.length = ⟨⟨#[99, 111, 110, 116, 101, 110, 116, 45, 76, 69, 78, 71, 84, 72]⟩, D⟩ by rw [hD]; rfl)
            rw [← hD] at HDG
            rw [← hfs] at HQ x2
            clear hfs hD hmd hlt hj
            by_cases hA : (j : Int) < (l1.length : Int)
            all_goals
              go_upto_region 14 with (fail)
              refine start_ (n := 10) (S := fun w' => w'.cell? ⟨W.heap.size + 1, 2, none⟩ = some (.slice Af fs.length cf)) (ds := [9]) #[false, false, false, false, false, false, false, false, false, false] (by kernel_rfl) rfl rfl x2 (fun hHeld => ?_)
              have HQd := hid HQ.out.drew; generalize wr.drew = wd at HQd hHeld ⊢
              refine pure_ (i := 0) (N := some 78) (v := ?_) (a' := ?_) #[true, false, false, false, false, false, false, false, false, false] rfl rfl (by kernel_rfl) (fun _ _ _ h => h) (Or.inl ⟨by rfl, ?_⟩) ?_ ?_
              rotate_left
              · intro w'
                go_simp
                with_reducible rfl
              rotate_left
              · simp only [Act.put, List.setIfInBounds_toArray, List.set_cons_zero, List.set_cons_succ]
                rfl
              refine take_ (i := 1) (N := some 79) (v := ?_) (a' := ?_) #[true, true, false, false, false, false, false, false, false, false] rfl rfl (by kernel_rfl) (fun _ _ _ h => h) (Or.inl ⟨by rfl, ?_⟩) hHeld ?_ ?_
              rotate_left
              · rintro w' s0
                go_simp
                with_reducible rfl
              rotate_left
              · simp only [Act.put, List.setIfInBounds_toArray, List.set_cons_zero, List.set_cons_succ]
                rfl
              refine pure_ (i := 2) (N := some 80) (v := ?_) (a' := ?_) #[true, true, true, false, false, false, false, false, false, false] rfl rfl (by kernel_rfl) (fun _ _ _ h => h) (Or.inl ⟨by rfl, ?_⟩) ?_ ?_
              rotate_left
              · intro w'
                go_simp
                with_reducible rfl
              rotate_left
              · simp only [Act.put, List.setIfInBounds_toArray, List.set_cons_zero, List.set_cons_succ]
                rfl
              refine pure_ (i := 3) (N := some 81) (v := ?_) (a' := ?_) #[true, true, true, true, false, false, false, false, false, false] rfl rfl (by kernel_rfl) (fun _ _ _ h => h) (Or.inl ⟨by rfl, ?_⟩) ?_ ?_
              rotate_left
              · intro w'
                go_simp
                with_reducible rfl
              rotate_left
              · simp only [Act.put, List.setIfInBounds_toArray, List.set_cons_zero, List.set_cons_succ]
                rfl
              refine one_ (i := 4) (N := some 82) #[true, true, true, true, true, false, false, false, false, false] rfl rfl (by kernel_rfl) (by decide) (fun K hK => ?_)
              go_simp; go_wp2_with (go_at_call 24; refine (HDG.out _).mono ?_; rintro e w9 ⟨rfl, hb⟩; have HQ9 := hid (HQd.out.below hb); have hk2 := HQ9.out.cells.2.2.1; clear hb)
              refine hK.out _ _ (by first | exact hHeld | exact hk2 | exact keep_c hHeld _) (fun hHeld => ?_)
              clear hK K
              refine pure_ (i := 5) (N := some 83) (v := ?_) (a' := ?_) #[true, true, true, true, true, true, false, false, false, false] rfl rfl (by kernel_rfl) (fun _ _ _ h => h) (Or.inl ⟨by rfl, ?_⟩) ?_ ?_
              rotate_left
              · intro w'
                go_simp
                with_reducible rfl
              rotate_left
              · simp only [Act.put, List.setIfInBounds_toArray, List.set_cons_zero, List.set_cons_succ]
                rfl
              refine one_ (i := 6) (N := some 84) #[true, true, true, true, true, true, true, false, false, false] rfl rfl (by kernel_rfl) (by decide) (fun K hK => ?_)
              go_simp
              refine hK.out _ _ (by first | exact hHeld | exact hk2 | exact keep_c hHeld _) (fun hHeld => ?_)
              clear hK K
              refine one_ (i := 7) (N := some 85) #[true, true, true, true, true, true, true, true, false, false] rfl rfl (by kernel_rfl) (by decide) (fun K hK => ?_)
              refine Kd.R_append_step k43 (W := w9) (w0 := W) W.heap.size (by rfl) (.tmp 79) (.tmp 84) 34 43 (.agg #[.string ⟨#[]⟩, .string ⟨#[]⟩]) 32 rfl Tryd.underlying34 info43 rfl (by decide) (by omega) (.slice Af fs.length cf) fs ⟨⟨#[99, 111, 110, 116, 101, 110, 116, 45, 76, 69, 78, 71, 84, 72]⟩, D⟩ [.string ⟨#[99, 111, 110, 116, 101, 110, 116, 45, 76, 69, 78, 71, 84, 72]⟩, .string D] (fun k => k ≠ W.heap.size + 1) (fun _ => False) rfl (by first | (go_simp; done) | (go_simp; rfl)) (k43_mkM _ _ _ ⟨⟨#[99, 111, 110, 116, 101, 110, 116, 45, 76, 69, 78, 71, 84, 72]⟩, D⟩) (fun _ hk => hk.elim) (fun k hk => by have := blk_lt HQ9.out.box; omega) HQ9.out.row HQ9.out.bel HQ9.out.bel.size (by have := HFL.out; omega) ?_; intro v6 w6 hrow6 hb6 hg6 _; have HQN := hid (HQ9.out.grow hb6 hg6 hrow6); have hk1 := (hg6.block _ (blk_lt HQ9.out.box) (fun e => HQ9.out.row.1 _ e.symm rfl)).trans HQ9.out.box; have hk2 := blk_cell hk1 2; have hk3 := blk_frozen hk1 2; have hsl6 := Kd.R_slice hrow6; obtain ⟨A6, c6, rfl⟩ := hsl6; clear hrow6 hb6 hg6 hk1
              refine hK.out _ _ (by first | exact hHeld | exact hk2 | exact keep_c hHeld _) (fun hHeld => ?_)
              clear hK K
              refine norm_ (a' := ?_) ?_ ?_
              rotate_left
              · simp only [Act.put, List.setIfInBounds_toArray, List.set_cons_zero, List.set_cons_succ]
                rfl
              refine pure_ (i := 8) (N := some 86) (v := ?_) (a' := ?_) #[true, true, true, true, true, true, true, true, true, false] rfl rfl (by kernel_rfl) (fun _ _ _ h => h) (Or.inl ⟨by rfl, ?_⟩) ?_ ?_
              rotate_left
              · intro w'
                go_simp
                with_reducible rfl
              rotate_left
              · simp only [Act.put, List.setIfInBounds_toArray, List.set_cons_zero, List.set_cons_succ]
                rfl
              refine last_ (i := 9) (N := none) #[true, true, true, true, true, true, true, true, true, true] rfl rfl (by kernel_rfl) (by decide) (fun K hK => ?_)
              go_simp
              refine hK.out _ _ ?_
              clear hK K
              refine done_ (by kernel_rfl) ?_
              have HQF := hid (show Qx W (w6.setCell ⟨W.heap.size + 1, 2, none⟩ (.slice A6 (fs.length + 1) c6)) (W.heap.size + 1) _ _ (.slice A6 (fs.length + 1) c6) (.slice A2 nb.length c2) (flsQ ds nb.length) from by
                have h := HQN.out
                rw [← HLP.out, HFQ2.out] at h
                have e : (flsQ ds nb.length).length = fs.length + 1 := by rw [← HFQ2.out, List.length_append, List.length_singleton]
                rw [e] at h
                exact h)
              have hel : (flsQ ds nb.length).length = fs.length + 1 := by rw [← HFQ2.out, List.length_append, List.length_singleton]
              rw [hel, HCS.out] at HPR HSA
              rw [HCS.out] at HPA
              have HEL := hid hel
              have hrr := Kd.R_reads' HQF.out.row
              rw [hel] at hrr
              have HC6 := hid hrr.2.2
              have hc6 := hrr.2.1
              have hx := HQF.out.cells
              obtain ⟨x0, x1, x2, x3⟩ := hx
              clear hrr HQN hk2 hk3 hHeld HQd HQ9 HLP HFQ2 HFQ hel HDG
              generalize w6.setCell ⟨W.heap.size + 1, 2, none⟩ (.slice A6 (fs.length + 1) c6) = WF at *
              generalize flsQ ds nb.length = FQ at *
              go_upto_region 19 with (first
                | (go_at_call 43; refine (HPR.out _ HQF.out.bel A6 c6 HC6.out hc6).mono ?_; rintro e W1 ⟨v1, rfl, ho, hb⟩; obtain ⟨A7, c7, rfl, hc7, hC7⟩ := Kd.R_reads ho; have HC7 := hid hC7; have HQ1 := hid (HQF.out.below hb); have HC61 := hid (Kd.C_below HC6.out hb); clear hb ho hC7 x0 x1 x2 x3)
                | (go_at_call 23; refine (HPA.out _ HQ1.out.bel A7 c7 HC7.out hc7).mono ?_; rintro e W2 ⟨v2, v3, rfl, ho2, ho3, hb⟩; obtain ⟨B2, d2, rfl, hd2, hD2⟩ := Kd.R_reads ho2; obtain ⟨B3, d3, rfl, hd3, hD3⟩ := Kd.R_reads ho3; rw [HEL.out] at hd2 hD2 ⊢; have HQ2 := HQ1.out.below hb; have HQ3 := fun o => HQ2.alloc o; have HC62 := Kd.C_below HC61.out hb; have HC72 := Kd.C_below HC7.out hb; have z0 := fun o => (HQ3 o).cells.1; have z1 := fun o => (HQ3 o).cells.2.1; have z2 := fun o => (HQ3 o).cells.2.2.1; have z3 := fun o => (HQ3 o).cells.2.2.2; have HCA := hid (fun o => Kd.C_alloc HC62 o); have HCB := hid (fun o => Kd.C_alloc hD2 o); have HCC := hid (fun o => Kd.C_alloc hD3 o); have HCD := hid (fun o => Kd.C_alloc HC72 o); have HQ4 := hid HQ3; clear hb ho2 ho3 hD2 hD3 HQ2 HQ3 HC62 HC72)
                | (go_at_call 26; refine (HSA.out _ (HQ4.out _).bel A6 c6 B2 d2 B3 d3 (HCA.out _) hc6 (HCB.out _) hd2 (HCC.out _) hd3).mono ?_; rintro e W4 ⟨rfl, hb⟩; have HB4 := hid ((HQ4.out _).bel.trans (hb.mono (HQ4.out _).bel.size)); have HC34 := hid (Kd.C_below (HCD.out _) hb); clear hb z0 z1 z2 z3))
              clear HC6 HQF HC61 HQ1 HCA HCB HCC HCD HQ4 HPR HPA HSA HC7 HEL
              go_upto_region 22 with (first
                | ((with_reducible refine gate_builtin (b := .append) (xs := #[.tmp 109, .tmp 110]) rfl ?_); at_builtin; refine Kd.R_append_rows (Kd.int .u8) (w0 := W4) W4.heap.size rfl (.tmp 109) (.tmp 110) 22 5 (.int .u8 0) 1 rfl Tryd.underlying22 info5 rfl (by decide) (by omega) (.slice none 0 0) ([] : List Int) T _ _ _ (fun _ => True) (fun _ => False) rfl rfl (Kd.R_nil _ _ _ _ _) HC34.out (fun _ _ h => h) (fun _ h => h.elim) (fun _ _ => trivial) (Below.refl _ _) (Nat.le_refl _) (by have := HTL.out; simp only [List.length_nil]; omega) ?_; intro v6 W5 ho6 hb6 hg6 _; rw [List.nil_append] at ho6; have HO6 := hid ho6; have HB6 := hid hb6; have hsl := Kd.R_slice ho6; obtain ⟨D6, c6, rfl⟩ := hsl; clear ho6 hb6 hg6)
                | ((with_reducible refine gate_builtin (b := .append) (xs := #[.tmp 112, .tmp 113]) rfl ?_); at_builtin; refine Kd.R_append (Kd.int .u8) (w0 := W4) W4.heap.size rfl (.tmp 112) (.tmp 113) 22 5 (.int .u8 0) 1 rfl Tryd.underlying22 info5 rfl (by decide) (by omega) (.slice D6 T.length c6) T 0 [.int .u8 0] (fun _ => True) (fun _ => False) rfl (by first | (go_simp; done) | (go_simp; rfl)) rfl (fun _ h => h.elim) (fun _ _ => trivial) HO6.out HB6.out HB6.out.size (by have := HTL.out; omega) ?_; intro v7 W6 ho7 hb7 _ _; have HB7 := hid hb7; obtain ⟨D7, d7, rfl, hd7, hD7⟩ := Kd.R_reads ho7; have HC8 := hid hD7; clear ho7 hb7 hD7))
              have HB47 := hid (HB4.out.trans (HB7.out.mono HB4.out.size))
              have HC37 := hid (Kd.C_below HC34.out HB7.out)
              have hct := HCT.out A7 c7 hc7
              have hcl2 := HCL2.out
              have hTp : (0 : Int) < (T.length : Int) := by have := HT0.out; omega
              have hTq : (T.length : Int) ≤ 100000 := by have := HTL.out; omega
              clear HO6 HB6 HB7 HB4 HC34 HCT HCL2
              go_upto_region 24 with (first
                | (go_at_call 23; refine calls_of_args (args' := #[.slice D7 (T ++ [0]).length d7]) (by rw [List.length_append, List.length_singleton]) ?_; refine (HMO.out _ HB47.out D7 d7 HC8.out hd7).mono ?_; rintro e W7 ⟨u4, u5, rfl, ho4, ho5, hb⟩; obtain ⟨F4, g4, rfl⟩ := Kd.R_slice ho4; obtain ⟨F5, g5, rfl⟩ := Kd.R_slice ho5; have HB8 := hid (bA (HB47.out.trans (hb.mono HB47.out.size)) (.cells #[.string m1, .string m2, .slice F4 m3.length g4, .slice F5 m4.length g5] 36)); have HC38 := hid (Kd.C_alloc (Kd.C_below HC37.out hb) (.cells #[.string m1, .string m2, .slice F4 m3.length g4, .slice F5 m4.length g5] 36)); clear hb ho4 ho5 HB47 HC37)
                | (go_at_call 23; refine (HCU.out _ HB8.out A7 c7 HC38.out hc7).mono ?_; rintro e W8 ⟨u6, u7, rfl, ho6, ho7, hb⟩; obtain ⟨F6, g6, rfl⟩ := Kd.R_slice ho6; obtain ⟨F7, g7, rfl⟩ := Kd.R_slice ho7; have HB9 := hid (bA (HB8.out.trans (hb.mono HB8.out.size)) (.cells #[.string n1, .string n2, .slice F6 n3.length g6, .slice F7 n4.length g7] 36)); clear hb ho6 ho7))
              clear hct hcl2
              rcases HEE.out with ⟨rfl, hee⟩ | ⟨rfl, hee⟩
              · have hnn : nb = [] := List.eq_nil_of_length_eq_zero (by omega)
                subst hnn
                go_wp2_with (go_at_call 16; refine (HK.out _ HB9.out).mono ?_; rintro e W9 ⟨rfl, hb⟩; have HB10 := hid (HB9.out.trans (hb.mono HB9.out.size)); clear hb)
                go_ret
                exact ⟨rfl, HB10.out⟩
              · have hlp : 0 < nb.length := by omega
                have hnn : nb ≠ [] := fun h => by rw [h] at hlp; exact absurd hlp (by decide)
                go_wp2_with (go_at_call 16; refine (HK.out _ HB9.out).mono ?_; rintro e W9 ⟨rfl, hb⟩; have HB10 := hid (HB9.out.trans (hb.mono HB9.out.size)); clear hb)
                go_ret
                exact ⟨rfl, HB10.out⟩
end Go.Proofs.YtpfbemcoblganaaDoor.httpBack
namespace Go.Proofs.YtpfbemcoblganaaDoor.httpBack
open Go.ChangeShapes Go.WideShapes Go.ChangeAt Go.RowKit Go.Proofs.YtpfbemcoblganaaDoorW Go.Proofs.YtpfbemcoblganaaDoorW.PrintWords Go.Proofs.YtpfbemcoblganaaDoor.Pall
open Go.ChangeMaps (open_string shut_string)
set_option linter.unusedVariables false
theorem own : ownKnob Tryd.prog.godebug = none := by kernel_rfl
theorem laidOut : laidOutB Tryd.prog = true := by kernel_rfl
set_option maxRecDepth 100000 in
theorem lifted (os : Os) (started : os.Started) (H : Type) (enc : TypeId × Value → H) :
    ReturnsInHanded {} Tryd.checked os 15 .any (fun w args => (Rows.httpBackSpec.pre enc Tryd.prog Tryd.f15 [] false w args ∧ laidMetH Tryd.prog Rows.httpBackRow.laid w) ∧ sizedMet enc Tryd.prog Tryd.f15 (OpenSpec.ofChange Rows.httpBackSpec) false w args)
      (Rows.httpBackSpec.post enc Tryd.prog Tryd.f15 false true false false) := by
  refine law_lifted (C := Tryd.checked) (rt := 4) (L := Rows.httpBackRow.laid) own started (by kernel_rfl) Tryd.func15 laidOut (by kernel_rfl) rfl rfl (by rfl) Tryd.underlying4 ?_ (ChangeSpec.witness_shaped (enc := enc) (C := Tryd.checked) (os := os) (X := fun w _ => laidMetH Tryd.prog Rows.httpBackRow.laid w) false (World.laidAll Tryd.prog os Rows.httpBackRow.laid) #[.slice none 0 0, .slice none 0 0, .slice none 0 0, .bool false] 8 (World.laidAll_os _ _ _)
    (World.shaped_of_ZipB (by kernel_rfl) (by kernel_rfl)) (by kernel_rfl) (by kernel_rfl) (by kernel_rfl) (by rw [MakeChecks.laidMetH_plain _ _ _ (by kernel_rfl)]; exact laidMet_laidAll _ (by kernel_rfl) (by kernel_rfl))) ?_
  · intro ds hds
    have hds : ds.length = 4 := hds
    match ds, hds with
    | [_, _, _, _], _ => rfl
  intro W base args ds ps hval0 hA0 hsz0 hL hsh
  have hS : Sh W := cell_of_shapedOpen_int' hsh
  have hval : ∀ (j : Nat) t v, Tryd.f15.params[j]? = some t → args[j]? = some v → Value.okWide Tryd.prog W .any base t v := hval0
  have hA : DataW.TrodAll enc Tryd.prog W 0 (fun _ => true) true Tryd.f15.params.toList args.toList ds ps := hA0
  have hsz : (DataW.weightsEach Tryd.prog Tryd.f15.params.toList ds).all (· ≤ reachBytes) = true := hsz0
  rw [Tryd.params15] at hA hval hsz
  obtain ⟨v0, vs0, d0, ds0, p0, q0, hargs, rfl, rfl, h0, r0⟩ := trodAll_cons hA
  obtain ⟨v1, vs1, d1, ds1, p1, q1, rfl, rfl, rfl, h1, r1⟩ := trodAll_cons r0
  obtain ⟨v2, vs2, d2, ds2, p2, q2, rfl, rfl, rfl, h2, r2⟩ := trodAll_cons r1
  obtain ⟨v3, vs3, d3, ds3, p3, q3, rfl, rfl, rfl, h3, r3⟩ := trodAll_cons r2
  obtain ⟨rfl, rfl, rfl⟩ := trodAll_nil r3
  obtain rfl : args = #[v0, v1, v2, v3] := by cases args; simp_all
  obtain ⟨A0, len0, cap0, rfl⟩ := okWide_slice Tryd.underlying22 (hval 0 22 v0 rfl rfl)
  obtain ⟨z0, w0⟩ := ints_row Tryd.underlying22 Tryd.underlying5 (by kernel_rfl) h0
  have y0 : len0 * 1 ≤ 140737488351232 := PrintWords.sized_ints hsz (j := 0) (t := 22) rfl rfl Tryd.underlying22 Tryd.underlying5 (by kernel_rfl) (by kernel_rfl) h0
  obtain ⟨l0, rfl, hr0, hm0, hw0, hc0⟩ := ReadsInt.ofRowC w0
  obtain ⟨A1, len1, cap1, rfl⟩ := okWide_slice Tryd.underlying22 (hval 1 22 v1 rfl rfl)
  obtain ⟨z1, w1⟩ := ints_row Tryd.underlying22 Tryd.underlying5 (by kernel_rfl) h1
  have y1 : len1 * 1 ≤ 140737488351232 := PrintWords.sized_ints hsz (j := 1) (t := 22) rfl rfl Tryd.underlying22 Tryd.underlying5 (by kernel_rfl) (by kernel_rfl) h1
  obtain ⟨l1, rfl, hr1, hm1, hw1, hc1⟩ := ReadsInt.ofRowC w1
  obtain ⟨A2, len2, cap2, rfl⟩ := okWide_slice Tryd.underlying22 (hval 2 22 v2 rfl rfl)
  obtain ⟨z2, w2⟩ := ints_row Tryd.underlying22 Tryd.underlying5 (by kernel_rfl) h2
  have y2 : len2 * 1 ≤ 140737488351232 := PrintWords.sized_ints hsz (j := 2) (t := 22) rfl rfl Tryd.underlying22 Tryd.underlying5 (by kernel_rfl) (by kernel_rfl) h2
  obtain ⟨l2, rfl, hr2, hm2, hw2, hc2⟩ := ReadsInt.ofRowC w2
  obtain ⟨a3, rfl, rfl, rfl⟩ := open_bool Tryd.underlying4 (hval 3 4 v3 rfl rfl) h3
  exact walk A0 cap0 l0 (Kd.C_of_reads (d := (0 : Int)) (h1 := fun _ => rfl) hr0) hc0 hw0 (by omega) A1 cap1 l1 (Kd.C_of_reads (d := (0 : Int)) (h1 := fun _ => rfl) hr1) hc1 hw1 (by omega) A2 cap2 l2 (Kd.C_of_reads (d := (0 : Int)) (h1 := fun _ => rfl) hr2) hc2 hw2 (by omega) a3 W rfl hS
theorem over : Rows.httpBackRow.holds Tryd.pinned (OpenSpec.ofChange Rows.httpBackSpec) :=
  OpenClaim.holds_of_wide 15 Tryd.f15 rfl rfl rfl rfl rfl rfl rfl ⟨rfl, rfl, rfl, rfl, rfl⟩ rfl rfl rfl rfl rfl (by kernel_rfl) Tryd.func15 (by kernel_rfl)
    (of_decide_eq_true (by kernel_rfl)) (by unfold Func.isWrapper; rw [if_neg (of_decide_eq_false (by kernel_rfl))]; exact ⟨rfl, rfl⟩)
    (fun os started H enc _ => lifted os started H enc)
theorem said : Rows.HttpBackSaid := over
theorem card : Rows.HttpBackCardSaid :=
  Claim7.holds_tied_plain_at .later [] [.data, .sentinel, .pinned] true (true, "79a6d220dc140684a9dab3eb2f9ce24deda1b71e26dfa61c675eb49a4432bf09") true said (fun _ h => by cases h) (by kernel_rfl) (fun _ h => by cases h) httpBack_row_tie rfl ⟨rfl, rfl⟩ (by kernel_rfl) rfl
    (fun f fn hf hfn => by
      obtain rfl : f = 15 := Option.some.inj ((show Tryd.prog.funcNamed "wicketman/wicketmanlaw09.HttpBack" = some 15 by kernel_rfl).symm.trans hf) |>.symm
      obtain rfl : fn = Tryd.f15 := (Option.some.inj (Tryd.func15.symm.trans hfn)).symm
      exact ⟨by kernel_rfl, fun j t ht => by
        rw [Tryd.params15] at ht
        have hm : t ∈ [22, 22, 22, 4] := by simpa using Array.mem_of_getElem? ht
        have hall : ([22, 22, 22, 4].all fun u => !Tryd.prog.wantsStandIn u) = true := by kernel_rfl
        exact (show Tryd.prog.wantsStandIn t = false by simpa using List.all_eq_true.1 hall t hm)⟩)
    (by kernel_rfl)
#print axioms card
end Go.Proofs.YtpfbemcoblganaaDoor.httpBack
namespace Go.Proofs.YtpfbemcoblganaaDoor
/-- The card, under a short name, for the claim. -/
theorem httpBack_card : Rows.HttpBackCardSaid := httpBack.card
end Go.Proofs.YtpfbemcoblganaaDoor

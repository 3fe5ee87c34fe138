/-
  HttpMost: forty fields may be, and no more; a first line of more than 2000 bytes is too long; a body has at most 4000.
-/
import Derived.Test.YtpfbemcoblganaaDoorQmRow
import Derived.Test.YtpfbemcoblganaaDoorTie
import Derived.Test.YtpfbemcoblganaaDoorCards
import Derived.Test.YtpfbemcoblganaaDoorQmPl09n
import Derived.Test.YtpfbemcoblganaaDoorQmPl09p
import Derived.Test.YtpfbemcoblganaaDoorQmHp
import Derived.Test.YtpfbemcoblganaaDoorQmInv
import Derived.Test.YtpfbemcoblganaaDoorQmPall3
import Derived.Deep.RegionLaw
namespace Go.Proofs.YtpfbemcoblganaaDoor.httpMost
open Go.RowKit Go.Proofs.YtpfbemcoblganaaDoor.Pl Go.Proofs.YtpfbemcoblganaaDoor.Pall Go.Proofs.YtpfbemcoblganaaDoorW.PrintWords Go.Proofs.YtpfbemcoblganaaDoorW.PrintLast Go.Proofs.YtpfbemcoblganaaDoor.Inv
set_option linter.unusedVariables false
set_option linter.unusedSimpArgs false
def mkC (n : Nat) : Array Value := madeCells (Value.int .u8 0).cells (n * 1)
theorem mk_run (n : Nat) (hn : n ≤ 100000000) (W : World) : (Instr.makeSlice 22 (.int .i64 (n : Int)) (.int .i64 (n : Int))).run Tryd.prog W = .ok (.slice (some ⟨W.heap.size, 0, none⟩) n n) (W.alloc (.cells (mkC n) 5)) := by
  obtain ⟨i0, hi, hz0, hz1, hz2⟩ := info_parts info5
  have hr := run_make (P := Tryd.prog) W 22 5 i0 (.int .u8 0) Tryd.underlying22 hi hz0 .i64 .i64 (n : Int) (n : Int) (by omega) (by omega) (by rw [hz2]; omega) (by omega)
  rw [Int.toNat_natCast, hz1] at hr
  exact hr
theorem mk_str (n : Nat) (W : World) (B : Nat) (h : W.heap[B]? = some (.cells (mkC n) 5 (0, 0))) : (convert 22 9 (.slice (some ⟨B, 0, none⟩) n n)).run Tryd.prog W = .ok (.string (strOfNums (List.replicate n 0))) W := by
  refine run_convert_bytes_arg (P := Tryd.prog) W 22 5 Tryd.underlying22 Tryd.underlying5 B 0 n n (List.replicate n 0) (by rw [List.length_replicate]) ?_ 9 Tryd.underlying9
  intro i hi
  have e : (⟨B, 0, none⟩ : Addr).add i = ⟨B, i, none⟩ := by unfold Addr.add; split <;> simp_all
  have e2 : (List.replicate n (0 : Int)).getD i 0 = 0 := by rw [List.getD, List.getElem?_replicate]; split <;> rfl
  first
    | rw [e, e2]
    | rw [e2]
    | skip
  have hc : (mkC n)[i]? = some (.int .u8 0) := by
    unfold mkC madeCells
    simp [hi, Value.cells, Nat.mod_one]
  simp only [World.cell?, h]
  simpa using hc
theorem conv_to (W : World) (s : ByteArray) (hs : s.size ≤ 140737488351232) : (convert 9 22 (.string s)).run Tryd.prog W = .ok (.slice (some ⟨W.heap.size, 0, none⟩) (btsOf s).length (grownCap W s.size 0 5)) (Lib.bytesWorld W 5 s) := by
  rw [btsOf_len]
  exact Lib.run_convert_string_bytes W 9 22 5 s Tryd.underlying9 Tryd.underlying22 Tryd.underlying5
theorem parse_conv (s : ByteArray) (hs : s.size ≤ 140737488351232) (r1 r2 : ByteArray) (r3 : List S43) (r4 : List Int) (E : Int) (hp : http_Parse.f (btsOf s) = some (r1, r2, r3, r4, E)) (W : World) (hS : Sh W) :
    Calls Tryd.prog 23 #[.slice (some ⟨W.heap.size, 0, none⟩) (btsOf s).length (grownCap W s.size 0 5)] (Lib.bytesWorld W 5 s) fun e w' => ∃ (B2 : Option Addr) (d2 : Nat) (B3 : Option Addr) (d3 : Nat), e = .returned (.tuple #[.agg #[.string r1, .string r2, .slice B2 r3.length d2, .slice B3 r4.length d3], .int .u16 E]) ∧ Below W.heap.size W w' := by
  have hv := Kd.V_reads' (conv_V W 5 W.heap.size s hs)
  have hb := below_bytes W 5 s
  have hl : (btsOf s).length = s.size := btsOf_len s
  refine (http_Parse.calls _ _ (btsOf s) r1 r2 r3 r4 E _ hv.2.2 (by rw [hl]; exact hv.2.1) (hS.of_below hb) hp).mono ?_
  rintro e w' ⟨v2, v3, rfl, h2, h3, h4⟩
  obtain ⟨B2, d2, rfl⟩ := Kd.R_slice h2
  obtain ⟨B3, d3, rfl⟩ := Kd.R_slice h3
  exact ⟨B2, d2, B3, d3, rfl, hb.trans (h4.mono hb.size)⟩
theorem parse_e (y : List Int) (hy : y.length < 4294967281) {E : Int} (h : (parseQ y).2.2.2.2 = E) : ∃ (r1 r2 : ByteArray) (r3 : List S43) (r4 : List Int), http_Parse.f y = some (r1, r2, r3, r4, E) := by
  unfold http_Parse.f
  rw [if_pos hy]
  subst h
  exact ⟨_, _, _, _, rfl⟩
def LeU (w w' : World) : Prop := (∀ (g : Nat) (cs : Array Value) (hd : Nat × Nat), w.heap[g]? = some (.cells cs 5 hd) → w'.heap[g]? = some (.cells cs 5 hd)) ∧
  (∀ (g : Nat) (cs : Array Value), w.heap[g]? = some (.cells cs 36 (0, 0)) → cs.size = 4 → ∃ cs' : Array Value, cs'.size = 4 ∧ w'.heap[g]? = some (.cells cs' 36 (0, 0)))
theorem LeU.refl (w : World) : LeU w w := ⟨fun _ _ _ h => h, fun _ cs h hs => ⟨cs, hs, h⟩⟩
theorem LeU.trans {a b c : World} (h : LeU a b) (h' : LeU b c) : LeU a c := ⟨fun g cs hd hg => h'.1 g cs hd (h.1 g cs hd hg), fun g cs hg hs => by
  obtain ⟨cs', hs', hg'⟩ := h.2 g cs hg hs
  exact h'.2 g cs' hg' hs'⟩
theorem LeU.of_below {w w' : World} (hb : Below w.heap.size w w') : LeU w w' := ⟨fun _ _ _ h => blk_below h hb, fun _ cs h hs => ⟨cs, hs, blk_below h hb⟩⟩
theorem LeU.set {w : World} {b : Nat} {cs : Array Value} (i : Nat) (h : w.heap[b]? = some (.cells cs 36 (0, 0))) (hs : cs.size = 4) (u : Value) : LeU w (w.setCell ⟨b, i, none⟩ u) :=
  ⟨fun g cs' hd hg => by
    have hne : g ≠ b := fun e => by
      subst e; rw [h] at hg; injection hg with hg; injection hg with _ ht _; exact absurd ht (by decide)
    exact (Below.heap_setCell w ⟨b, i, none⟩ u g hne).trans hg,
  fun g cs' hg hs' => by
    by_cases e : g = b
    · subst e; exact ⟨_, by simpa using hs, blk_set h i u⟩
    · exact ⟨cs', hs', (Below.heap_setCell w ⟨b, i, none⟩ u g e).trans hg⟩⟩
theorem LeU.set4 {w : World} {b : Nat} {cs : Array Value} (h : w.heap[b]? = some (.cells cs 36 (0, 0))) (hs : cs.size = 4) (v0 v1 v2 v3 : Value) :
    LeU w ((((w.setCell ⟨b, 0, none⟩ v0).setCell ⟨b, 1, none⟩ v1).setCell ⟨b, 2, none⟩ v2).setCell ⟨b, 3, none⟩ v3) := by
  have h1 := blk_set h 0 v0
  have h2 := blk_set h1 1 v1
  have h3 := blk_set h2 2 v2
  exact (LeU.set 0 h hs v0).trans ((LeU.set 1 h1 (by simpa using hs) v1).trans ((LeU.set 2 h2 (by simpa using hs) v2).trans (LeU.set 3 h3 (by simpa using hs) v3)))
def Mk (n : Nat) (v : Value) (w : World) : Prop := ∃ B, v = .slice (some ⟨B, 0, none⟩) n n ∧ w.heap[B]? = some (.cells (mkC n) 5 (0, 0))
def By (s : ByteArray) (v : Value) (w : World) : Prop := ∃ (B c : Nat) (cs : Array Value) (hd : Nat × Nat), v = .slice (some ⟨B, 0, none⟩) (btsOf s).length c ∧ (btsOf s).length ≤ c ∧ w.heap[B]? = some (.cells cs 5 hd) ∧
  ∀ W' : World, W'.heap[B]? = w.heap[B]? → Kd.C (Kd.int .u8) W' (some ⟨B, 0, none⟩) (btsOf s).length (btsOf s)
def Bx (base : Nat) (v : Value) (w : World) : Prop := ∃ (b : Nat) (cs : Array Value), v = .pointer (some ⟨b, 0, none⟩) ∧ base ≤ b ∧ cs.size = 4 ∧ w.heap[b]? = some (.cells cs 36 (0, 0))
def Rq (z1 z2 : ByteArray) (n3 n4 : Nat) (E : Int) (v : Value) : Prop := ∃ (B2 : Option Addr) (d2 : Nat) (B3 : Option Addr) (d3 : Nat), v = .tuple #[.agg #[.string z1, .string z2, .slice B2 n3 d2, .slice B3 n4 d3], .int .u16 E]
def Rg (z1 z2 : ByteArray) (n3 n4 : Nat) (v : Value) : Prop := ∃ (B2 : Option Addr) (d2 : Nat) (B3 : Option Addr) (d3 : Nat), v = .agg #[.string z1, .string z2, .slice B2 n3 d2, .slice B3 n4 d3]
theorem By.new (w : World) (s : ByteArray) (hs : s.size ≤ 140737488351232) : By s (.slice (some ⟨w.heap.size, 0, none⟩) (btsOf s).length (grownCap w s.size 0 5)) (Lib.bytesWorld w 5 s) := by
  have hv := Kd.V_at (conv_V w 5 0 s hs)
  refine ⟨_, _, _, _, rfl, by rw [btsOf_len]; exact hv.1 ▸ hv.2.1, Lib.bytesWorld_at_new w 5 s, fun W' e => hv.2.2 W' fun k hk hk2 => ?_⟩
  have : k = w.heap.size := by rw [Lib.bytesWorld_size] at hk2; omega
  subst this
  exact e
def T15 (base n : Nat) (D Z s z1 z2 : ByteArray) (n3 n4 : Nat) (E : Int) : List (Nat × (Value → World → Prop)) :=
  [(0, fun v _ => v = .int .i64 (n : Int)), (1, fun v _ => v = .string D), (2, fun v _ => v = .string ((⟨#[71, 69, 84, 32, 47, 32, 72, 84, 84, 80, 47, 49, 46, 49, 13, 10, 72, 111, 115, 116, 58, 32, 97, 13, 10, 67, 111, 110, 116, 101, 110, 116, 45, 76, 101, 110, 103, 116, 104, 58, 32]⟩ : ByteArray) ++ D)), (3, fun v _ => v = .string ((⟨#[71, 69, 84, 32, 47, 32, 72, 84, 84, 80, 47, 49, 46, 49, 13, 10, 72, 111, 115, 116, 58, 32, 97, 13, 10, 67, 111, 110, 116, 101, 110, 116, 45, 76, 101, 110, 103, 116, 104, 58, 32]⟩ : ByteArray) ++ D ++ (⟨#[13, 10, 13, 10]⟩ : ByteArray))), (4, fun v _ => v = .int .i64 (n : Int)), (5, fun v w => Mk n v w), (6, fun v _ => v = .string Z), (7, fun v _ => v = .string s), (8, fun v w => By s v w),
    (9, fun v _ => Rq z1 z2 n3 n4 E v), (10, fun v _ => Rq z1 z2 n3 n4 E v), (11, fun v _ => Rg z1 z2 n3 n4 v), (12, fun v _ => v = .int .u16 E), (13, fun v w => Bx base v w), (15, fun v _ => v = .int .u16 E)]
theorem T15_mono (J : World → Prop) (base n : Nat) (D Z s z1 z2 : ByteArray) (n3 n4 : Nat) (E : Int) : TabMono J LeU (T15 base n D Z s z1 z2 n3 n4 E) := by
  unfold T15
  simp only [TabMono]
  refine ⟨fun _ _ _ _ _ h => h, fun _ _ _ _ _ h => h, fun _ _ _ _ _ h => h, fun _ _ _ _ _ h => h, fun _ _ _ _ _ h => h, ?_, fun _ _ _ _ _ h => h, fun _ _ _ _ _ h => h, ?_, fun _ _ _ _ _ h => h, fun _ _ _ _ _ h => h, fun _ _ _ _ _ h => h, fun _ _ _ _ _ h => h, ?_, fun _ _ _ _ _ h => h, trivial⟩
  · rintro u w w' _ hle ⟨B, h1, h2⟩
    exact ⟨B, h1, hle.1 _ _ _ h2⟩
  · rintro u w w' _ hle ⟨B, c, cs, hd, h1, h2, h3, h4⟩
    exact ⟨B, c, cs, hd, h1, h2, hle.1 _ _ _ h3, fun W' e => h4 W' (e.trans ((hle.1 _ _ _ h3).trans h3.symm))⟩
  · rintro u w w' _ hle ⟨b, cs, h1, h2, h3, h4⟩
    obtain ⟨cs', h5, h6⟩ := hle.2 _ _ h4 h3
    exact ⟨b, cs', h1, h2, h5, h6⟩
def mnT (j : Nat) : List UInt8 := joinL (getL :: hostA :: List.replicate j xOne)
theorem mnT_step (j : Nat) : mnT (j + 1) = mnT j ++ [88, 58, 32, 49, 13, 10] := by
  unfold mnT
  have e : (getL :: hostA :: List.replicate (j + 1) xOne) = (getL :: hostA :: List.replicate j xOne) ++ [xOne] := by rw [List.replicate_succ']; rfl
  rw [e, joinL_app]; rfl
theorem mnT_len (j : Nat) : (mnT j).length = 25 + 6 * j := by
  induction j with
  | zero => rfl
  | succ j ih => rw [mnT_step, List.length_append, ih]; simp only [List.length_cons, List.length_nil]; omega
set_option maxRecDepth 100000 in
set_option maxHeartbeats 4000000 in
theorem walk (a0 : Int) (w0 : (Lit.int .u8 a0).wf = true) (a1 : Int) (w1 : (Lit.int .u16 a1).wf = true) {W : World} (W' : World) (e : W' = W) (hS : Sh W) :
    Calls Tryd.prog 5 #[.int .u8 a0, .int .u16 a1] W fun e W' => e = .returned (.bool true) ∧ Below W.heap.size W W' := by
  simp [Lit.wf, IntKind.min, IntKind.max, IntKind.signed, IntKind.bits] at w0 w1
  clear e W'
  obtain ⟨q, hq⟩ : ∃ q : Nat, a0 % 60 = (q : Int) := ⟨(a0 % 60).toNat, by omega⟩
  obtain ⟨n2, hn2⟩ : ∃ q : Nat, a1 % 2100 = (q : Int) := ⟨(a1 % 2100).toNat, by omega⟩
  obtain ⟨n3, hn3⟩ : ∃ q : Nat, a1 % 5000 = (q : Int) := ⟨(a1 % 5000).toNat, by omega⟩
  have q60 : q < 60 := by omega
  have n2b : n2 < 2100 := by omega
  have n3b : n3 < 5000 := by omega
  have hqt : Int.tmod a0 60 = (q : Int) := by rw [Int.tmod_eq_emod_of_nonneg (by omega)]; exact hq
  have hn2t : Int.tmod a1 2100 = (n2 : Int) := by rw [Int.tmod_eq_emod_of_nonneg (by omega)]; exact hn2
  have hn3t : Int.tmod a1 5000 = (n3 : Int) := by rw [Int.tmod_eq_emod_of_nonneg (by omega)]; exact hn3
  -- what the three requests are parsed as
  obtain ⟨s1, hs1⟩ : ∃ s, s = mkB (mnT q) ++ (⟨#[13, 10]⟩ : ByteArray) := ⟨_, rfl⟩
  have zs1 : s1.size ≤ 400 := by rw [hs1, ByteArray.size_append, mkB_size, mnT_len]; show _ + 2 ≤ _; omega
  have p1 : (parseQ (btsOf s1)).2.2.2.2 = if q + 1 ≤ 40 then 0 else 3 := by
    have e : btsOf s1 = numsL (joinL (getL :: hostA :: List.replicate q xOne) ++ [13, 10]) := by rw [btsOf_nums, hs1]; exact congrArg numsL (by simp [mkB, mnT])
    rw [e]; exact many_parse q
  obtain ⟨s2, hs2⟩ : ∃ s, s = (⟨#[71, 69, 84, 32, 47]⟩ : ByteArray) ++ mkB (List.replicate n2 97) ++ (⟨#[32, 72, 84, 84, 80, 47, 49, 46, 49, 13, 10, 72, 111, 115, 116, 58, 32, 97, 13, 10, 13, 10]⟩ : ByteArray) := ⟨_, rfl⟩
  have zs2 : s2.size ≤ 3000 := by rw [hs2, ByteArray.size_append, ByteArray.size_append, mkB_size, List.length_replicate]; show 5 + _ + 22 ≤ _; omega
  have p2 : (parseQ (btsOf s2)).2.2.2.2 = if n2 + 14 ≤ 2000 then 0 else 3 := by
    have e : btsOf s2 = numsL (joinL [firL n2, hostA] ++ [13, 10]) := by rw [btsOf_nums, hs2]; exact congrArg numsL (by simp [mkB, joinL, firL, hostA])
    rw [e]; exact long_parse n2
  obtain ⟨s3, hs3⟩ : ∃ s, s = (⟨#[71, 69, 84, 32, 47, 32, 72, 84, 84, 80, 47, 49, 46, 49, 13, 10, 72, 111, 115, 116, 58, 32, 97, 13, 10, 67, 111, 110, 116, 101, 110, 116, 45, 76, 101, 110, 103, 116, 104, 58, 32]⟩ : ByteArray) ++ mkB (dgL n3) ++ (⟨#[13, 10, 13, 10]⟩ : ByteArray) ++ strOfNums (List.replicate n3 0) := ⟨_, rfl⟩
  have hz3 : strOfNums (List.replicate n3 0) = mkB (List.replicate n3 0) := by
    refine Pall.ba_ext ?_
    rw [strOfNums_data, List.map_replicate]; rfl
  have hdl := (dgL_dec n3 n3b).2.2
  have zs3 : s3.size ≤ 6000 := by rw [hs3, hz3, ByteArray.size_append, ByteArray.size_append, ByteArray.size_append, mkB_size, mkB_size, List.length_replicate]; show 41 + _ + 4 + _ ≤ _; omega
  have p3 : (parseQ (btsOf s3)).2.2.2.2 = if n3 ≤ 4000 then 0 else 13 := by
    have e : btsOf s3 = numsL (joinL [getL, hostA, clL n3] ++ 13 :: 10 :: List.replicate n3 0) := by rw [btsOf_nums, hs3, hz3]; exact congrArg numsL (by simp [mkB, joinL, getL, hostA, clL, clN])
    rw [e]; exact size_parse n3 n3b (List.replicate n3 0) List.length_replicate
  obtain ⟨E1, hE1⟩ : ∃ E : Int, E = if q + 1 ≤ 40 then 0 else 3 := ⟨_, rfl⟩
  obtain ⟨E2, hE2⟩ : ∃ E : Int, E = if n2 + 14 ≤ 2000 then 0 else 3 := ⟨_, rfl⟩
  obtain ⟨E3, hE3⟩ : ∃ E : Int, E = if n3 ≤ 4000 then 0 else 13 := ⟨_, rfl⟩
  rw [← hE1] at p1
  rw [← hE2] at p2
  rw [← hE3] at p3
  obtain ⟨x1, x2, x3, x4, hp1⟩ := parse_e _ (by rw [btsOf_len]; omega) p1
  obtain ⟨y1, y2, y3, y4, hp2⟩ := parse_e _ (by rw [btsOf_len]; omega) p2
  obtain ⟨z1, z2, z3, z4, hp3⟩ := parse_e _ (by rw [btsOf_len]; omega) p3
  have HE1 := hid (show (E1 = 0 ∧ (1 : Int) + (q : Int) ≤ 40) ∨ (E1 = 3 ∧ ((1 : Int) + (q : Int) ≤ 40) = False) by rw [hE1]; split; exact .inl ⟨rfl, by omega⟩; exact .inr ⟨rfl, eq_false (by omega)⟩)
  have HE2 := hid (show (E2 = 0 ∧ (n2 : Int) + 14 ≤ 2000) ∨ (E2 = 3 ∧ ((n2 : Int) + 14 ≤ 2000) = False) by rw [hE2]; split; exact .inl ⟨rfl, by omega⟩; exact .inr ⟨rfl, eq_false (by omega)⟩)
  have HE3 := hid (show (E3 = 0 ∧ (n3 : Int) ≤ 4000) ∨ (E3 = 13 ∧ ((n3 : Int) ≤ 4000) = False) by rw [hE3]; split; exact .inl ⟨rfl, by omega⟩; exact .inr ⟨rfl, eq_false (by omega)⟩)
  have HQ := fun (s : ByteArray) (r1 r2 : ByteArray) (r3 : List S43) (r4 : List Int) (E : Int) (hp : http_Parse.f (btsOf s) = some (r1, r2, r3, r4, E)) (W' : World) (h : Below W.heap.size W W') (A : Option Addr) (c : Nat) (h1 : Kd.C (Kd.int .u8) W' A (btsOf s).length (btsOf s)) (h2 : (btsOf s).length ≤ c) => http_Parse.calls A c (btsOf s) r1 r2 r3 r4 E W' h1 h2 (hS.of_below h) hp
  have HP1 := hid (HQ s1 x1 x2 x3 x4 E1 hp1)
  have HP2 := hid (HQ s2 y1 y2 y3 y4 E2 hp2)
  have HP3 := hid (HQ s3 z1 z2 z3 z4 E3 hp3)
  have HPC := hid (fun (W' : World) (h : Below W.heap.size W W') => parse_conv s3 (by omega) z1 z2 z3 z4 E3 hp3 W' (hS.of_below h))
  have HK := hid (fun (W' : World) (h : Below W.heap.size W W') => wicketmanlaw09_known.calls true W' (hS.of_below h) (Aside0.mk rfl) wicketmanlaw09_known.told)
  obtain ⟨kd, hkd⟩ := (digits_ev n3 n3b).rounds
  have HDG := hid (fun (W' : World) => wicketmanlaw09_digits.calls kd (n3 : Int) (mkB (dgL n3)) W' hkd)
  have HS1 := hid hs1
  have HS2 := hid hs2
  have HS3 := hid hs3
  have HZ1 := hid (show s1.size ≤ 140737488351232 by omega)
  have HZ2 := hid (show s2.size ≤ 140737488351232 by omega)
  have HZ3 := hid (show s3.size ≤ 140737488351232 by omega)
  have HN2 := hid hn2
  have HN2T := hid hn2t
  have HN3 := hid hn3
  have HN3T := hid hn3t
  clear p1 p2 p3 hE1 hE2 hE3 hp1 hp2 hp3 HQ hkd hs1 hs2 hs3 zs1 zs2 zs3 hn2 hn2t hn3 hn3t hS hz3
  go_enter Tryd.func5, Tryd.ntmps5
  go_wp2
  go_loop [6, 7] (fun s i => ∃ j : Nat, j ≤ q ∧ s = .string (mkB (mnT j)) ∧ i = .int .i64 ((j + 1 : Nat) : Int)) (fun _ i => q + 1 - (intOf i).toNat)
  case atStart => exact ⟨0, Nat.zero_le _, rfl, rfl⟩
  case round =>
    obtain ⟨j, hj, rfl, rfl⟩ := hrel
    have HL := hid (mnT_len j)
    have HST := hid (show mkB (mnT j) ++ (⟨#[88, 58, 32, 49, 13, 10]⟩ : ByteArray) = mkB (mnT (j + 1)) by rw [mnT_step]; exact Pall.ba_ext (by simp [mkB]))
    by_cases hlt : j < q
    · have hz : (mkB (mnT j)).size + 6 ≤ 9223372036854775807 := by rw [mkB_size, HL.out]; omega
      have h1 : ((j + 1 : Nat) : Int) < 1 + (q : Int) := by omega
      go_wp2
      go_round
      case rel => exact ⟨j + 1, by omega, by rw [← HST.out], by go_num⟩
      case measure => first | omega | (simp [intOf]; done) | (simp [intOf]; omega)
    · obtain rfl : q = j := by omega
      have hz : (mkB (mnT q)).size + 2 ≤ 9223372036854775807 := by rw [mkB_size, HL.out]; omega
      have HB0 := hid (Below.refl W.heap.size W)
      go_upto_region 8 with (first
        | ((with_reducible refine gate_dst (N := 31) rfl ?_); refine conv_own rfl (N := 31) rfl (ts := 9) (td := 22) (mkB (mnT q) ++ (⟨#[13, 10]⟩ : ByteArray)) rfl ?hx Tryd.underlying9 Tryd.underlying22 Tryd.underlying5 ?hs ?_; (case hx => first | rfl | (go_simp; done) | (go_simp; rfl)); (case hs => rw [← HS1.out]; exact HZ1.out); intro v1 w2 hv hb; rw [← HS1.out] at hv; have HB1 := hid (HB0.out.trans (hb.mono HB0.out.size)); obtain ⟨Ay, cy, rfl⟩ := Kd.V_slice hv; have HV1 := hid (Kd.V_reads' hv); clear hv hb)
        | (go_at_call 23; refine (HP1.out _ HB1.out Ay cy HV1.out.2.2 HV1.out.2.1).mono ?_; rintro e w3 ⟨v2, v3, rfl, ho2, ho3, hb⟩; obtain ⟨B2, d2, rfl⟩ := Kd.R_slice ho2; obtain ⟨B3, d3, rfl⟩ := Kd.R_slice ho3; have HB2 := hid (bA (HB1.out.trans (hb.mono HB1.out.size)) (.cells #[.string x1, .string x2, .slice B2 x3.length d2, .slice B3 x4.length d3] 36)); clear hb ho2 ho3))
      have hn2 := HN2.out
      have hn2t := HN2T.out
      clear HB0 HB1 HV1
      go_upto_region 9 with ((with_reducible refine gate_dst (N := 38) rfl ?_); refine Kd.R_make (Kd.int .u8) _ 5 rfl (N := 38) rfl 22 _ _ rfl (n2 : Int) rfl rfl Tryd.underlying22 (.int .u8 0) 1 info5 rfl (by decide) (by omega) 0 (ok := fun _ => True) (okp := fun _ => True) rfl (fun _ hk => hk) trivial (by omega) (by rw [Int.toNat_natCast]; omega) (Below.refl _ _) (Nat.le_refl _) ?_; intro v5 w5 ho hb hg_ hnew_; clear hg_ hnew_; rw [Int.toNat_natCast] at ho)
      obtain ⟨A5, c5, rfl⟩ := Kd.R_slice ho
      rw [List.length_replicate]
      rw [List.length_replicate] at ho
      have HB5 := hid (HB2.out.trans (hb.mono HB2.out.size))
      have HLO := hid (HB2.out.size)
      have HO := hid (show (Kd.int .u8).R 5 w5 W.heap.size (fun _ => True) (.slice A5 n2 c5) (List.replicate 0 97 ++ List.replicate (n2 - 0) 0) from Kd.R_lower ho HB2.out.size)
      clear ho hb HB2 hn2 hn2t
      go_wp2
      go_loopw [11] (fun i wr => ∃ j : Nat, j ≤ n2 ∧ i = .int .i64 (j : Int) ∧ Hid ((Kd.int .u8).R 5 wr W.heap.size (fun _ => True) (.slice A5 n2 c5) (List.replicate j 97 ++ List.replicate (n2 - j) 0)) ∧ Hid (Below W.heap.size W wr)) (fun i _ => n2 - (intOf i).toNat)
      case atStart => exact ⟨0, Nat.zero_le _, rfl, HO, HB5⟩
      case round =>
        obtain ⟨j, hj, rfl, HR, HBe⟩ := hrel
        clear HO HB5
        by_cases hlt2 : j < n2
        · have hlen : (List.replicate j (97 : Int) ++ List.replicate (n2 - j) 0).length = n2 := by rw [List.length_append, List.length_replicate, List.length_replicate]; omega
          obtain ⟨g, cap, he, hg0, hg1, _⟩ := Kd.R_form HR.out (by rw [hlen]; omega)
          rw [hlen] at he
          injection he with he1 he2 he3
          subst he1 he3
          have hR : (Kd.int .u8).R 5 wr W.heap.size (fun _ => True) (.slice (some ⟨g, 0, none⟩) (List.replicate j (97 : Int) ++ List.replicate (n2 - j) 0).length c5) (List.replicate j (97 : Int) ++ List.replicate (n2 - j) 0) := by rw [hlen]; exact HR.out
          obtain ⟨k0, k1⟩ := Kd.R_cell (enc := Value.int .u8) (h1 := fun _ => rfl) (0 : Int) hR (j : Int) (by omega) (by rw [hlen]; omega)
          have hnx := (Kd.R_put (enc := Value.int .u8) (h1 := fun _ => rfl) hR (j : Int) (97 : Int)).1
          have hse : (List.replicate j (97 : Int) ++ List.replicate (n2 - j) (0 : Int)).set j 97 = List.replicate (j + 1) 97 ++ List.replicate (n2 - (j + 1)) 0 := by
            rw [List.set_append_right _ _ (by rw [List.length_replicate]; exact Nat.le_refl _), List.length_replicate, Nat.sub_self, show n2 - j = n2 - (j + 1) + 1 by omega, List.replicate_succ, List.set_cons_zero, List.replicate_succ', List.append_assoc]; rfl
          rw [hlen, Int.toNat_natCast, hse] at hnx
          have HNX := hid hnx
          rw [Int.toNat_natCast] at k0 k1
          clear hnx hse
          have HBN := hid (HBe.out.setCell (p := ⟨g, j, none⟩) hg0 (.int .u8 97))
          have h1 : (j : Int) < (n2 : Int) := by omega
          clear hR hlen HR hg0 hg1
          go_wp2
          go_roundw
          case rel => exact ⟨j + 1, by omega, by go_num, HNX, HBN⟩
          case measure => first | omega | (simp [intOf]; done) | (simp [intOf]; omega)
        · obtain rfl : n2 = j := by omega
          have hC := (Kd.R_reads' HR.out).2.2
          rw [List.length_append, List.length_replicate, List.length_replicate, Nat.sub_self, Nat.add_zero, List.replicate_zero, List.append_nil] at hC
          have hst : strOfNums (List.replicate n2 97) = mkB (List.replicate n2 97) := by
            refine Pall.ba_ext ?_
            rw [strOfNums_data, List.map_replicate]; rfl
          have hcs : (convert 22 9 (.slice A5 n2 c5)).run Tryd.prog wr = .ok (.string (mkB (List.replicate n2 97))) wr := hst ▸ Kd.C_string (P := Tryd.prog) Tryd.underlying22 Tryd.underlying5 Tryd.underlying9 hC
          have hsz2 : (mkB (List.replicate n2 97)).size ≤ 2100 := by rw [mkB_size, List.length_replicate]; omega
          clear hC hst HR hlt2 HST HL hz hlt hj
          generalize mkB (List.replicate n2 97) = rp at *
          go_upto_region 14 with (first
            | ((with_reducible refine gate_dst (N := 53) rfl ?_); refine conv_own rfl (N := 53) rfl (ts := 9) (td := 22) ((⟨#[71, 69, 84, 32, 47]⟩ : ByteArray) ++ rp ++ (⟨#[32, 72, 84, 84, 80, 47, 49, 46, 49, 13, 10, 72, 111, 115, 116, 58, 32, 97, 13, 10, 13, 10]⟩ : ByteArray)) rfl ?hx Tryd.underlying9 Tryd.underlying22 Tryd.underlying5 ?hs ?_; (case hx => first | rfl | (go_simp; done) | (go_simp; rfl)); (case hs => rw [← HS2.out]; exact HZ2.out); intro v1 w7 hv hb; rw [← HS2.out] at hv; have HB7 := hid (HBe.out.trans (hb.mono HBe.out.size)); obtain ⟨A7, c7, rfl⟩ := Kd.V_slice hv; have HV7 := hid (Kd.V_reads' hv); clear hv hb)
            | (go_at_call 23; refine (HP2.out _ HB7.out A7 c7 HV7.out.2.2 HV7.out.2.1).mono ?_; rintro e w8 ⟨v2, v3, rfl, ho2, ho3, hb⟩; obtain ⟨B2, d2, rfl⟩ := Kd.R_slice ho2; obtain ⟨B3, d3, rfl⟩ := Kd.R_slice ho3; have HB8 := hid (bA (HB7.out.trans (hb.mono HB7.out.size)) (.cells #[.string y1, .string y2, .slice B2 y3.length d2, .slice B3 y4.length d3] 36)); clear hb ho2 ho3))
          have hn3 := HN3.out
          have hn3t := HN3T.out
          clear hcs hsz2 HBe HB7 HV7
          have zD : (mkB (dgL n3)).size ≤ 4 := by rw [mkB_size]; exact hdl
          have zZ : (strOfNums (List.replicate n3 0)).size = n3 := by rw [show (strOfNums (List.replicate n3 0)).size = (strOfNums (List.replicate n3 0)).data.toList.length from rfl, strOfNums_data, List.length_map, List.length_replicate]
          obtain ⟨Z, hZ⟩ : ∃ Z, Z = strOfNums (List.replicate n3 0) := ⟨_, rfl⟩
          obtain ⟨D, hD⟩ : ∃ D, D = mkB (dgL n3) := ⟨_, rfl⟩
          rw [← hZ] at zZ HS3
          rw [← hD] at zD HS3 HDG
          have hr1 : (9223372036854775807 < 41 + D.size) = False := eq_false (by omega)
          have hr2 : (9223372036854775807 < 41 + D.size + 4) = False := eq_false (by omega)
          have hr3 : (9223372036854775807 < 41 + D.size + 4 + Z.size) = False := eq_false (by omega)
          have hcz := fun (W : World) (B : Nat) (h : W.heap[B]? = some (.cells (mkC n3) 5 (0, 0))) => hZ ▸ mk_str n3 W B h
          have hmk := mk_run n3 (by omega)
          have HBN := hid (fun (X : World) => blk_new X (.cells (mkC n3) 5))
          have hcz2 := fun (X : World) => hcz _ _ (HBN.out X)
          have HCZ := hid hcz
          clear hcz
          have hc9 := fun (W : World) => conv_to W s3 HZ3.out
          clear hZ hD zD zZ hdl
          rw [HS3.out] at hc9
          go_upto_region 15 with (fail)
          have HBc := hid HB8.out
          clear HB8 hn3 hn3t hcz2
          refine region_tab (A := ?A) (n := 16) [(61, 0), (62, 1), (63, 2), (64, 3), (65, 4), (66, 5), (67, 6), (68, 7), (69, 8), (70, 9), (60, 10), (71, 11), (72, 12), (15, 13), (16, 15)] (Below W.heap.size W) LeU (T15 W.heap.size n3 D Z s3 z1 z2 z3.length z4.length E3) ?hA (by decide) (by kernel_rfl) (by kernel_rfl) rfl (T15_mono _ _ _ _ _ _ _ _ _ _ _) (bD HBc.out) ?hs ?fin
          case hA =>
            intro f
            simp only [puts, List.setIfInBounds_toArray, List.set_cons_zero, List.set_cons_succ]
            rfl
          case hs =>
            clear HBc
            refine From.cons [] rfl (by kernel_rfl) (fun f w hJ hd K hK => ?_) ?_
            · go_simp
              exact hK.out _ (.int .i64 (n3 : Int)) _ rfl hJ (LeU.refl _) rfl
            refine From.cons [0] rfl (by kernel_rfl) (fun f w hJ hd K hK => ?_) ?_
            · obtain ⟨f, rfl⟩ := openU (show f 0 = (.int .i64 (n3 : Int)) from hd.1)
              have q0 : (updV f 0 (.int .i64 (n3 : Int))) 0 = (.int .i64 (n3 : Int)) := rfl
              go_simp
              go_wp2_with (go_at_call 24; refine (HDG.out _).mono ?_; rintro e w9 ⟨rfl, hb⟩)
              exact hK.out _ (.string D) _ rfl (hJ.trans (hb.mono hJ.size)) (LeU.of_below hb) rfl
            refine From.cons [1] rfl (by kernel_rfl) (fun f w hJ hd K hK => ?_) ?_
            · obtain ⟨f, rfl⟩ := openU (show f 1 = .string D from hd.1)
              have q1 : (updV f 1 (.string D)) 1 = .string D := rfl
              go_simp
              exact hK.out _ (.string ((⟨#[71, 69, 84, 32, 47, 32, 72, 84, 84, 80, 47, 49, 46, 49, 13, 10, 72, 111, 115, 116, 58, 32, 97, 13, 10, 67, 111, 110, 116, 101, 110, 116, 45, 76, 101, 110, 103, 116, 104, 58, 32]⟩ : ByteArray) ++ D)) _ rfl hJ (LeU.refl _) rfl
            refine From.cons [2] rfl (by kernel_rfl) (fun f w hJ hd K hK => ?_) ?_
            · obtain ⟨f, rfl⟩ := openU (show f 2 = .string ((⟨#[71, 69, 84, 32, 47, 32, 72, 84, 84, 80, 47, 49, 46, 49, 13, 10, 72, 111, 115, 116, 58, 32, 97, 13, 10, 67, 111, 110, 116, 101, 110, 116, 45, 76, 101, 110, 103, 116, 104, 58, 32]⟩ : ByteArray) ++ D) from hd.1)
              have q2 : (updV f 2 (.string ((⟨#[71, 69, 84, 32, 47, 32, 72, 84, 84, 80, 47, 49, 46, 49, 13, 10, 72, 111, 115, 116, 58, 32, 97, 13, 10, 67, 111, 110, 116, 101, 110, 116, 45, 76, 101, 110, 103, 116, 104, 58, 32]⟩ : ByteArray) ++ D))) 2 = .string ((⟨#[71, 69, 84, 32, 47, 32, 72, 84, 84, 80, 47, 49, 46, 49, 13, 10, 72, 111, 115, 116, 58, 32, 97, 13, 10, 67, 111, 110, 116, 101, 110, 116, 45, 76, 101, 110, 103, 116, 104, 58, 32]⟩ : ByteArray) ++ D) := rfl
              go_simp
              exact hK.out _ (.string ((⟨#[71, 69, 84, 32, 47, 32, 72, 84, 84, 80, 47, 49, 46, 49, 13, 10, 72, 111, 115, 116, 58, 32, 97, 13, 10, 67, 111, 110, 116, 101, 110, 116, 45, 76, 101, 110, 103, 116, 104, 58, 32]⟩ : ByteArray) ++ D ++ (⟨#[13, 10, 13, 10]⟩ : ByteArray))) _ rfl hJ (LeU.refl _) rfl
            refine From.cons [] rfl (by kernel_rfl) (fun f w hJ hd K hK => ?_) ?_
            · go_simp
              exact hK.out _ (.int .i64 (n3 : Int)) _ rfl hJ (LeU.refl _) rfl
            refine From.cons [4, 4] rfl (by kernel_rfl) (fun f w hJ hd K hK => ?_) ?_
            · obtain ⟨f, rfl⟩ := openU (show f 4 = (.int .i64 (n3 : Int)) from hd.1)
              have q4 : (updV f 4 (.int .i64 (n3 : Int))) 4 = (.int .i64 (n3 : Int)) := rfl
              go_simp
              exact hK.out _ (.slice (some ⟨w.heap.size, 0, none⟩) n3 n3) _ rfl (bA hJ _) (LeU.of_below (bA (Below.refl _ _) _)) ⟨w.heap.size, rfl, blk_new _ _⟩
            refine From.cons [5] rfl (by kernel_rfl) (fun f w hJ hd K hK => ?_) ?_
            · obtain ⟨B, g5, hB⟩ : Mk n3 (f 5) w := hd.1
              obtain ⟨f, rfl⟩ := openU g5
              have hcz6 := HCZ.out w B hB
              have q5 : (updV f 5 (.slice (some ⟨B, 0, none⟩) n3 n3)) 5 = (.slice (some ⟨B, 0, none⟩) n3 n3) := rfl
              go_simp
              exact hK.out _ (.string Z) _ rfl hJ (LeU.refl _) rfl
            refine From.cons [3, 6] rfl (by kernel_rfl) (fun f w hJ hd K hK => ?_) ?_
            · obtain ⟨f, rfl⟩ := openU (show f 3 = .string ((⟨#[71, 69, 84, 32, 47, 32, 72, 84, 84, 80, 47, 49, 46, 49, 13, 10, 72, 111, 115, 116, 58, 32, 97, 13, 10, 67, 111, 110, 116, 101, 110, 116, 45, 76, 101, 110, 103, 116, 104, 58, 32]⟩ : ByteArray) ++ D ++ (⟨#[13, 10, 13, 10]⟩ : ByteArray)) from hd.1)
              obtain ⟨f, rfl⟩ := openU (show f 6 = .string Z from hd.2.1)
              have q6 : (updV (updV f 6 (.string Z)) 3 (.string ((⟨#[71, 69, 84, 32, 47, 32, 72, 84, 84, 80, 47, 49, 46, 49, 13, 10, 72, 111, 115, 116, 58, 32, 97, 13, 10, 67, 111, 110, 116, 101, 110, 116, 45, 76, 101, 110, 103, 116, 104, 58, 32]⟩ : ByteArray) ++ D ++ (⟨#[13, 10, 13, 10]⟩ : ByteArray)))) 6 = .string Z := rfl
              have q3 : (updV (updV f 6 (.string Z)) 3 (.string ((⟨#[71, 69, 84, 32, 47, 32, 72, 84, 84, 80, 47, 49, 46, 49, 13, 10, 72, 111, 115, 116, 58, 32, 97, 13, 10, 67, 111, 110, 116, 101, 110, 116, 45, 76, 101, 110, 103, 116, 104, 58, 32]⟩ : ByteArray) ++ D ++ (⟨#[13, 10, 13, 10]⟩ : ByteArray)))) 3 = .string ((⟨#[71, 69, 84, 32, 47, 32, 72, 84, 84, 80, 47, 49, 46, 49, 13, 10, 72, 111, 115, 116, 58, 32, 97, 13, 10, 67, 111, 110, 116, 101, 110, 116, 45, 76, 101, 110, 103, 116, 104, 58, 32]⟩ : ByteArray) ++ D ++ (⟨#[13, 10, 13, 10]⟩ : ByteArray)) := rfl
              go_simp
              exact hK.out _ _ _ rfl hJ (LeU.refl _) (congrArg Value.string HS3.out.symm)
            refine From.cons [7] rfl (by kernel_rfl) (fun f w hJ hd K hK => ?_) ?_
            · obtain ⟨f, rfl⟩ := openU (show f 7 = .string s3 from hd.1)
              have c8 := conv_to w s3 HZ3.out
              have q7 : (updV f 7 (.string s3)) 7 = .string s3 := rfl
              go_simp
              exact hK.out _ _ _ rfl (hJ.trans ((below_bytes w 5 s3).mono hJ.size)) (LeU.of_below (below_bytes w 5 s3)) (By.new w s3 HZ3.out)
            refine From.cons [8, 1] rfl (by kernel_rfl) (fun f w hJ hd K hK => ?_) ?_
            · obtain ⟨B, c, cs, hdd, g8, hc, hh, hr⟩ : By s3 (f 8) w := hd.1
              obtain ⟨f, rfl⟩ := openU g8
              have q8 : (updV f 8 (.slice (some ⟨B, 0, none⟩) (btsOf s3).length c)) 8 = (.slice (some ⟨B, 0, none⟩) (btsOf s3).length c) := rfl
              go_simp
              go_wp2_with (go_at_call 23; refine (HP3.out _ hJ (some ⟨B, 0, none⟩) c (hr _ rfl) hc).mono ?_; rintro e w9 ⟨v2, v3, rfl, ho2, ho3, hb⟩; obtain ⟨B2, d2, rfl⟩ := Kd.R_slice ho2; obtain ⟨B3, d3, rfl⟩ := Kd.R_slice ho3)
              exact hK.out _ (.tuple #[.agg #[.string z1, .string z2, .slice B2 z3.length d2, .slice B3 z4.length d3], .int .u16 E3]) _ rfl (hJ.trans (hb.mono hJ.size)) (LeU.of_below hb) ⟨B2, d2, B3, d3, rfl⟩
            refine From.cons [9] rfl (by kernel_rfl) (fun f w hJ hd K hK => ?_) ?_
            · obtain ⟨B2, d2, B3, d3, g9⟩ : Rq z1 z2 z3.length z4.length E3 (f 9) := hd.1
              obtain ⟨f, rfl⟩ := openU g9
              have q9 : (updV f 9 (.tuple #[.agg #[.string z1, .string z2, .slice B2 z3.length d2, .slice B3 z4.length d3], .int .u16 E3])) 9 = (.tuple #[.agg #[.string z1, .string z2, .slice B2 z3.length d2, .slice B3 z4.length d3], .int .u16 E3]) := rfl
              go_simp
              exact hK.out _ (.tuple #[.agg #[.string z1, .string z2, .slice B2 z3.length d2, .slice B3 z4.length d3], .int .u16 E3]) _ rfl hJ (LeU.refl _) ⟨B2, d2, B3, d3, rfl⟩
            refine From.cons [10] rfl (by kernel_rfl) (fun f w hJ hd K hK => ?_) ?_
            · obtain ⟨B2, d2, B3, d3, g10⟩ : Rq z1 z2 z3.length z4.length E3 (f 10) := hd.1
              obtain ⟨f, rfl⟩ := openU g10
              have q10 : (updV f 10 (.tuple #[.agg #[.string z1, .string z2, .slice B2 z3.length d2, .slice B3 z4.length d3], .int .u16 E3])) 10 = (.tuple #[.agg #[.string z1, .string z2, .slice B2 z3.length d2, .slice B3 z4.length d3], .int .u16 E3]) := rfl
              go_simp
              exact hK.out _ (.agg #[.string z1, .string z2, .slice B2 z3.length d2, .slice B3 z4.length d3]) _ rfl hJ (LeU.refl _) ⟨B2, d2, B3, d3, rfl⟩
            refine From.cons [10] rfl (by kernel_rfl) (fun f w hJ hd K hK => ?_) ?_
            · obtain ⟨B2, d2, B3, d3, g10⟩ : Rq z1 z2 z3.length z4.length E3 (f 10) := hd.1
              obtain ⟨f, rfl⟩ := openU g10
              have q10 : (updV f 10 (.tuple #[.agg #[.string z1, .string z2, .slice B2 z3.length d2, .slice B3 z4.length d3], .int .u16 E3])) 10 = (.tuple #[.agg #[.string z1, .string z2, .slice B2 z3.length d2, .slice B3 z4.length d3], .int .u16 E3]) := rfl
              go_simp
              exact hK.out _ (.int .u16 E3) _ rfl hJ (LeU.refl _) rfl
            refine From.cons [] rfl (by kernel_rfl) (fun f w hJ hd K hK => ?_) ?_
            · go_simp
              exact hK.out _ (.pointer (some ⟨w.heap.size, 0, none⟩)) _ rfl (bA hJ _) (LeU.of_below (bA (Below.refl _ _) _)) ⟨w.heap.size, _, rfl, hJ.size, rfl, blk_new _ _⟩
            refine From.cons [13, 11, 9, 0, 1, 2, 3, 4, 5, 6, 7, 8, 9, 10, 11, 13] rfl (by kernel_rfl) (fun f w hJ hd K hK => ?_) ?_
            · obtain ⟨b, cs, g13, hbase, hsz4, hbx⟩ : Bx W.heap.size (f 13) w := hd.1
              obtain ⟨B2, d2, B3, d3, g11⟩ : Rg z1 z2 z3.length z4.length (f 11) := hd.2.1
              clear hd
              obtain ⟨f, rfl⟩ := openU g13
              obtain ⟨f, rfl⟩ := openU (show f 11 = (.agg #[.string z1, .string z2, .slice B2 z3.length d2, .slice B3 z4.length d3]) from g11)
              have q13 : (updV (updV f 11 (.agg #[.string z1, .string z2, .slice B2 z3.length d2, .slice B3 z4.length d3])) 13 (.pointer (some ⟨b, 0, none⟩))) 13 = (.pointer (some ⟨b, 0, none⟩)) := rfl
              have q11 : (updV (updV f 11 (.agg #[.string z1, .string z2, .slice B2 z3.length d2, .slice B3 z4.length d3])) 13 (.pointer (some ⟨b, 0, none⟩))) 11 = (.agg #[.string z1, .string z2, .slice B2 z3.length d2, .slice B3 z4.length d3]) := rfl
              have k0 := (blk_cell hbx 0).trans (Array.getElem?_eq_getElem (by omega : 0 < cs.size))
              have k1 := (blk_cell hbx 1).trans (Array.getElem?_eq_getElem (by omega : 1 < cs.size))
              have k2 := (blk_cell hbx 2).trans (Array.getElem?_eq_getElem (by omega : 2 < cs.size))
              have k3 := (blk_cell hbx 3).trans (Array.getElem?_eq_getElem (by omega : 3 < cs.size))
              have j0 := blk_frozen hbx 0
              have j1 := blk_frozen hbx 1
              have j2 := blk_frozen hbx 2
              have j3 := blk_frozen hbx 3
              go_simp
              exact hK.out _ undef _ rfl ((((hJ.setCell (p := ⟨b, 0, none⟩) hbase _).setCell (p := ⟨b, 1, none⟩) hbase _).setCell (p := ⟨b, 2, none⟩) hbase _).setCell (p := ⟨b, 3, none⟩) hbase _) (LeU.set4 hbx hsz4 _ _ _ _) trivial
            refine From.cons [12, 14, 0, 1, 2, 3, 4, 5, 6, 7, 8, 9, 10, 11, 12, 13, 14] rfl (by kernel_rfl) (fun f w hJ hd K hK => ?_) ?_
            · obtain ⟨f, rfl⟩ := openU (show f 12 = (.int .u16 E3) from hd.1)
              have q12 : (updV f 12 (.int .u16 E3)) 12 = (.int .u16 E3) := rfl
              go_simp
              exact hK.out _ (.int .u16 E3) _ rfl hJ (LeU.refl _) rfl
            exact From.nil (by kernel_rfl)
          case fin =>
            intro f w hJ hf
            obtain ⟨f, rfl⟩ := openU (show f 15 = (.int .u16 E3) from hf 15 (by decide))
            have q15 : (updV f 15 (.int .u16 E3)) 15 = (.int .u16 E3) := rfl
            clear hf
            rcases HE1.out with ⟨rfl, b1⟩ | ⟨rfl, b1⟩ <;> rcases HE2.out with ⟨rfl, b2⟩ | ⟨rfl, b2⟩ <;> rcases HE3.out with ⟨rfl, b3⟩ | ⟨rfl, b3⟩
            all_goals
              go_wp2_with (go_at_call 16; refine (HK.out _ hJ).mono ?_; rintro e w9 ⟨rfl, hb⟩)
              go_ret
              exact ⟨rfl, hJ.trans (hb.mono hJ.size)⟩
end Go.Proofs.YtpfbemcoblganaaDoor.httpMost
namespace Go.Proofs.YtpfbemcoblganaaDoor.httpMost
open Go.ChangeShapes Go.WideShapes Go.ChangeAt Go.RowKit Go.Proofs.YtpfbemcoblganaaDoorW Go.Proofs.YtpfbemcoblganaaDoorW.PrintWords Go.Proofs.YtpfbemcoblganaaDoor.Pall
open Go.ChangeMaps (open_string shut_string)
set_option linter.unusedVariables false
theorem own : ownKnob Tryd.prog.godebug = none := by kernel_rfl
theorem laidOut : laidOutB Tryd.prog = true := by kernel_rfl
set_option maxRecDepth 100000 in
theorem lifted (os : Os) (started : os.Started) (H : Type) (enc : TypeId × Value → H) :
    ReturnsInHanded {} Tryd.checked os 5 .any (fun w args => (Rows.httpMostSpec.pre enc Tryd.prog Tryd.f5 [] false w args ∧ laidMetH Tryd.prog Rows.httpMostRow.laid w) ∧ sizedMet enc Tryd.prog Tryd.f5 (OpenSpec.ofChange Rows.httpMostSpec) false w args)
      (Rows.httpMostSpec.post enc Tryd.prog Tryd.f5 false true false false) := by
  refine law_lifted (C := Tryd.checked) (rt := 4) (L := Rows.httpMostRow.laid) own started (by kernel_rfl) Tryd.func5 laidOut (by kernel_rfl) rfl rfl (by rfl) Tryd.underlying4 ?_ (ChangeSpec.witness_shaped (enc := enc) (C := Tryd.checked) (os := os) (X := fun w _ => laidMetH Tryd.prog Rows.httpMostRow.laid w) false (World.laidAll Tryd.prog os Rows.httpMostRow.laid) #[.int .u8 0, .int .u16 0] 8 (World.laidAll_os _ _ _)
    (World.shaped_of_ZipB (by kernel_rfl) (by kernel_rfl)) (by kernel_rfl) (by kernel_rfl) (by kernel_rfl) (by rw [MakeChecks.laidMetH_plain _ _ _ (by kernel_rfl)]; exact laidMet_laidAll _ (by kernel_rfl) (by kernel_rfl))) ?_
  · intro ds hds
    have hds : ds.length = 2 := hds
    match ds, hds with
    | [_, _], _ => rfl
  intro W base args ds ps hval0 hA0 hsz0 hL hsh
  have hS : Sh W := cell_of_shapedOpen_int' hsh
  have hval : ∀ (j : Nat) t v, Tryd.f5.params[j]? = some t → args[j]? = some v → Value.okWide Tryd.prog W .any base t v := hval0
  have hA : DataW.TrodAll enc Tryd.prog W 0 (fun _ => true) true Tryd.f5.params.toList args.toList ds ps := hA0
  have hsz : (DataW.weightsEach Tryd.prog Tryd.f5.params.toList ds).all (· ≤ reachBytes) = true := hsz0
  rw [Tryd.params5] at hA hval hsz
  obtain ⟨v0, vs0, d0, ds0, p0, q0, hargs, rfl, rfl, h0, r0⟩ := trodAll_cons hA
  obtain ⟨v1, vs1, d1, ds1, p1, q1, rfl, rfl, rfl, h1, r1⟩ := trodAll_cons r0
  obtain ⟨rfl, rfl, rfl⟩ := trodAll_nil r1
  obtain rfl : args = #[v0, v1] := by cases args; simp_all
  obtain ⟨a0, rfl, rfl, rfl, w0⟩ := open_int Tryd.underlying5 (hval 0 5 v0 rfl rfl) h0
  obtain ⟨a1, rfl, rfl, rfl, w1⟩ := open_int Tryd.underlying23 (hval 1 23 v1 rfl rfl) h1
  exact walk a0 w0 a1 w1 W rfl hS
theorem over : Rows.httpMostRow.holds Tryd.pinned (OpenSpec.ofChange Rows.httpMostSpec) :=
  OpenClaim.holds_of_wide 5 Tryd.f5 rfl rfl rfl rfl rfl rfl rfl ⟨rfl, rfl, rfl, rfl, rfl⟩ rfl rfl rfl rfl rfl (by kernel_rfl) Tryd.func5 (by kernel_rfl)
    (of_decide_eq_true (by kernel_rfl)) (by unfold Func.isWrapper; rw [if_neg (of_decide_eq_false (by kernel_rfl))]; exact ⟨rfl, rfl⟩)
    (fun os started H enc _ => lifted os started H enc)
theorem said : Rows.HttpMostSaid := over
theorem card : Rows.HttpMostCardSaid :=
  Claim7.holds_tied_plain_at .later [] [.data, .pinned] true (true, "79a6d220dc140684a9dab3eb2f9ce24deda1b71e26dfa61c675eb49a4432bf09") true said (fun _ h => by cases h) (by kernel_rfl) (fun _ h => by cases h) httpMost_row_tie rfl ⟨rfl, rfl⟩ (by kernel_rfl) rfl
    (fun f fn hf hfn => by
      obtain rfl : f = 5 := Option.some.inj ((show Tryd.prog.funcNamed "wicketman/wicketmanlaw09.HttpMost" = some 5 by kernel_rfl).symm.trans hf) |>.symm
      obtain rfl : fn = Tryd.f5 := (Option.some.inj (Tryd.func5.symm.trans hfn)).symm
      exact ⟨by kernel_rfl, fun j t ht => by
        rw [Tryd.params5] at ht
        have hm : t ∈ [5, 23] := by simpa using Array.mem_of_getElem? ht
        have hall : ([5, 23].all fun u => !Tryd.prog.wantsStandIn u) = true := by kernel_rfl
        exact (show Tryd.prog.wantsStandIn t = false by simpa using List.all_eq_true.1 hall t hm)⟩)
    (by kernel_rfl)
#print axioms card
end Go.Proofs.YtpfbemcoblganaaDoor.httpMost
namespace Go.Proofs.YtpfbemcoblganaaDoor
/-- The card, under a short name, for the claim. -/
theorem httpMost_card : Rows.HttpMostCardSaid := httpMost.card
end Go.Proofs.YtpfbemcoblganaaDoor

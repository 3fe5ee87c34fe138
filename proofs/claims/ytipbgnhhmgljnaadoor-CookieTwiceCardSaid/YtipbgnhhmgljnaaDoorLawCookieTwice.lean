/-
  CookieTwice: for every choices the law returns true.
-/
import Derived.Test.YtipbgnhhmgljnaaDoorP11
import Derived.Test.YtipbgnhhmgljnaaDoorRow
import Derived.Test.YtipbgnhhmgljnaaDoorTie
import Derived.Test.YtipbgnhhmgljnaaDoorCards
import Derived.Test.YtipbgnhhmgljnaaDoorPall13
namespace Go.Proofs.YtipbgnhhmgljnaaDoor.cookieTwice
open Go.RowKit Go.Proofs.YtipbgnhhmgljnaaDoor.Pall Go.Proofs.YtipbgnhhmgljnaaDoor.Split Go.Proofs.YtipbgnhhmgljnaaDoor.Pl Go.Proofs.YtipbgnhhmgljnaaDoorW.PrintWords
set_option linter.unusedVariables false
set_option linter.unusedSimpArgs false
def xP (n : Int) : List UInt8 × List UInt8 := ([120], hexL n.toNat)
def midP (n : Int) : List UInt8 := pcL (xP n) ++ [59, 32]
theorem xP_good (n : Int) (h : 0 ≤ n ∧ n ≤ 255) : goodP (xP n) ∧ mkS (xP n).1 ≠ nameB := by
  refine ⟨⟨show tokL [120] = true by decide +kernel, hexL_oct _ (by omega)⟩, ?_⟩
  show mkS [120] ≠ nameB
  intro e
  have := congrArg ByteArray.size e
  exact absurd this (by decide)
theorem mk_cat (a b : List UInt8) : mkS a ++ mkS b = mkS (a ++ b) := Split.ba_ext (by simp [mkS])
/-- the session's, ahead of others -/
def one (n : Nat) : List UInt8 := pcL (nameL, hexL n)
theorem one_cat (n : Nat) : (⟨#[95, 95, 72, 111, 115, 116, 45, 105, 100, 61]⟩ : ByteArray) ++ mkS (hexL n) = mkS (one n) := Split.ba_ext (by simp [mkS, one, pcL, nameL])
theorem mid_join (l : List Int) (n : Nat) : l.flatMap midP ++ one n = joinS ((l.map xP).map pcL ++ [one n]) := by
  have h := join_ends (fun n => pcL (xP n)) l (one n)
  rw [List.map_map]
  exact h.symm
theorem fine (l : List Int) (hb : ∀ x ∈ l, 0 ≤ x ∧ x ≤ 255) (n : Nat) (hn : n < 65536) : sessS [mkS (l.flatMap midP ++ one n)] = (mkS (hexL n), true) := by
  rw [mid_join]
  exact sess_single (l.map xP) (fun p hp => by obtain ⟨x, hx, rfl⟩ := List.mem_map.1 hp; exact xP_good x (hb x hx)) _ (hexL_oct n hn)
theorem parse_one1 (n : Nat) (hn : n < 65536) : parseS (mkS (one n)) = ([⟨mkS nameL, mkS (hexL n)⟩], true) := by
  have h := parse_good [(nameL, hexL n)] (by simp) (fun p hp => by rw [List.mem_singleton.1 hp]; exact ⟨show tokL nameL = true by decide +kernel, hexL_oct n hn⟩)
  exact h
theorem parse_mid (l : List Int) (hb : ∀ x ∈ l, 0 ≤ x ∧ x ≤ 255) (n : Nat) (hn : n < 65536) : parseS (mkS (l.flatMap midP ++ one n)) = ((l.map xP).map (fun p => ⟨mkS p.1, mkS p.2⟩) ++ [⟨mkS nameL, mkS (hexL n)⟩], true) := by
  rw [mid_join]
  have h := parse_good (l.map xP ++ [(nameL, hexL n)]) (by simp) (fun p hp => by
    rcases List.mem_append.1 hp with h | h
    · obtain ⟨x, hx, rfl⟩ := List.mem_map.1 h; exact (xP_good x (hb x hx)).1
    · rw [List.mem_singleton.1 h]; exact ⟨show tokL nameL = true by decide +kernel, hexL_oct n hn⟩)
  rw [List.map_append, List.map_append] at h
  exact h
theorem two_apart (l : List Int) (hb : ∀ x ∈ l, 0 ≤ x ∧ x ≤ 255) (a b : Nat) (ha : a < 65536) (hb2 : b < 65536) : sessS [mkS (one a), mkS (l.flatMap midP ++ one b)] = (⟨#[]⟩, false) := by
  apply sess_two _ (0, ⟨#[]⟩)
  rw [List.foldl_cons, List.foldl_cons, List.foldl_nil]
  unfold sessF
  rw [parse_one1 a ha, parse_mid l hb b hb2, List.foldl_append, sess_others (l.map xP) (fun p hp => by obtain ⟨x, hx, rfl⟩ := List.mem_map.1 hp; exact (xP_good x (hb x hx)).2)]
  simp only [List.map_cons, List.map_nil, List.foldl_cons, List.foldl_nil, sess_name]
  decide
theorem two_one (l : List Int) (hb : ∀ x ∈ l, 0 ≤ x ∧ x ≤ 255) (a b : Nat) (ha : a < 65536) (hb2 : b < 65536) : sessS [mkS (one a ++ 59 :: 32 :: (l.flatMap midP ++ one b))] = (⟨#[]⟩, false) := by
  apply sess_two _ (0, ⟨#[]⟩)
  have h := parse_good ((nameL, hexL a) :: (l.map xP ++ [(nameL, hexL b)])) (by simp) (fun p hp => by
    rcases List.mem_cons.1 hp with rfl | hp
    · exact ⟨show tokL nameL = true by decide +kernel, hexL_oct a ha⟩
    rcases List.mem_append.1 hp with h | h
    · obtain ⟨x, hx, rfl⟩ := List.mem_map.1 h; exact (xP_good x (hb x hx)).1
    · rw [List.mem_singleton.1 h]; exact ⟨show tokL nameL = true by decide +kernel, hexL_oct b hb2⟩)
  have e : joinS (((nameL, hexL a) :: (l.map xP ++ [(nameL, hexL b)])).map pcL) = one a ++ 59 :: 32 :: (l.flatMap midP ++ one b) := by
    rw [List.map_cons, join_cons _ _ (by simp), List.map_append, mid_join]; rfl
  rw [e] at h
  rw [List.foldl_cons, List.foldl_nil]
  unfold sessF
  rw [h, List.map_cons, List.foldl_cons, List.map_append, List.foldl_append, sess_others (l.map xP) (fun p hp => by obtain ⟨x, hx, rfl⟩ := List.mem_map.1 hp; exact (xP_good x (hb x hx)).2)]
  simp only [List.map_cons, List.map_nil, List.foldl_cons, List.foldl_nil, sess_name]
  decide
theorem bad_one (l : List Int) (n : Nat) : sessS [mkS (l.flatMap midP ++ one n), (⟨#[97, 32, 98, 61, 49]⟩ : ByteArray)] = (⟨#[]⟩, false) :=
  sess_bad _ _ (by simp) (show (parseS (⟨#[97, 32, 98, 61, 49]⟩ : ByteArray)).2 = false by decide +kernel)
theorem mid_size (l : List Int) : (l.flatMap midP).length ≤ 8 * l.length := flat_le midP 8 l (fun x _ => by simp [midP, pcL, xP, hexL])
theorem one_size (n : Nat) : (one n).length = 14 := by simp [one, pcL, nameL, hexL]
theorem plain (l : List Int) (a b : Nat) (apart bad : Bool) (hb : ∀ x ∈ l, 0 ≤ x ∧ x ≤ 255) (hl : l.length ≤ 9223372036854775806) (ha : a < 65536) (hb2 : b < 65536) :
    Ev (fun k => wicketmanlaw11_CookieTwice.f k l (a : Int) (b : Int) apart bad) true := by
  have hs : ∀ l : List UInt8, (mkS l).size = l.length := mkS_size
  have s1 : (⟨#[95, 95, 72, 111, 115, 116, 45, 105, 100, 61]⟩ : ByteArray).size = 10 := rfl
  have hx4 : ∀ n, (mkS (hexL n)).size = 4 := fun n => by rw [hs]; rfl
  refine Ev.congr (f := fun k => wicketmanlaw11_CookieTwice.l0 k l (a : Int) apart bad (mkS (one a)) (mkS (one b)) (⟨#[]⟩ : ByteArray) ((0 : Nat) : Int)) (fun k => ?_) ?_
  · unfold wicketmanlaw11_CookieTwice.f
    rw [hex_f a ha, hex_f b hb2]
    simp only [Option.bind_some]
    rw [if_pos (by rw [hx4]; omega), if_pos (by rw [hx4]; omega), one_cat, one_cat]
    rfl
  refine ev_build (fun k s i => wicketmanlaw11_CookieTwice.l0 k l (a : Int) apart bad (mkS (one a)) (mkS (one b)) s (i : Nat)) (fun k s => wicketmanlaw11_CookieTwice.j1 k (a : Int) apart bad (mkS (one a)) (mkS (one b)) s) l 6 8 midP (fun x _ => by simp [midP, pcL, xP, hexL]) ?_ ?_ ?_
  · intro k s i hi h6 hsz
    have hx := hb _ (getD_mem0 l 0 hi)
    simp only [wicketmanlaw11_CookieTwice.l0]
    have e0 : IntKind.u16.wrap (rd l (i : Nat)) = (((l.getD i 0).toNat : Nat) : Int) := by rw [rd_at, IntKind.wrap_u16]; omega
    rw [if_pos (by omega), if_pos (by omega), if_pos (by omega), if_pos (by omega), e0, hex_f _ (by omega)]
    simp only [Option.bind_some]
    rw [if_pos (by rw [ByteArray.size_append, hx4]; show s.size + 2 + 4 ≤ _; omega), if_pos (by rw [ByteArray.size_append, ByteArray.size_append, hx4]; show s.size + 2 + 4 + 2 ≤ _; omega), wrap_id (by omega) (by omega)]
    have e : s ++ (⟨#[120, 61]⟩ : ByteArray) ++ mkS (hexL (l.getD i 0).toNat) ++ (⟨#[59, 32]⟩ : ByteArray) = s ++ mkB (midP (l.getD i 0)) := Split.ba_ext (by simp [mkS, mkB, midP, pcL, xP])
    rw [e]; rfl
  · intro k s i hil hi hstop hsz
    simp only [wicketmanlaw11_CookieTwice.l0]
    by_cases h : (i : Int) < (l.length : Int)
    · rw [if_pos h, if_neg (by omega)]
    · rw [if_neg h]
  have hm := mid_size (l.take 6)
  rw [List.length_take] at hm
  have hbt : ∀ x ∈ l.take 6, 0 ≤ x ∧ x ≤ 255 := fun x hx => hb x (List.mem_of_mem_take hx)
  have t1 := two_one (l.take 6) hbt a b ha hb2
  have t2 := two_apart (l.take 6) hbt a b ha hb2
  have t3 := bad_one (l.take 6) a
  have t4 := fine (l.take 6) hbt a ha
  show Ev (fun k => wicketmanlaw11_CookieTwice.j1 k (a : Int) apart bad (mkS (one a)) (mkS (one b)) (mkS ((l.take 6).flatMap midP))) true
  generalize (l.take 6).flatMap midP = m at *
  have s14 := one_size
  have e1 : mkS (one a) ++ (⟨#[59, 32]⟩ : ByteArray) ++ mkS m ++ mkS (one b) = mkS (one a ++ 59 :: 32 :: (m ++ one b)) := Split.ba_ext (by simp [mkS])
  have z1 : (mkS (one a ++ 59 :: 32 :: (m ++ one b))).size ≤ 1000000 := by rw [hs]; simp [s14]; omega
  have z2 : (mkS (m ++ one a)).size ≤ 1000000 := by rw [hs]; simp [s14]; omega
  have z3 : (mkS (m ++ one b)).size ≤ 1000000 := by rw [hs]; simp [s14]; omega
  have z4 : (mkS (one a)).size ≤ 1000000 := by rw [hs]; simp [s14]
  refine Ev.step (f := fun k => if apart = true then wicketmanlaw11_CookieTwice.j2 k (a : Int) bad (mkS (one a)) (mkS m) [mkS (one a), mkS (m ++ one b)] else wicketmanlaw11_CookieTwice.j2 k (a : Int) bad (mkS (one a)) (mkS m) [mkS (one a ++ 59 :: 32 :: (m ++ one b))]) (fun k => ?_) ?_
  · simp only [wicketmanlaw11_CookieTwice.j1]
    rw [e1, mk_cat, if_pos (by rw [hs, s14]; omega), if_pos (by simp only [ByteArray.size_append, hs, s14]; show 14 + 2 + _ ≤ _; omega), if_pos (by simp only [ByteArray.size_append, hs, s14]; show 14 + 2 + _ + _ ≤ _; omega)]
    cases apart with
    | true => rw [if_pos rfl, if_pos rfl, if_pos (by rw [hs, hs, s14]; omega)]
    | false => rw [if_neg (by decide), if_neg (by decide)]
  have j3 : ∀ vs, cookie_Session.f vs = some (⟨#[]⟩, false) → Ev (fun k => wicketmanlaw11_CookieTwice.j3 k (a : Int) (mkS (one a)) (mkS m) vs) true := by
    intro vs hvs
    refine Ev.step (f := fun _ => some true) (fun k => ?_) (Ev.now _)
    simp only [wicketmanlaw11_CookieTwice.j3]
    rw [hvs, mk_cat, session_f [mkS (m ++ one a)] (by simp) (by intro v hv; rw [List.mem_singleton.1 hv]; exact z2), t4, known11_true, hex_f a ha]
    simp only [Option.bind_some]
    rw [if_pos (by rw [hs, hs, s14]; omega), if_pos trivial, if_neg (by decide), if_pos (by rw [ByteArray.toList_eq]), if_pos trivial]
    simp
  have j2 : ∀ vs, cookie_Session.f vs = some (⟨#[]⟩, false) → Ev (fun k => wicketmanlaw11_CookieTwice.j2 k (a : Int) bad (mkS (one a)) (mkS m) vs) true := by
    intro vs hvs
    cases bad with
    | false =>
      refine Ev.step (fun k => ?_) (j3 vs hvs)
      simp only [wicketmanlaw11_CookieTwice.j2]; rw [if_neg (by decide)]
    | true =>
      refine Ev.step (fun k => ?_) (j3 [mkS (m ++ one a), (⟨#[97, 32, 98, 61, 49]⟩ : ByteArray)] ?_)
      · simp only [wicketmanlaw11_CookieTwice.j2]; rw [if_pos trivial, mk_cat, if_pos (by rw [hs, hs, s14]; omega)]
      · rw [session_f _ (by simp) (by intro v hv; simp at hv; rcases hv with rfl | rfl; exact z2; exact (by decide)), t3]
  cases apart with
  | true =>
    simp only [if_true]
    exact j2 _ (by rw [session_f _ (by simp) (by intro v hv; simp at hv; rcases hv with rfl | rfl; exact z4; exact z3), t2])
  | false =>
    simp only [Bool.false_eq_true, if_false]
    exact j2 _ (by rw [session_f _ (by simp) (by intro v hv; rw [List.mem_singleton.1 hv]; exact z1), t1])
theorem walk (A0 : Option Addr) (c0 : Nat) (l0 : List Int) {W : World} (hr0 : Kd.C (Kd.int .u8) W A0 l0.length l0) (hc0 : l0.length ≤ c0) (hw0 : ∀ x ∈ l0, (Lit.int .u8 x).wf = true) (y0 : l0.length ≤ 140737488351232)
    (a1 : Int) (w1 : (Lit.int .u16 a1).wf = true) (a2 : Int) (w2 : (Lit.int .u16 a2).wf = true) (a3 a4 : Bool) (W' : World) (e : W' = W) (hS : Sh W) :
    Calls Tryd.prog 4 #[.slice A0 l0.length c0, .int .u16 a1, .int .u16 a2, .bool a3, .bool a4] W fun e W' => e = .returned (.bool true) ∧ Below W.heap.size W W' := by
  simp [Lit.wf, IntKind.min, IntKind.max, IntKind.signed, IntKind.bits] at w1 w2
  obtain ⟨n1, rfl⟩ := Int.eq_ofNat_of_zero_le w1.1
  obtain ⟨n2, rfl⟩ := Int.eq_ofNat_of_zero_le w2.1
  obtain ⟨k, hk⟩ := (plain l0 n1 n2 a3 a4 (u8s_of_wf hw0) (by omega) (by omega) (by omega)).rounds
  exact wicketmanlaw11_CookieTwice.calls k A0 c0 l0 n1 n2 a3 a4 true W hr0 hc0 hS (Aside0.mk rfl) hk
end Go.Proofs.YtipbgnhhmgljnaaDoor.cookieTwice
namespace Go.Proofs.YtipbgnhhmgljnaaDoor.cookieTwice
open Go.ChangeShapes Go.WideShapes Go.ChangeAt Go.RowKit Go.Proofs.YtipbgnhhmgljnaaDoorW Go.Proofs.YtipbgnhhmgljnaaDoorW.PrintWords Go.Proofs.YtipbgnhhmgljnaaDoor.Pall
open Go.ChangeMaps (open_string shut_string)
set_option linter.unusedVariables false
theorem own : ownKnob Tryd.prog.godebug = none := by kernel_rfl
theorem laidOut : laidOutB Tryd.prog = true := by kernel_rfl
set_option maxRecDepth 100000 in
theorem lifted (os : Os) (started : os.Started) (H : Type) (enc : TypeId × Value → H) :
    ReturnsInHanded {} Tryd.checked os 4 .any (fun w args => (Rows.cookieTwiceSpec.pre enc Tryd.prog Tryd.f4 [] false w args ∧ laidMetH Tryd.prog Rows.cookieTwiceRow.laid w) ∧ sizedMet enc Tryd.prog Tryd.f4 (OpenSpec.ofChange Rows.cookieTwiceSpec) false w args)
      (Rows.cookieTwiceSpec.post enc Tryd.prog Tryd.f4 false true false false) := by
  refine law_lifted (C := Tryd.checked) (rt := 4) (L := Rows.cookieTwiceRow.laid) own started (by kernel_rfl) Tryd.func4 laidOut (by kernel_rfl) rfl rfl (by rfl) Tryd.underlying4 ?_ (ChangeSpec.witness_shaped (enc := enc) (C := Tryd.checked) (os := os) (X := fun w _ => laidMetH Tryd.prog Rows.cookieTwiceRow.laid w) false (World.laidAll Tryd.prog os Rows.cookieTwiceRow.laid) #[.slice none 0 0, .int .u16 0, .int .u16 0, .bool false, .bool false] 8 (World.laidAll_os _ _ _)
    (World.shaped_of_ZipB (by kernel_rfl) (by kernel_rfl)) (by kernel_rfl) (by kernel_rfl) (by kernel_rfl) (by rw [MakeChecks.laidMetH_plain _ _ _ (by kernel_rfl)]; exact laidMet_laidAll _ (by kernel_rfl) (by kernel_rfl))) ?_
  · intro ds hds
    have hds : ds.length = 5 := hds
    match ds, hds with
    | [_, _, _, _, _], _ => rfl
  intro W base args ds ps hval0 hA0 hsz0 hL hsh
  have hS : Sh W := sh_of hsh hL (by kernel_rfl) 2 rfl
  have hval : ∀ (j : Nat) t v, Tryd.f4.params[j]? = some t → args[j]? = some v → Value.okWide Tryd.prog W .any base t v := hval0
  have hA : DataW.TrodAll enc Tryd.prog W 0 (fun _ => true) true Tryd.f4.params.toList args.toList ds ps := hA0
  have hsz : (DataW.weightsEach Tryd.prog Tryd.f4.params.toList ds).all (· ≤ reachBytes) = true := hsz0
  rw [Tryd.params4] at hA hval hsz
  obtain ⟨v0, vs0, d0, ds0, p0, q0, hargs, rfl, rfl, h0, r0⟩ := trodAll_cons hA
  obtain ⟨v1, vs1, d1, ds1, p1, q1, rfl, rfl, rfl, h1, r1⟩ := trodAll_cons r0
  obtain ⟨v2, vs2, d2, ds2, p2, q2, rfl, rfl, rfl, h2, r2⟩ := trodAll_cons r1
  obtain ⟨v3, vs3, d3, ds3, p3, q3, rfl, rfl, rfl, h3, r3⟩ := trodAll_cons r2
  obtain ⟨v4, vs4, d4, ds4, p4, q4, rfl, rfl, rfl, h4, r4⟩ := trodAll_cons r3
  obtain ⟨rfl, rfl, rfl⟩ := trodAll_nil r4
  obtain rfl : args = #[v0, v1, v2, v3, v4] := by cases args; simp_all
  obtain ⟨A0, len0, cap0, rfl⟩ := okWide_slice Tryd.underlying23 (hval 0 23 v0 rfl rfl)
  obtain ⟨z0, w0⟩ := ints_row Tryd.underlying23 Tryd.underlying5 (by kernel_rfl) h0
  have y0 : len0 * 1 ≤ 140737488351232 := PrintWords.sized_ints hsz (j := 0) (t := 23) rfl rfl Tryd.underlying23 Tryd.underlying5 (by kernel_rfl) (by kernel_rfl) h0
  obtain ⟨l0, rfl, hr0, hm0, hw0, hc0⟩ := ReadsInt.ofRowC w0
  obtain ⟨a1, rfl, rfl, rfl, w1⟩ := open_int Tryd.underlying29 (hval 1 29 v1 rfl rfl) h1
  obtain ⟨a2, rfl, rfl, rfl, w2⟩ := open_int Tryd.underlying29 (hval 2 29 v2 rfl rfl) h2
  obtain ⟨a3, rfl, rfl, rfl⟩ := open_bool Tryd.underlying4 (hval 3 4 v3 rfl rfl) h3
  obtain ⟨a4, rfl, rfl, rfl⟩ := open_bool Tryd.underlying4 (hval 4 4 v4 rfl rfl) h4
  exact walk A0 cap0 l0 (Kd.C_of_reads (d := (0 : Int)) (h1 := fun _ => rfl) hr0) hc0 hw0 (by omega) a1 w1 a2 w2 a3 a4 W rfl hS
theorem over : Rows.cookieTwiceRow.holds Tryd.pinned (OpenSpec.ofChange Rows.cookieTwiceSpec) :=
  OpenClaim.holds_of_wide 4 Tryd.f4 rfl rfl rfl rfl rfl rfl rfl ⟨rfl, rfl, rfl, rfl, rfl⟩ rfl rfl rfl rfl rfl (by kernel_rfl) Tryd.func4 (by kernel_rfl)
    (of_decide_eq_true (by kernel_rfl)) (by unfold Func.isWrapper; rw [if_neg (of_decide_eq_false (by kernel_rfl))]; exact ⟨rfl, rfl⟩)
    (fun os started H enc _ => lifted os started H enc)
theorem said : Rows.CookieTwiceSaid := over
theorem card : Rows.CookieTwiceCardSaid :=
  Claim7.holds_tied_plain_at .later [] [.data, .data, .data, .data, .pinned] true (true, "82b5f123bb936d0beffd2142160fa2ce6c33d3fa771e2f017819932a8649ff2e") false said (fun _ h => by cases h) (by kernel_rfl) (fun _ h => by cases h) cookieTwice_row_tie rfl ⟨rfl, rfl⟩ (by kernel_rfl) rfl
    (fun f fn hf hfn => by
      obtain rfl : f = 4 := Option.some.inj ((show Tryd.prog.funcNamed "wicketman/wicketmanlaw11.CookieTwice" = some 4 by kernel_rfl).symm.trans hf) |>.symm
      obtain rfl : fn = Tryd.f4 := (Option.some.inj (Tryd.func4.symm.trans hfn)).symm
      exact ⟨by kernel_rfl, fun j t ht => by
        rw [Tryd.params4] at ht
        have hm : t ∈ [23, 29, 29, 4, 4] := by simpa using Array.mem_of_getElem? ht
        have hall : ([23, 29, 29, 4, 4].all fun u => !Tryd.prog.wantsStandIn u) = true := by kernel_rfl
        exact (show Tryd.prog.wantsStandIn t = false by simpa using List.all_eq_true.1 hall t hm)⟩)
    (by kernel_rfl)
#print axioms card
end Go.Proofs.YtipbgnhhmgljnaaDoor.cookieTwice
namespace Go.Proofs.YtipbgnhhmgljnaaDoor
/-- The card, under a short name, for the claim. -/
theorem cookieTwice_card : Rows.CookieTwiceCardSaid := cookieTwice.card
end Go.Proofs.YtipbgnhhmgljnaaDoor


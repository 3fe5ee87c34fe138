/-
From one world to another: rows stay, whatever mark they get; boxes of one type may change.
gate.Answer: what is no request, or asks nothing, is answered by a page of a status alone.
-/
import Derived.Test.YthdiiiopjkaifaaGreatDoorZdReal
import Derived.Test.YthdiiiopjkaifaaGreatDoorZdInv
import Derived.Test.YthdiiiopjkaifaaGreatDoorZdPall0
import Derived.Test.YthdiiiopjkaifaaGreatDoorZdSt
import Derived.Test.YthdiiiopjkaifaaGreatDoorZdPall5
import Derived.Test.YthdiiiopjkaifaaGreatDoorZdPall6
section
namespace Go.Proofs.YthdiiiopjkaifaaGreatDoor.Pl
open Go Go.RowKit Go.Proofs.YthdiiiopjkaifaaGreatDoor.St Go.Proofs.YthdiiiopjkaifaaGreatDoorW.PrintWords Go.Proofs.YthdiiiopjkaifaaGreatDoorW.PrintLast
set_option linter.unusedVariables false
structure Le (T : TypeId) (w w' : World) : Prop where
 size : w.heap.size ≤ w'.heap.size
 keep : ∀ (b : Nat) (cs : Array Value) (e : TypeId) (fz : Nat × Nat), e ≠ T → w.heap[b]? = some (.cells cs e fz) → ∃ fz', w'.heap[b]? = some (.cells cs e fz')
 box : ∀ (b : Nat) (cs : Array Value), w.heap[b]? = some (.cells cs T (0, 0)) → ∃ cs', w'.heap[b]? = some (.cells cs' T (0, 0)) ∧ cs'.size = cs.size
theorem lt_of_blk {w : World} {b : Nat} {o : Obj} (h : w.heap[b]? = some o) : b < w.heap.size := by
 rcases Nat.lt_or_ge b w.heap.size with h1 | h1
 ·exact h1
 ·rw [Array.getElem?_eq_none h1] at h; cases h
variable {T : TypeId} {w w' w'' : World}
theorem Le.of_below (h : Below w.heap.size w w') : Le T w w' := ⟨h.size, fun b cs e fz _ hb => ⟨fz, (h.block b (lt_of_blk hb)).trans hb⟩, fun b cs hb => ⟨cs, (h.block b (lt_of_blk hb)).trans hb, rfl⟩⟩
theorem Le.refl (w : World) : Le T w w := .of_below (Below.refl _ _)
theorem Le.trans (h : Le T w w') (k : Le T w' w'') : Le T w w'' where
 size := Nat.le_trans h.size k.size
 keep := fun b cs e fz he hb => by obtain ⟨f1, h1⟩ := h.keep b cs e fz he hb; exact k.keep b cs e f1 he h1
 box := fun b cs hb => by
  obtain ⟨c1, h1, h2⟩ := h.box b cs hb
  obtain ⟨c2, h3, h4⟩ := k.box b c1 h1
  exact ⟨c2, h3, h4.trans h2⟩
theorem modify_at (a : Array Obj) (i j : Nat) (f : Obj → Obj) : (a.modify i f)[j]? = if i = j then (a[j]?).map f else a[j]? := by
 rw [Array.getElem?_modify]
theorem Le.set {b : Nat} {cs : Array Value} (hb : w.heap[b]? = some (.cells cs T (0, 0))) (i : Nat) (v : Value) : Le T w (w.setCell ⟨b, i, none⟩ v) where
 size := by simp [World.setCell]
 keep := fun k c e fz he hk => by
  by_cases hkb : b = k
  ·subst hkb; rw [hb] at hk; injection hk with hk; injection hk with _ hk _; exact absurd hk.symm he
  ·exact ⟨fz, (by simp only [World.setCell]; rw [modify_at, if_neg hkb]; exact hk)⟩
 box := fun k c hk => by
  by_cases hkb : b = k
  ·subst hkb
   refine ⟨_, blk_set hk i v, by simp⟩
  ·exact ⟨c, (by simp only [World.setCell]; rw [modify_at, if_neg hkb]; exact hk), rfl⟩
theorem freeze_blk {b : Nat} {cs : Array Value} {e : TypeId} {fz : Nat × Nat} (hb : w.heap[b]? = some (.cells cs e fz)) (n m : Nat) : ∃ fz', (w.freeze ⟨b, n, none⟩ m).heap[b]? = some (.cells cs e fz') := by
 obtain ⟨lo, hi⟩ := fz
 by_cases hm : m = 0
 ·exact ⟨(lo, hi), by unfold World.freeze; rw [if_pos hm]; exact hb⟩
 ·refine ⟨if lo == hi then (n, n + m) else (min lo n, max hi (n + m)), ?_⟩
  unfold World.freeze
  rw [if_neg hm]
  show (w.heap.modify b _)[b]? = _
  rw [modify_at, if_pos rfl, hb]
  rfl
theorem freeze_far (b k : Nat) (hk : b ≠ k) (n m : Nat) : (w.freeze ⟨b, n, none⟩ m).heap[k]? = w.heap[k]? := by
 unfold World.freeze
 split
 ·rfl
 ·show (w.heap.modify b _)[k]? = _
  rw [modify_at, if_neg hk]
theorem freeze_size (a : Addr) (m : Nat) : (w.freeze a m).heap.size = w.heap.size := by
 unfold World.freeze
 split <;> simp
theorem freeze_below {B b n m : Nat} (h : B ≤ w.heap.size) (hb : B ≤ b) : Below B w (w.freeze ⟨b, n, none⟩ m) := by
 refine ⟨?_, ?_, ?_, Nat.le_of_eq (freeze_size _ _).symm, fun k hk => freeze_far b k (by omega) n m⟩
 all_goals (unfold World.freeze; split <;> rfl)
theorem Le.freeze {b : Nat} {cs : Array Value} {e : TypeId} {fz : Nat × Nat} (he : e ≠ T) (hb : w.heap[b]? = some (.cells cs e fz)) (n m : Nat) : Le T w (w.freeze ⟨b, n, none⟩ m) where
 size := by rw [freeze_size]; exact Nat.le_refl _
 keep := fun k c e' f' he' hk => by
  by_cases hkb : b = k
  ·subst hkb; exact freeze_blk hk n m
  ·exact ⟨f', (freeze_far b k hkb n m).trans hk⟩
 box := fun k c hk => by
  by_cases hkb : b = k
  ·subst hkb; rw [hb] at hk; injection hk with hk; injection hk with _ hk _; exact absurd hk he
  ·exact ⟨c, (freeze_far b k hkb n m).trans hk, rfl⟩
theorem convert_lit {P : Program} (w : World) (b : Nat) (t e : TypeId) (C : Array Value) (fz : Nat × Nat) (n c : Nat) (hb : w.heap[b]? = some (.cells C e fz)) (ht : P.underlying t = some (.slice e)) (he : P.underlying e = some (.int .u8)) :
  (convert t t (.slice (some ⟨b, 0, none⟩) n c)).run P w = .ok (.slice (some ⟨b, 0, none⟩) n c) (w.freeze ⟨b, C.size, none⟩ 1) := by
 have hsh : w.shape? b = some (e, C.size) := by
  unfold World.shape?
  rw [hb]
 simp [convert, run_underlying ht, run_underlying he, markStringish, hsh]
theorem cell_kept {b : Nat} {cs : Array Value} {e : TypeId} {fz : Nat × Nat} (h : w.heap[b]? = some (.cells cs e fz)) {fz' : Nat × Nat} (h' : w'.heap[b]? = some (.cells cs e fz')) (i : Nat) : w'.cell? ((⟨b, 0, none⟩ : Addr).add i) = w.cell? ((⟨b, 0, none⟩ : Addr).add i) := by
 have e1 : (⟨b, 0, none⟩ : Addr).add i = ⟨b, i, none⟩ := by unfold Addr.add; split <;> simp_all
 rw [e1]
 simp only [World.cell?, h, h']
/-- a row of numbers of one's own is read, whatever marks and boxes of another type did -/
theorem Le.C {k : IntKind} {e base : Nat} {ok : Nat → Prop} {v : Value} {xs : List Int} (h : Kd.R (Kd.int k) e w base ok v xs) (he : e ≠ T) (hle : Le T w w') : ∃ A c, v = .slice A xs.length c ∧ xs.length ≤ c ∧ Kd.C (Kd.int k) w' A xs.length xs := by
 obtain ⟨A, c, rfl, hc, hC⟩ := Kd.R_reads h
 refine ⟨A, c, rfl, hc, ?_⟩
 have hr := Kd.reads_of_C (enc := Value.int k) (d := (0 : Int)) (h1 := fun _ => rfl) hC
 refine Kd.C_of_reads (d := (0 : Int)) (h1 := fun _ => rfl) ⟨hr.1, hr.2.1, fun hn => ?_⟩
 obtain ⟨ad, had, hcl⟩ := hr.2.2 hn
 refine ⟨ad, had, fun i hi => ?_⟩
 obtain ⟨_, inner, ho, _⟩ := h
 obtain ⟨_, hno | ⟨g, cap, cur, hv, _, hg, _⟩⟩ := ho
 ·exfalso; injection hno.1 with h1 _ _; rw [had] at h1; cases h1
 ·injection hv with h1 _ _
  rw [had] at h1
  injection h1 with h1
  subst h1
  obtain ⟨f1, h2⟩ := hle.keep g cur e (0, 0) he hg
  rw [cell_kept hg h2]
  exact hcl i hi
theorem blk_of_cell {a : Addr} {v : Value} (h : w.cell? a = some v) : ∃ o, w.heap[a.block]? = some o := by
 cases ho : w.heap[a.block]? with
 | none => simp [World.cell?, ho] at h
 | some o => exact ⟨o, rfl⟩
theorem V_of_C {k : IntKind} {e base : Nat} {A : Option Addr} {c : Nat} {xs : List Int} (h : Kd.C (Kd.int k) w A xs.length xs) (hc : xs.length ≤ c) : Kd.V (Kd.int k) e w base (fun _ => True) (.slice A xs.length c) xs := by
 refine ⟨A, c, rfl, hc, fun W' hW => ?_⟩
 have hr := Kd.reads_of_C (enc := Value.int k) (d := (0 : Int)) (h1 := fun _ => rfl) h
 refine Kd.C_of_reads (d := (0 : Int)) (h1 := fun _ => rfl) ⟨hr.1, hr.2.1, fun hn => ?_⟩
 obtain ⟨ad, had, hcl⟩ := hr.2.2 hn
 refine ⟨ad, had, fun i hi => ?_⟩
 have hb : (ad.add i).block = ad.block := by unfold Addr.add; split <;> rfl
 have h1 := hcl i hi
 obtain ⟨o, ho⟩ := blk_of_cell h1
 rw [hb] at ho
 have hq := (hW ad.block trivial (lt_of_blk ho)).trans ho
 rw [← h1]
 rw [← hb] at hq ho
 simp only [World.cell?, hq, ho]
/-- zeros -/
theorem zeros_run (n : Nat) (hn : n ≤ 100000000) (W : World) : (Instr.makeSlice 23 (.int .i64 (n : Int)) (.int .i64 (n : Int))).run Tryz.prog W = .ok (.slice (some ⟨W.heap.size, 0, none⟩) n n) (W.alloc (.cells (madeCells (Value.int .u8 0).cells (n * 1)) 5)) := by
 obtain ⟨i0, hi, hz0, hz1, hz2⟩ := info_parts info_u8'
 have hr := run_make (P := Tryz.prog) W 23 5 i0 (.int .u8 0) Tryz.underlying23 hi hz0 .i64 .i64 (n : Int) (n : Int) (by omega) (by omega) (by rw [hz2]; omega) (by omega)
 rw [Int.toNat_natCast, hz1] at hr
 exact hr
end Go.Proofs.YthdiiiopjkaifaaGreatDoor.Pl
end
section
namespace Go.Proofs.YthdiiiopjkaifaaGreatDoor.Pl
open Go Go.RowKit Go.Proofs.YthdiiiopjkaifaaGreatDoor.St Go.Proofs.YthdiiiopjkaifaaGreatDoor.Pall Go.Proofs.YthdiiiopjkaifaaGreatDoorW.PrintWords Go.Proofs.YthdiiiopjkaifaaGreatDoorW.PrintLast
set_option linter.unusedVariables false
set_option linter.unusedSimpArgs false
def zOp : Array Value := #[.int .i64 0, .string ⟨#[]⟩, .string ⟨#[]⟩, .string ⟨#[]⟩, .slice none 0 0, .slice none 0 0, .string ⟨#[]⟩]
theorem answer_results (tmps : Array Value) (W : World) (N : Nat) (h4 : tmps.getD 11 undef = .pointer (some ⟨N, 0, none⟩)) (n u : Value) (h5 : tmps.getD 10 undef = n) (h6 : tmps.getD 12 undef = u) (v0 v1 v2 v3 v4 v5 v6 : Value) (c : W.heap[N]? = some (.cells #[v0, v1, v2, v3, v4, v5, v6] 64 (0, 0))) :
  (results Tryz.f28 tmps).run Tryz.prog W = .ok (.tuple #[n, .agg #[v0, v1, v2, v3, v4, v5, v6], u]) W := by
 have hr : Tryz.f28.results = #[.tmp 10, .cell 11 64, .tmp 12] := rfl
 have hu := Tryz.underlying64
 have a0 := (blk_cell c 0).trans (show _ = some v0 from rfl)
 have a1 := (blk_cell c 1).trans (show _ = some v1 from rfl)
 have a2 := (blk_cell c 2).trans (show _ = some v2 from rfl)
 have a3 := (blk_cell c 3).trans (show _ = some v3 from rfl)
 have a4 := (blk_cell c 4).trans (show _ = some v4 from rfl)
 have a5 := (blk_cell c 5).trans (show _ = some v5 from rfl)
 have a6 := (blk_cell c 6).trans (show _ = some v6 from rfl)
 unfold results
 rw [hr]
 rw [Array.getD_eq_getD_getElem?] at h4 h5 h6
 simp [h4, h5, h6, loadVar, a0, a1, a2, a3, a4, a5, a6, go_sem, hu, isAgg, asAddr]
/-- what an answer that changes nothing comes to -/
def AnsNo (W : World) (out : List Int) (e : Ending) (w' : World) : Prop := ∃ v, e = .returned (.tuple #[v, .agg zOp, .bool false]) ∧ Kd.R (Kd.int .u8) 5 w' W.heap.size (fun _ => True) v out ∧ Below W.heap.size W w'
set_option maxRecDepth 100000 in
set_option maxHeartbeats 4000000 in
theorem answer_none (i0 i1 i2 i3 : Int) (AK : Option Addr) (cK : Nat) (key : List Int) (mk : Value) (scs : Array Value) (s0 s1 s2 : Value) (hs : scs = #[s0, s1, s2]) (A : Option Addr) (c : Nat) (raw : List Int) (dr : Value) (W : World)
  (hk : Kd.C (Kd.int .u8) W AK key.length key) (hck : key.length ≤ cK) (hr : Kd.C (Kd.int .u8) W A raw.length raw) (hc : raw.length ≤ c) (hS : Sh W) (hT : Tb W)
  (m p : ByteArray) (fs : List S76) (bd : List Int) (hq : http_Parse.f raw = some (m, p, fs, bd, 0)) (n : Int) (hn : (n != 0) = true)
  (hask : ∀ (A : Option Addr) (c : Nat) (B : Option Addr) (d : Nat) (W' : World), Below W.heap.size W W' → Kd.C k76 W' A fs.length fs → fs.length ≤ c → Kd.C (Kd.int .u8) W' B bd.length bd → bd.length ≤ d → Calls Tryz.prog 36 #[.agg #[.string m, .string p, .slice A fs.length c, .slice B bd.length d], dr] W' fun e w => e = .returned (.tuple #[.agg zAsk, .int .i64 n]) ∧ Below W'.heap.size W' w)
  (out : List Int) (hb : gate_bytes.f i0 i1 i2 i3 key n ⟨#[]⟩ false ⟨#[]⟩ ⟨#[]⟩ ⟨#[]⟩ = some out) :
  Calls Tryz.prog 28 #[.agg #[.int .u64 i0, .int .u64 i1, .int .u64 i2, .int .i64 i3, .slice AK key.length cK], mk, .agg scs, .slice A raw.length c, dr] W (AnsNo W out) := by
 subst hs
 have HP := hid (fun (W' : World) (h : Below W.heap.size W W') => http_Parse.calls A c raw m p fs bd 0 W' (Kd.C_below hr h) hc (hS.of_below h) hq)
 have HBY := hid (fun (W' : World) (h : Below W.heap.size W W') => gate_bytes.calls i0 i1 i2 i3 AK cK key n ⟨#[]⟩ false ⟨#[]⟩ ⟨#[]⟩ ⟨#[]⟩ out W' (Kd.C_below hk h) hck (hT.of_below h) hb)
 have HASK := hid hask
 have HS := hid ((((St.nil (Below.refl W.heap.size W)).newAt W.heap.size rfl #[.int .u64 i0, .int .u64 i1, .int .u64 i2, .int .i64 i3, .slice AK key.length cK] 40).newAt (W.heap.size + 1) (size_alloc _ _) #[s0, s1, s2] 54).newAt (W.heap.size + 1 + 1) (by rw [size_alloc, size_alloc]) #[.int .i64 0, .string ⟨#[]⟩, .string ⟨#[]⟩, .string ⟨#[]⟩, .slice none 0 0, .slice none 0 0, .string ⟨#[]⟩] 64)
 have hu1 := Tryz.underlying40
 have hu2 := Tryz.underlying64
 have hu3 := Tryz.underlying31
 have hu4 := Tryz.underlying25
 clear hk hck hr hc hS hT hq hask hb
 go_enter Tryz.func28, Tryz.ntmps28
 go_upto_region 1 with (fail)
 generalize ((W.alloc (.cells #[.int .u64 i0, .int .u64 i1, .int .u64 i2, .int .i64 i3, .slice AK key.length cK] 40)).alloc (.cells #[s0, s1, s2] 54)).alloc (.cells #[.int .i64 0, .string ⟨#[]⟩, .string ⟨#[]⟩, .string ⟨#[]⟩, .slice none 0 0, .slice none 0 0, .string ⟨#[]⟩] 64) = w0 at HS ⊢
 go_upto_region 4 with (go_at_call 53; refine (HP.out _ HS.out.bel).mono ?_; rintro e w1 ⟨v2, v3, rfl, h2, h3, hb⟩; have hs2 := Kd.R_reads h2; obtain ⟨A2, c2, rfl, hc2, hC2⟩ := hs2; have hs3 := Kd.R_reads h3; obtain ⟨A3, c3, rfl, hc3, hC3⟩ := hs3; have HC2 := hid hC2; have HC3 := hid hC3; have HS1 := hid (HS.out.go hb); clear h2 h3 hC2 hC3 hb)
 have HS2 := hid (HS1.out.newAt w1.heap.size rfl #[.string m, .string p, .slice A2 fs.length c2, .slice A3 bd.length c3] 25)
 have HA := hid (fun (W' : World) (h : Below (w1.alloc (.cells #[.string m, .string p, .slice A2 fs.length c2, .slice A3 bd.length c3] 25)).heap.size (w1.alloc (.cells #[.string m, .string p, .slice A2 fs.length c2, .slice A3 bd.length c3] 25)) W') =>
  HASK.out A2 c2 A3 c3 W' (HS2.out.bel.trans (h.mono HS2.out.bel.size)) (Kd.C_below (Kd.C_alloc HC2.out _) h) hc2 (Kd.C_below (Kd.C_alloc HC3.out _) h) hc3)
 generalize hg : w1.heap.size = g3 at HS2 HA ⊢
 generalize w1.alloc (.cells #[.string m, .string p, .slice A2 fs.length c2, .slice A3 bd.length c3] 25) = w2 at HS2 HA ⊢
 clear HS HP HASK HC2 HC3 HS1 hg
 unfold zAsk at HA
 have z0 := HS2.out.cell 0 0 rfl
 have z1 := HS2.out.cell 0 1 rfl
 have z2 := HS2.out.cell 0 2 rfl
 have z3 := HS2.out.cell 0 3 rfl
 go_upto_region 6 with (go_at_call 36; refine (HA.out _ (Below.refl _ _)).mono ?_; rintro e w3 ⟨rfl, hb⟩; have HS3 := hid (HS2.out.go hb); clear hb z0 z1 z2 z3)
 have HS4 := hid (HS3.out.newAt w3.heap.size rfl zAsk 31)
 unfold zAsk at HS4
 generalize hg : w3.heap.size = g4 at HS4 ⊢
 generalize w3.alloc (.cells #[.int .i64 0, .string ⟨#[]⟩, .string ⟨#[]⟩, .string ⟨#[]⟩, .string ⟨#[]⟩, .string ⟨#[]⟩, .slice none 0 0, .slice none 0 0] 31) = w4 at HS4 ⊢
 clear HS2 HS3 HA hg
 have r0 := HS4.out.cell 4 0 rfl
 have r1 := HS4.out.cell 4 1 rfl
 have r2 := HS4.out.cell 4 2 rfl
 have r3 := HS4.out.cell 4 3 rfl
 have r4 := HS4.out.cell 4 4 rfl
 go_wp2_with (go_at_call 54; refine (HBY.out _ HS4.out.bel).mono ?_; rintro e w5 ⟨v5, rfl, h5, hb⟩; have HS5 := hid (HS4.out.go hb); have H5 := hid h5; have HB5 := hid HS4.out.bel.size; clear r0 r1 r2 r3 r4; have o0 := HS5.out.cell 2 0 rfl; have o1 := HS5.out.cell 2 1 rfl; have o2 := HS5.out.cell 2 2 rfl; have o3 := HS5.out.cell 2 3 rfl; have o4 := HS5.out.cell 2 4 rfl; have o5 := HS5.out.cell 2 5 rfl; have o6 := HS5.out.cell 2 6 rfl; have q0 := HS5.out.fz 2 0 rfl; have q1 := HS5.out.fz 2 1 rfl; have q2 := HS5.out.fz 2 2 rfl; have q3 := HS5.out.fz 2 3 rfl; have q4 := HS5.out.fz 2 4 rfl; have q5 := HS5.out.fz 2 5 rfl; have q6 := HS5.out.fz 2 6 rfl; clear h5 hb)
 have hg2 : W.heap.size + 1 + 1 < w4.heap.size := HS4.out.lt 2 rfl (List.mem_singleton_self _)
 have HW5 := hid HS5.out.bel
 have hge : W.heap.size ≤ W.heap.size + 1 + 1 := by omega
 refine ⟨rfl, .tuple #[v5, .agg zOp, .bool false], ?_, v5, rfl, ?_, ?_⟩
 ·exact answer_results _ _ (W.heap.size + 1 + 1) rfl _ _ rfl rfl _ _ _ _ _ _ _ (blk_set (blk_set (blk_set (blk_set (blk_set (blk_set (blk_set (HS5.out.box 2 rfl) 0 _) 1 _) 2 _) 3 _) 4 _) 5 _) 6 _)
 ·exact Kd.R_lower (R_set (R_set (R_set (R_set (R_set (R_set (R_set H5.out _ 0 hg2 _) _ 1 hg2 _) _ 2 hg2 _) _ 3 hg2 _) _ 4 hg2 _) _ 5 hg2 _) _ 6 hg2 _) HB5.out
 ·exact ((((((HW5.out.setCell (p := ⟨W.heap.size + 1 + 1, 0, none⟩) hge _).setCell (p := ⟨W.heap.size + 1 + 1, 1, none⟩) hge _).setCell (p := ⟨W.heap.size + 1 + 1, 2, none⟩) hge _).setCell (p := ⟨W.heap.size + 1 + 1, 3, none⟩) hge _).setCell (p := ⟨W.heap.size + 1 + 1, 4, none⟩) hge _).setCell (p := ⟨W.heap.size + 1 + 1, 5, none⟩) hge _).setCell (p := ⟨W.heap.size + 1 + 1, 6, none⟩) hge _
end Go.Proofs.YthdiiiopjkaifaaGreatDoor.Pl
end

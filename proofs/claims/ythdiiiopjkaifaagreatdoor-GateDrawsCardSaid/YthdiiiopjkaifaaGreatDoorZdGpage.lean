/-
 gate.Page: what is said, as a response.
-/
import Derived.Test.YthdiiiopjkaifaaGreatDoorZdGset
import Derived.Test.YthdiiiopjkaifaaGreatDoorZdEsc
import Derived.Deep.DeepCutAuto
import Derived.Test.YthdiiiopjkaifaaGreatDoorZdPall30
import Derived.Test.YthdiiiopjkaifaaGreatDoorZdPall4
import Derived.Test.YthdiiiopjkaifaaGreatDoorZdReason
namespace Go.Proofs.YthdiiiopjkaifaaGreatDoor.Pl
open Go Go.RowKit Go.Proofs.YthdiiiopjkaifaaGreatDoor.St Go.Proofs.YthdiiiopjkaifaaGreatDoor.Pall Go.Proofs.YthdiiiopjkaifaaGreatDoorW.PrintWords Go.Proofs.YthdiiiopjkaifaaGreatDoorW.PrintLast
open Go.Lib (byteCells)
set_option linter.unusedVariables false
set_option linter.unusedSimpArgs false
abbrev sUser : ByteArray := ⟨#[117, 115, 101, 114]⟩
abbrev sNote : ByteArray := ⟨#[110, 111, 116, 101]⟩
abbrev sToken : ByteArray := ⟨#[116, 111, 107, 101, 110]⟩
def lineL (xs : List ByteArray) : List UInt8 := (lineS xs).data.toList
def pgU (user : ByteArray) : List UInt8 := if user.toList = [] then [] else lineL [sUser, user]
def pgN (note : ByteArray) : List UInt8 := if note.toList = [] then [] else lineL [sNote, escS note]
def pgT (token : ByteArray) : List UInt8 := if token.toList = [] then [] else lineL [sToken, token]
def pgB (st : Int) (token user note : ByteArray) : List UInt8 := if pgU user ++ pgN note ++ pgT token = [] then lineL [reasonS st] else pgU user ++ pgN note ++ pgT token
/-- what stands while a page is made -/
structure Pg (W : World) (rcs scs : Array Value) (bs : List UInt8) (p v : Value) (w : World) : Prop where
 bel : Below W.heap.size W w
 xr : w.heap[W.heap.size]? = some (.cells rcs 40 (0, 0))
 xs : w.heap[W.heap.size + 1]? = some (.cells scs 42 (0, 0))
 xo : w.heap[W.heap.size + 1 + 1]? = some (.cells #[.int .i64 0, .slice none 0 0, .slice none 0 0] 71 (0, 0))
 bl : Bl W.heap.size (W.heap.size + 1 + 1 + 1) p v (byteCells bs) w
theorem Pg.next {W : World} {rcs scs : Array Value} {bs : List UInt8} {p v : Value} {w w' : World} (h : Pg W rcs scs bs p v w) (hb : Below w.heap.size w w') : Pg W rcs scs bs p v w' where
 bel := h.bel.trans (hb.mono h.bel.size)
 xr := blk_below h.xr hb
 xs := blk_below h.xs hb
 xo := blk_below h.xo hb
 bl := h.bl.below hb
theorem bl_other {B b : Nat} {p v : Value} {bs : List Value} {w w' : World} (h : Bl B b p v bs w) (hm : Mut (b :: v.ownBlock.toList) w w') {g : Nat} {cs : Array Value} {t : TypeId} (hg : w.heap[g]? = some (.cells cs t (0, 0))) (ht : t ≠ 5) (hne : g ≠ b) : w'.heap[g]? = some (.cells cs t (0, 0)) :=
 (hm.keep g (blk_lt hg) (fun hb1 => by
  rcases List.mem_cons.1 hb1 with h1 | h1
  ·exact hne h1
  ·obtain ⟨cells, hc⟩ := own_typed h.row g (by simpa using h1)
   rw [hg] at hc
   injection hc with hc
   injection hc with _ hc _
   exact ht hc)).trans hg
theorem bl_bel {B b N : Nat} {p v : Value} {bs : List Value} {w w' : World} (h : Bl B b p v bs w) (hm : Mut (b :: v.ownBlock.toList) w w') (hB : N ≤ B) (hN : N ≤ w.heap.size) : Below N w w' :=
 hm.below hN (fun x hx => by
  rcases List.mem_cons.1 hx with rfl | h1
  ·exact Nat.le_trans hB h.ge
  ·exact Nat.le_trans hB (own_base h.row x (by simpa using h1)))
theorem Pg.wrote {W : World} {rcs scs : Array Value} {bs bs' : List UInt8} {p v p' v' : Value} {w w' : World} (h : Pg W rcs scs bs p v w) (hm : Mut ((W.heap.size + 1 + 1 + 1) :: v.ownBlock.toList) w w') (hb : Bl W.heap.size (W.heap.size + 1 + 1 + 1) p' v' (byteCells bs') w') : Pg W rcs scs bs' p' v' w' where
 bel := h.bel.trans (bl_bel h.bl hm (Nat.le_refl _) h.bel.size)
 xr := bl_other h.bl hm h.xr (by decide) (by omega)
 xs := bl_other h.bl hm h.xs (by decide) (by omega)
 xo := bl_other h.bl hm h.xo (by decide) (by omega)
 bl := hb
theorem Pg.start (W : World) (rcs scs : Array Value) : Pg W rcs scs [] (.pointer none) (.slice none 0 0) ((((W.alloc (.cells rcs 40)).alloc (.cells scs 42)).alloc (.cells #[.int .i64 0, .slice none 0 0, .slice none 0 0] 71)).alloc (.cells #[.pointer none, .slice none 0 0] 131)) := by
 have e : ∀ (w : World) (o : Obj), (w.alloc o).heap.size = w.heap.size + 1 := fun w o => by simp [World.alloc, -World.alloc_eq]
 have n0 := blk_new W (.cells rcs 40)
 have n1 := blk_new (W.alloc (.cells rcs 40)) (.cells scs 42)
 have n2 := blk_new ((W.alloc (.cells rcs 40)).alloc (.cells scs 42)) (.cells #[.int .i64 0, .slice none 0 0, .slice none 0 0] 71)
 have hb := Bl.start (((W.alloc (.cells rcs 40)).alloc (.cells scs 42)).alloc (.cells #[.int .i64 0, .slice none 0 0, .slice none 0 0] 71)) W.heap.size (by rw [e, e, e]; omega)
 rw [e] at n1
 rw [e, e] at n2
 rw [e, e, e] at hb
 refine ⟨?_, blk_alloc (blk_alloc (blk_alloc n0 _) _) _, blk_alloc (blk_alloc n1 _) _, blk_alloc n2 _, hb⟩
 exact ((((Below.refl _ W).alloc (Nat.le_refl _) _).alloc (by rw [e]; omega) _).alloc (by rw [e, e]; omega) _).alloc (by rw [e, e, e]; omega) _
theorem line_one (B b : Nat) (p v : Value) (bs : List UInt8) (a : ByteArray) (w : World) (h : Bl B b p v (byteCells bs) w) (hBw : B ≤ w.heap.size) (hb : bs.length ≤ 20000000) (ha : a.size ≤ 5000000) :
  Calls Tryz.prog 67 #[.slice (some ⟨w.heap.size, 0, none⟩) 1 1, .pointer (some ⟨b, 0, none⟩)] (w.alloc (.cells #[.string a] 9)) fun e w' => e = .returned (.tuple #[]) ∧ ∃ v', Bl B b (.pointer (some ⟨b, 0, none⟩)) v' (byteCells (bs ++ lineL [a])) w' ∧ Mut (b :: v.ownBlock.toList) w w' := by
 have hj : (Lib.join (([a] : List ByteArray).map (·.data.toList)) [32]).length = a.size := by simp [Lib.join]
 refine (line_bl B b w.heap.size 0 1 p v (byteCells bs) [a] _ ?_ (blk_lt (blk_new w _)) (Nat.le_refl _) (by show 1 ≤ 1000; decide) (by rw [hj]; omega) (by rw [Lib.byteCells_length]; omega) (h.below ((Below.refl _ _).alloc (Nat.le_refl _) _)) (Nat.le_trans hBw (by simp [World.alloc, -World.alloc_eq]))).mono ?_
 ·intro j x hj
  match j, hj with
  | 0, hj => injection hj with hj; subst hj; exact blk_cell (blk_new w _) 0
 ·rintro e w' ⟨rfl, v', h1, h2⟩
  refine ⟨rfl, v', by rw [Lib.byteCells_append]; exact h1, ((Mut.alloc w _).mono (fun x hx => by cases hx)).trans h2 (fun x hx => .inl hx)⟩
theorem line_two (B b : Nat) (p v : Value) (bs : List UInt8) (a x : ByteArray) (w : World) (h : Bl B b p v (byteCells bs) w) (hBw : B ≤ w.heap.size) (hb : bs.length ≤ 20000000) (ha : a.size ≤ 100) (hx : x.size ≤ 5000000) :
  Calls Tryz.prog 67 #[.slice (some ⟨w.heap.size, 0, none⟩) 2 2, .pointer (some ⟨b, 0, none⟩)] (w.alloc (.cells #[.string a, .string x] 9)) fun e w' => e = .returned (.tuple #[]) ∧ ∃ v', Bl B b (.pointer (some ⟨b, 0, none⟩)) v' (byteCells (bs ++ lineL [a, x])) w' ∧ Mut (b :: v.ownBlock.toList) w w' := by
 have hj : (Lib.join (([a, x] : List ByteArray).map (·.data.toList)) [32]).length = a.size + 1 + x.size := by
  have e1 : a.data.toList.length = a.size := rfl
  have e2 : x.data.toList.length = x.size := rfl
  simp [Lib.join, List.intercalate, e1, e2]
  omega
 refine (line_bl B b w.heap.size 0 2 p v (byteCells bs) [a, x] _ ?_ (blk_lt (blk_new w _)) (Nat.le_refl _) (by show 2 ≤ 1000; decide) (by rw [hj]; omega) (by rw [Lib.byteCells_length]; omega) (h.below ((Below.refl _ _).alloc (Nat.le_refl _) _)) (Nat.le_trans hBw (by simp [World.alloc, -World.alloc_eq]))).mono ?_
 ·intro j y hj
  match j, hj with
  | 0, hj => injection hj with hj; subst hj; exact blk_cell (blk_new w _) 0
  | 1, hj => injection hj with hj; subst hj; exact blk_cell (blk_new w _) 1
 ·rintro e w' ⟨rfl, v', h1, h2⟩
  refine ⟨rfl, v', by rw [Lib.byteCells_append]; exact h1, ((Mut.alloc w _).mono (fun x hx => by cases hx)).trans h2 (fun x hx => .inl hx)⟩
theorem lineL_len (a x : ByteArray) : (lineL [a, x]).length = a.size + x.size + 2 := by
 unfold lineL
 have e : (lineS [a, x]).data.toList.length = (lineS [a, x]).size := rfl
 have e1 : a.data.toList.length = a.size := rfl
 have e2 : x.data.toList.length = x.size := rfl
 rw [e, lineS_size]
 simp [Lib.join, List.intercalate, e1, e2]
 omega
theorem escS_size (s : ByteArray) : (escS s).size ≤ 5 * s.size := by
 have := escL_len s.size s.data.toList
 exact this
theorem pgU_len (user : ByteArray) (h : user.size ≤ 1000000) : (pgU user).length ≤ 1000010 := by
 unfold pgU
 split
 ·exact Nat.zero_le _
 ·rw [lineL_len]; show 4 + _ + 2 ≤ _; omega
theorem pgN_len (note : ByteArray) (h : note.size ≤ 1000000) : (pgN note).length ≤ 5000010 := by
 have := escS_size note
 unfold pgN
 split
 ·exact Nat.zero_le _
 ·rw [lineL_len]; show 4 + _ + 2 ≤ _; omega
theorem pgT_len (token : ByteArray) (h : token.size ≤ 1000000) : (pgT token).length ≤ 1000010 := by
 unfold pgT
 split
 ·exact Nat.zero_le _
 ·rw [lineL_len]; show 5 + _ + 2 ≤ _; omega
/-- the fields' box, and all else -/
structure Pf (W : World) (rcs scs : Array Value) (bs : List UInt8) (p v : Value) (f : Nat) (fv : Value) (l : List S76) (w : World) : Prop where
 pg : Pg W rcs scs bs p v w
 xf : w.heap[f]? = some (.cells #[fv] 22 (0, 0))
 rw_ : Kd.R k76 76 w W.heap.size (fun _ => True) fv l
theorem Pg.other {W : World} {rcs scs : Array Value} {bs : List UInt8} {p v : Value} {f : Nat} {cs : Array Value} {w w' : World} (h : Pg W rcs scs bs p v w) (hf : w.heap[f]? = some (.cells cs 22 (0, 0))) (hm : Mut [f] w w') (hlt : W.heap.size + 1 + 1 + 1 < f) : Pg W rcs scs bs p v w' where
 bel := h.bel.trans (hm.below h.bel.size (fun b hb => by rw [List.mem_singleton.1 hb]; omega))
 xr := (hm.keep _ (blk_lt h.xr) (fun e => by have := List.mem_singleton.1 e; omega)).trans h.xr
 xs := (hm.keep _ (blk_lt h.xs) (fun e => by have := List.mem_singleton.1 e; omega)).trans h.xs
 xo := (hm.keep _ (blk_lt h.xo) (fun e => by have := List.mem_singleton.1 e; omega)).trans h.xo
 bl := h.bl.dep (hm.keep _ h.bl.lt (fun e => by have := List.mem_singleton.1 e; omega)) (fun k hk => hm.keep k (own_lt h.bl.row k hk) (fun e => by
  obtain ⟨cells, hc⟩ := own_typed h.bl.row k hk
  rw [List.mem_singleton.1 e, hf] at hc
  injection hc with hc
  injection hc with _ hc _
  exact absurd hc (by decide)))
def pgF (age : Int) (id : ByteArray) (clear : Bool) : Option (List S76) :=
 if id.toList = [] then (if clear = true then (cookie_Set.f sHostId ⟨#[]⟩ 0).map (fun x => [setP x.1]) else some []) else (cookie_Set.f sHostId id (wrap64 age)).map (fun x => [setP x.1])
theorem page_results (tmps : Array Value) (W : World) (N : Nat) (h4 : tmps.getD 4 undef = .pointer (some ⟨N, 0, none⟩)) (v0 v1 v2 : Value) (c : W.heap[N]? = some (.cells #[v0, v1, v2] 71 (0, 0))) :
  (results Tryz.f34 tmps).run Tryz.prog W = .ok (.agg #[v0, v1, v2]) W := by
 have hr : Tryz.f34.results = #[.cell 4 71] := rfl
 have hu := Tryz.underlying71
 have a0 := (blk_cell c 0).trans (show _ = some v0 from rfl)
 have a1 := (blk_cell c 1).trans (show _ = some v1 from rfl)
 have a2 := (blk_cell c 2).trans (show _ = some v2 from rfl)
 unfold results
 rw [hr]
 rw [Array.getD_eq_getD_getElem?] at h4
 simp [h4, loadVar, a0, a1, a2, go_sem, hu, isAgg, asAddr]
theorem pgB_ne (st : Int) (token user note : ByteArray) : pgB st token user note ≠ [] := by
 unfold pgB
 split
 ·unfold lineL lineS
  intro h
  have := congrArg List.length h
  simp at this
 ·assumption
theorem reasonS_size (n : Int) : (reasonS n).size ≤ 100 := by
 unfold reasonS
 cases h : atI reasonsL n with
 | none => decide
 | some s =>
  unfold atI at h
  obtain ⟨p, hp, rfl⟩ := Option.map_eq_some_iff.1 h
  have hm := List.mem_of_find?_eq_some hp
  have hall : ∀ p ∈ reasonsL, p.2.size ≤ 100 := by decide
  exact hall p hm
theorem Pf.drew {W : World} {rcs scs : Array Value} {bs : List UInt8} {p v : Value} {f : Nat} {fv : Value} {l : List S76} {w : World} (h : Pf W rcs scs bs p v f fv l w) : Pf W rcs scs bs p v f fv l w.drew := ⟨h.pg.next (Mut.drew w).all, h.xf, Kd.R_below h.rw_ (below_drew (Below.refl _ _))⟩
theorem Pf.read {W : World} {rcs scs : Array Value} {bs : List UInt8} {p v : Value} {f : Nat} {fv : Value} {l : List S76} {w w' : World} (h : Pf W rcs scs bs p v f fv l w) (hm : Mut v.ownBlock.toList w w') (hlt : W.heap.size + 1 + 1 + 1 < f) : Below W.heap.size W w' ∧ Kd.R k76 76 w' W.heap.size (fun _ => True) fv l ∧ w'.heap[W.heap.size + 1 + 1]? = some (.cells #[.int .i64 0, .slice none 0 0, .slice none 0 0] 71 (0, 0)) ∧ w'.heap[W.heap.size + 1]? = some (.cells scs 42 (0, 0)) ∧ w'.heap[f]? = some (.cells #[fv] 22 (0, 0)) := by
 have hne : ∀ {g : Nat} {cs : Array Value} {t : TypeId}, w.heap[g]? = some (.cells cs t (0, 0)) → t ≠ 5 → w'.heap[g]? = some (.cells cs t (0, 0)) := fun {g cs t} hg ht => (hm.keep g (blk_lt hg) (fun h1 => by
  obtain ⟨cells, hc⟩ := own_typed h.pg.bl.row g (by simpa using h1)
  rw [hg] at hc
  injection hc with hc
  injection hc with _ hc _
  exact ht hc)).trans hg
 refine ⟨h.pg.bel.trans (hm.below h.pg.bel.size (fun b hb => own_base h.pg.bl.row b (by simpa using hb))), ?_, hne h.pg.xo (by decide), hne h.pg.xs (by decide), hne h.xf (by decide)⟩
 refine (flat_iso _ (flat_pair flat_string flat_string)).R (d := k76) h.rw_ (fun _ _ => trivial) (fun k hk => ?_)
 obtain ⟨h0, inner, ho, hr⟩ := h.rw_
 obtain ⟨cells, hc⟩ := own_typed ho k hk
 exact (hne hc (by decide)).trans hc.symm
/-- what a page comes to, and what it changes -/
def PgDone (W : World) (r1 : Int) (r2 : List S76) (r3 : List Int) (e : Ending) (w' : World) : Prop := ∃ v1_ v2_ : Value, e = .returned (.agg #[.int .i64 r1, v1_, v2_]) ∧ Kd.R k76 76 w' W.heap.size (fun k_ => (W.heap.size ≤ k_)) v1_ r2 ∧ Kd.V (Kd.int .u8) 5 w' W.heap.size (fun k_ => (W.heap.size ≤ k_) ∧ some k_ ≠ (v1_ : Value).ownBlock) v2_ r3 ∧ Below W.heap.size W w'
theorem pg_done {W w5 w6 : World} {r1 : Int} {r2 : List S76} {r3 : List Int} {v1 v2 : Value} {g : Nat} {cs : Array Value} (hg : w6.heap[g]? = some (.cells cs 71 (0, 0))) (hgW : W.heap.size ≤ g) (hg5 : g < w5.heap.size) (hWw : W.heap.size ≤ w5.heap.size) (hb : Below W.heap.size W w6)
  (h1 : Kd.R k76 76 w6 w5.heap.size (fun k_ => (w5.heap.size ≤ k_)) v1 r2) (h2 : Kd.V (Kd.int .u8) 5 w6 w5.heap.size (fun k_ => (w5.heap.size ≤ k_) ∧ some k_ ≠ (v1 : Value).ownBlock) v2 r3) :
  PgDone W r1 r2 r3 (.returned (.agg #[.int .i64 r1, v1, v2])) (((w6.setCell ⟨g, 0, none⟩ (.int .i64 r1)).setCell ⟨g, 1, none⟩ v1).setCell ⟨g, 2, none⟩ v2) := by
 refine ⟨v1, v2, rfl, ?_, ?_, ((hb.setCell (p := ⟨g, 0, none⟩) hgW _).setCell (p := ⟨g, 1, none⟩) hgW _).setCell (p := ⟨g, 2, none⟩) hgW _⟩
 ·have hne : ∀ k, w5.heap.size ≤ k → k ≠ g := fun k hk => by omega
  exact Kd.R_mono (Kd.R_lower (Kd.R_far (p := ⟨g, 2, none⟩) (Kd.R_far (p := ⟨g, 1, none⟩) (Kd.R_far (p := ⟨g, 0, none⟩) h1 hne _) hne _) hne _) hWw) (fun k hk => Nat.le_trans hWw hk)
 ·have hne : ∀ k, (w5.heap.size ≤ k ∧ some k ≠ (v1 : Value).ownBlock) → k ≠ g := fun k hk => by omega
  exact Kd.V_mono (Kd.V_lower (Kd.V_far (p := ⟨g, 2, none⟩) (Kd.V_far (p := ⟨g, 1, none⟩) (Kd.V_far (p := ⟨g, 0, none⟩) h2 hne _) hne _) hne _) hWw) (fun k hk => ⟨Nat.le_trans hWw hk.1, hk.2⟩)
set_option maxRecDepth 100000 in
set_option maxHeartbeats 4000000 in
theorem page_any (idle age wait rounds : Int) (key : Value) (st : Int) (id : ByteArray) (clear : Bool) (token user note : ByteArray) (W : World) (hT : Tb W)
  (l : List S76) (hl : pgF age id clear = some l) (r1 : Int) (r2 : List S76) (r3 : List Int) (hr : resp_Page.f st ⟨(pgB st token user note).toArray⟩ l = some (r1, r2, r3)) (z1 : token.size ≤ 1000000) (z2 : user.size ≤ 1000000) (z3 : note.size ≤ 1000000) :
  Calls Tryz.prog 34 #[.agg #[.int .u64 idle, .int .u64 age, .int .u64 wait, .int .i64 rounds, key], .agg #[.int .i64 st, .string id, .bool clear, .string token, .string user, .string note]] W (PgDone W r1 r2 r3) := by
 have HG := hid (Pg.start W #[.int .u64 idle, .int .u64 age, .int .u64 wait, .int .i64 rounds, key] #[.int .i64 st, .string id, .bool clear, .string token, .string user, .string note])
 have HL := hid hl
 have HR := hid hr
 have HTB := hid hT
 clear hl hr hT
 go_enter Tryz.func34, Tryz.ntmps34
 go_upto_region 3 with (fail)
 generalize (((W.alloc (.cells #[.int .u64 idle, .int .u64 age, .int .u64 wait, .int .i64 rounds, key] 40)).alloc (.cells #[.int .i64 st, .string id, .bool clear, .string token, .string user, .string note] 42)).alloc (.cells #[.int .i64 0, .slice none 0 0, .slice none 0 0] 71)).alloc (.cells #[.pointer none, .slice none 0 0] 131) = w0 at HG ⊢
 have y4 := blk_cell HG.out.xs 4
 have HESC := hid (fun (W' : World) => escape_any note z3 W')
 go_upto_if 12 with (fail)
 go_cut [] from 12 to 17 (fun wx => Hid (∃ p v, Pg W #[.int .u64 idle, .int .u64 age, .int .u64 wait, .int .i64 rounds, key] #[.int .i64 st, .string id, .bool clear, .string token, .string user, .string note] (pgU user) p v wx))
 case first =>
  have HLN := hid (line_two _ _ _ _ _ sUser user w0 HG.out.bl HG.out.bel.size (by decide) (by decide) (by omega))
  go_wp2_with ((with_reducible refine HLN.out.mono ?_); rintro e w1 ⟨rfl, v1, h1, h2⟩; have HN := hid (HG.out.wrote h2 h1); clear h1 h2)
  ·go_meet
   case rel => exact ⟨_, _, by have h := HN.out; have hx : (!user.toList.isEmpty) = true := ‹_›; unfold pgU; rw [if_neg (fun hn => by rw [hn] at hx; cases hx)]; exact h⟩
  ·go_meet
   case rel => exact ⟨_, _, by have h := HG.out; have hx : (!user.toList.isEmpty) = false := ‹_›; unfold pgU; rw [if_pos (by simpa using hx)]; exact h⟩
 case rest =>
 clear HG y4
 obtain ⟨p1, v1, hg⟩ := hcut
 have HG := hid hg
 clear hg
 have hpu := pgU_len user z2
 have y5 := blk_cell HG.out.xs 5
 go_upto_if 20 with (fail)
 go_cut [] from 20 to 26 (fun wx => Hid (∃ p v, Pg W #[.int .u64 idle, .int .u64 age, .int .u64 wait, .int .i64 rounds, key] #[.int .i64 st, .string id, .bool clear, .string token, .string user, .string note] (pgU user ++ pgN note) p v wx))
 case first =>
  go_wp2_with (first
   | (go_at_call 70; refine (HESC.out _).mono ?_; rintro e w1 ⟨rfl, hb⟩; have HG1 := hid (HG.out.next hb); have HLN := hid (line_two _ _ _ _ _ sNote (escS note) w1 HG1.out.bl HG1.out.bel.size (by omega) (by decide) (by have := escS_size note; omega)); clear hb)
   | ((with_reducible refine HLN.out.mono ?_); rintro e w2 ⟨rfl, v2, h1, h2⟩; have HN := hid (HG1.out.wrote h2 h1); clear h1 h2))
  ·go_meet
   case rel => exact ⟨_, _, by have h := HN.out; have hx : (!note.toList.isEmpty) = true := ‹_›; unfold pgN; rw [if_neg (fun hn => by rw [hn] at hx; cases hx)]; exact h⟩
  ·go_meet
   case rel => exact ⟨_, _, by have h := HG.out; have hx : (!note.toList.isEmpty) = false := ‹_›; unfold pgN; rw [if_pos (by simpa using hx), List.append_nil]; exact h⟩
 case rest =>
 clear HG y5 HESC
 obtain ⟨p2, v2, hg⟩ := hcut
 have HG := hid hg
 clear hg
 have hpn := pgN_len note z3
 have y3 := blk_cell HG.out.xs 3
 go_upto_if 29 with (fail)
 go_cut [] from 29 to 34 (fun wx => Hid (∃ p v, Pg W #[.int .u64 idle, .int .u64 age, .int .u64 wait, .int .i64 rounds, key] #[.int .i64 st, .string id, .bool clear, .string token, .string user, .string note] (pgU user ++ pgN note ++ pgT token) p v wx))
 case first =>
  have HLN := hid (line_two _ _ _ _ _ sToken token _ HG.out.bl HG.out.bel.size (by rw [List.length_append]; omega) (by decide) (by omega))
  go_wp2_with ((with_reducible refine HLN.out.mono ?_); rintro e w1 ⟨rfl, v1, h1, h2⟩; have HN := hid (HG.out.wrote h2 h1); clear h1 h2)
  ·go_meet
   case rel => exact ⟨_, _, by have h := HN.out; have hx : (!token.toList.isEmpty) = true := ‹_›; unfold pgT; rw [if_neg (fun hn => by rw [hn] at hx; cases hx)]; exact h⟩
  ·go_meet
   case rel => exact ⟨_, _, by have h := HG.out; have hx : (!token.toList.isEmpty) = false := ‹_›; unfold pgT; rw [if_pos (by simpa using hx), List.append_nil]; exact h⟩
 case rest =>
 clear HG y3
 obtain ⟨p3, v3, hg⟩ := hcut
 have HG := hid hg
 clear hg
 have y0 := blk_cell HG.out.xs 0
 have hpt := pgT_len token z1
 have HLEN := hid (Tryz.Builder_Len _ _ _ _ HG.out.bl.is)
 rw [Lib.byteCells_length] at HLEN
 go_upto_if 36 with (go_at_call 71; refine HLEN.out.mono ?_; rintro e w1 ⟨rfl, rfl⟩)
 go_cut [] from 36 to 42 (fun wx => Hid (∃ p v, Pg W #[.int .u64 idle, .int .u64 age, .int .u64 wait, .int .i64 rounds, key] #[.int .i64 st, .string id, .bool clear, .string token, .string user, .string note] (pgB st token user note) p v wx))
 case first =>
  have HRE := hid (fun (W' : World) => reason_any st W')
  go_wp2_with (first
   | (go_at_call 72; refine (HRE.out _).mono ?_; rintro e w1 ⟨rfl, hb⟩; have HG1 := hid (HG.out.next hb); have HLN := hid (line_one _ _ _ _ _ (reasonS st) w1 HG1.out.bl HG1.out.bel.size (by rw [List.length_append, List.length_append]; omega) (by have := reasonS_size st; omega)); clear hb)
   | ((with_reducible refine HLN.out.mono ?_); rintro e w2 ⟨rfl, v2, h1, h2⟩; have HN := hid (HG1.out.wrote h2 h1); clear h1 h2))
  ·go_meet
   case rel => exact ⟨_, _, by have h := HN.out; have hx : (((pgU user).length : Int) + (((pgN note).length : Int) + ((pgT token).length : Int)) == 0) = true := ‹_›; have he : pgU user ++ pgN note ++ pgT token = [] := List.eq_nil_of_length_eq_zero (by have := beq_iff_eq.1 hx; rw [List.length_append, List.length_append]; omega); unfold pgB; rw [if_pos he]; rw [he] at h; exact h⟩
  ·go_meet
   case rel => exact ⟨_, _, by have h := HG.out; have hx : (((pgU user).length : Int) + (((pgN note).length : Int) + ((pgT token).length : Int)) == 0) = false := ‹_›; have he : ¬ pgU user ++ pgN note ++ pgT token = [] := (fun he => by have h1 := congrArg List.length he; rw [List.length_append, List.length_append] at h1; have := beq_eq_false_iff_ne.1 hx; simp only [List.length_nil] at h1; omega); unfold pgB; rw [if_neg he]; exact h⟩
 case rest =>
 clear HG y0 HLEN
 obtain ⟨p4, v4, hg⟩ := hcut
 have HG := hid hg
 clear hg hpu hpn hpt z1 z2 z3
 go_upto_region 12 with (fail)
 obtain ⟨f, hf⟩ : ∃ f, f = wc.heap.size := ⟨_, rfl⟩
 have HF := hid (show Pf W #[.int .u64 idle, .int .u64 age, .int .u64 wait, .int .i64 rounds, key] #[.int .i64 st, .string id, .bool clear, .string token, .string user, .string note] (pgB st token user note) p4 v4 f (.slice none 0 0) [] (wc.alloc (.cells #[.slice none 0 0] 22)) from
  ⟨HG.out.next ((Below.refl _ _).alloc (Nat.le_refl _) _), by rw [hf]; exact blk_new _ _, Kd.R_nil _ _ _ _ _⟩)
 have HLT := hid (show W.heap.size + 1 + 1 + 1 < f from by have := HG.out.bl.lt; omega)
 rw [← hf]
 generalize wc.alloc (.cells #[.slice none 0 0] 22) = wa at HF ⊢
 clear HG hf
 have y1 := blk_cell HF.out.pg.xs 1
 have y2 := blk_cell HF.out.pg.xs 2
 have x1 := blk_cell HF.out.pg.xr 1
 have hu := Tryz.underlying38
 go_upto_block 0 with (fail)
 go_cut [] from 44 to 59 (fun wx => Hid (∃ p v fv, Pf W #[.int .u64 idle, .int .u64 age, .int .u64 wait, .int .i64 rounds, key] #[.int .i64 st, .string id, .bool clear, .string token, .string user, .string note] (pgB st token user note) p v f fv l wx))
 case first =>
  have HSET := hid (fun (id' v : ByteArray) (age' er : Int) (hc : cookie_Set.f sHostId id' age' = some (v, er)) => set_any f id' v age' er wa HF.out.xf (fun W' hW' => cookie_Set.calls sHostId id' age' v er W' (HTB.out.of_below ((HF.out.pg.bel.trans (hW'.mono HF.out.pg.bel.size)))) hc))
  go_wp2_with (fail)
  ·have h := HL.out
   have hx : (!id.toList.isEmpty) = true := ‹_›
   unfold pgF at h
   rw [if_neg (fun hn => by rw [hn] at hx; cases hx)] at h
   obtain ⟨⟨v, er⟩, hc, hv⟩ := Option.map_eq_some_iff.1 h
   refine (HSET.out id v (wrap64 age) er hc).mono ?_
   rintro e w1 ⟨rfl, fv, hx, hR, hm⟩
   have HN := hid (show Pf W #[.int .u64 idle, .int .u64 age, .int .u64 wait, .int .i64 rounds, key] #[.int .i64 st, .string id, .bool clear, .string token, .string user, .string note] (pgB st token user note) p4 v4 f fv l w1 from ⟨HF.out.pg.other HF.out.xf hm HLT.out, hx, by rw [← hv]; exact Kd.R_lower hR HF.out.pg.bel.size⟩)
   clear hx hR hm
   go_wp2
   go_meet
   case rel => exact ⟨_, _, _, HN.out⟩
  ·have h := HL.out
   have hx : (!id.toList.isEmpty) = false := ‹_›
   obtain rfl : clear = true := ‹_›
   unfold pgF at h
   rw [if_pos (by simpa using hx), if_pos rfl] at h
   obtain ⟨⟨v, er⟩, hc, hv⟩ := Option.map_eq_some_iff.1 h
   refine (HSET.out ⟨#[]⟩ v 0 er hc).mono ?_
   rintro e w1 ⟨rfl, fv, hx, hR, hm⟩
   have HN := hid (show Pf W #[.int .u64 idle, .int .u64 age, .int .u64 wait, .int .i64 rounds, key] #[.int .i64 st, .string id, .bool true, .string token, .string user, .string note] (pgB st token user note) p4 v4 f fv l w1 from ⟨HF.out.pg.other HF.out.xf hm HLT.out, hx, by rw [← hv]; exact Kd.R_lower hR HF.out.pg.bel.size⟩)
   clear hx hR hm
   go_wp2
   go_meet
   case rel => exact ⟨_, _, _, HN.out⟩
  ·have h := HL.out
   have hx : (!id.toList.isEmpty) = false := ‹_›
   obtain rfl : clear = false := ‹_›
   unfold pgF at h
   rw [if_pos (by simpa using hx), if_neg (by decide)] at h
   have HN := hid (show Pf W #[.int .u64 idle, .int .u64 age, .int .u64 wait, .int .i64 rounds, key] #[.int .i64 st, .string id, .bool false, .string token, .string user, .string note] (pgB st token user note) p4 v4 f (.slice none 0 0) l wa from by rw [← Option.some.inj h]; exact HF.out)
   go_meet
   case rel => exact ⟨_, _, _, HN.out⟩
 case rest =>
 clear HF y1 y2 x1
 obtain ⟨p5, v5, fv, hg⟩ := hcut
 have HF := hid hg
 clear hg
 obtain ⟨a9, c9, rfl, hc9, hC9⟩ := Kd.R_reads HF.out.rw_
 have HC9 := hid hC9
 clear hC9
 have y0 := blk_cell HF.out.pg.xs 0
 have x0 := blk_cell HF.out.xf 0
 have HFd := hid HF.out.drew
 go_upto_region 17 with (fail)
 refine start_ (n := 6) (S := fun w' => w'.cell? ⟨W.heap.size + 1, 0, none⟩ = some (.int .i64 st) ∧ w'.cell? ⟨f, 0, none⟩ = some (.slice a9 l.length c9)) (ds := [4, 5]) #[false, false, false, false, false, false] (by kernel_rfl) rfl rfl ⟨by have h := y0; simpa using h, by have h := x0; simpa using h⟩ (fun hHeld => ?_)
 generalize wc.drew = wd at hHeld HFd ⊢; have HSTR := hid (bl_string _ _ _ _ _ _ HFd.out.pg.bl (pgB_ne st token user note))
 refine pure_ (i := 0) (N := some 60) (v := ?_) (a' := ?_) #[true, false, false, false, false, false] rfl rfl (by kernel_rfl) (fun _ _ _ h => h) (Or.inl ⟨by rfl, ?_⟩) ?_ ?_
 rotate_left
 ·intro w'
  go_simp
  with_reducible rfl
 rotate_left
 ·simp only [Act.put, List.setIfInBounds_toArray, List.set_cons_zero, List.set_cons_succ]
  rfl
 refine take_ (i := 1) (N := some 61) (v := ?_) (a' := ?_) #[true, true, false, false, false, false] rfl rfl (by kernel_rfl) (fun _ _ _ h => h) (Or.inl ⟨by rfl, ?_⟩) hHeld ?_ ?_
 rotate_left
 ·rintro w' ⟨z0, z1⟩
  go_simp
  with_reducible rfl
 rotate_left
 ·simp only [Act.put, List.setIfInBounds_toArray, List.set_cons_zero, List.set_cons_succ]
  rfl
 refine take_ (i := 3) (N := some 63) (v := ?_) (a' := ?_) #[true, true, false, true, false, false] rfl rfl (by kernel_rfl) (fun _ _ _ h => h) (Or.inl ⟨by rfl, ?_⟩) hHeld ?_ ?_
 rotate_left
 ·rintro w' ⟨z0, z1⟩
  go_simp
  with_reducible rfl
 rotate_left
 ·simp only [Act.put, List.setIfInBounds_toArray, List.set_cons_zero, List.set_cons_succ]
  rfl
 refine one_ (i := 2) (N := some 62) #[true, true, true, true, false, false] rfl rfl (by kernel_rfl) (by decide) (fun K hK => ?_)
 go_simp; go_wp2_with (go_at_call 76; refine HSTR.out.mono ?_; rintro e w4 ⟨rfl, hm4⟩; have HD4 := hid (HFd.out.read hm4 HLT.out); clear hm4)
 refine hK.out _ _ (⟨by have h := blk_cell HD4.out.2.2.2.1 0; simpa using h, by have h := blk_cell HD4.out.2.2.2.2 0; simpa using h⟩) (fun hHeld => ?_)
 clear hK K
 refine last_ (i := 4) (N := some 64) #[true, true, true, true, true, false] rfl rfl (by kernel_rfl) (by decide) (fun K hK => ?_)
 go_simp; go_wp2_with (go_at_call 75; refine (resp_Page.calls st _ a9 c9 l r1 r2 r3 _ (Kd.R_reads' HD4.out.2.1).2.2 hc9 HR.out).mono ?_; rintro e w5 ⟨v1, v2, rfl, h1, h2, hb5⟩; have hs1 := Kd.R_reads h1; obtain ⟨A1, k1, rfl, _, _⟩ := hs1; have hs2 := Kd.V_slice h2; obtain ⟨A2, k2, rfl⟩ := hs2; have HO5 := hid (blk_below HD4.out.2.2.1 hb5); have HB5 := hid (HD4.out.1.trans (hb5.mono HD4.out.1.size)); have H1 := hid h1; have H2 := hid h2; clear h1 h2 hb5; have o0 := blk_cell HO5.out 0; have o1 := blk_cell HO5.out 1; have o2 := blk_cell HO5.out 2; have q0 := blk_frozen HO5.out 0; have q1 := blk_frozen HO5.out 1; have q2 := blk_frozen HO5.out 2)
 refine hK.out _ _ ?_
 clear hK K
 refine last_ (i := 5) (N := none) #[true, true, true, true, true, true] rfl rfl (by kernel_rfl) (by decide) (fun K hK => ?_)
 go_simp
 refine hK.out _ _ ?_
 clear hK K
 refine done_ (by kernel_rfl) ?_
 go_wp2
 exact ⟨rfl, _, page_results _ _ (W.heap.size + 1 + 1) rfl _ _ _ (blk_set (blk_set (blk_set HO5.out 0 _) 1 _) 2 _), pg_done HO5.out (by omega) (by have := blk_lt HD4.out.2.2.1; omega) HD4.out.1.size HB5.out H1.out H2.out⟩
end Go.Proofs.YthdiiiopjkaifaaGreatDoor.Pl

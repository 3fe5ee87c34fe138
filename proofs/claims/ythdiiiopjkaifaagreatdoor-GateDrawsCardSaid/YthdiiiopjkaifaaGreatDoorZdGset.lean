/-
strings.Builder: WriteString, WriteByte, WriteRune, Len and String, over a builder that is told by its block and its row; each tells what it changes.
gate.Page's line: what it writes into its builder, and what it changes.
gate.Page's set: a field that sets a cookie is laid into the fields' row.
-/
import Derived.Test.YthdiiiopjkaifaaGreatDoorZdSt
import Derived.Test.YthdiiiopjkaifaaGreatDoorZdGateW
import Derived.Test.YthdiiiopjkaifaaGreatDoorZdShelf
import Derived.Test.YthdiiiopjkaifaaGreatDoorZdPall0
section
namespace Go.Proofs.YthdiiiopjkaifaaGreatDoor.Pl
open Go Go.RowKit Go.Proofs.YthdiiiopjkaifaaGreatDoor.St Go.Proofs.YthdiiiopjkaifaaGreatDoorW.PrintWords Go.Proofs.YthdiiiopjkaifaaGreatDoorW.PrintLast
set_option linter.unusedVariables false
set_option linter.unusedSimpArgs false
/-- a builder: its block b, what it holds, its row's address at B or above -/
structure Bl (B b : Nat) (p v : Value) (bs : List Value) (w : World) : Prop where
 blk : w.heap[b]? = some (.cells #[p, v] 131 (0, 0))
 row : w.ownsRow B 5 1 v bs.length bs
 ad : p = .pointer none ∨ p = .pointer (some ⟨b, 0, none⟩)
 ge : B ≤ b
section
variable {B b : Nat} {p v : Value} {bs : List Value} {w w' : World}
theorem Bl.ne (h : Bl B b p v bs w) : v.ownBlock ≠ some b := Lib.ownBlock_ne h.row h.blk (by decide)
theorem Bl.at_ (h : Bl B b p v bs w) : Lib.BuilderAt 131 5 B b p bs w := ⟨h.ge, v, h.blk, h.row, h.ne⟩
theorem Bl.is (h : Bl B b p v bs w) : Lib.IsBuilder 131 5 B b bs w := by
 rcases h.ad with rfl | rfl
 ·exact .inl h.at_
 ·exact .inr h.at_
theorem Bl.dep (h : Bl B b p v bs w) (hb : w'.heap[b]? = w.heap[b]?) (hr : ∀ k, v.ownBlock = some k → w'.heap[k]? = w.heap[k]?) : Bl B b p v bs w' := ⟨hb.trans h.blk, own_move h.row hr, h.ad, h.ge⟩
theorem Bl.below (h : Bl B b p v bs w) (hb : Below w.heap.size w w') : Bl B b p v bs w' := h.dep (hb.block b (blk_lt h.blk)) (fun k hk => hb.block k (own_lt h.row k hk))
theorem Bl.lt (h : Bl B b p v bs w) : b < w.heap.size := blk_lt h.blk
theorem Bl.start (w : World) (B : Nat) (hB : B ≤ w.heap.size) : Bl B w.heap.size (.pointer none) (.slice none 0 0) [] (w.alloc (.cells #[.pointer none, .slice none 0 0] 131)) := ⟨blk_new _ _, own_nil _ _ _ _, .inl rfl, hB⟩
/-- the row is put back into the builder -/
theorem Bl.put {v' : Value} {bs' : List Value} (h : w.heap[b]? = some (.cells #[p, v] 131 (0, 0))) (hr : w.ownsRow B 5 1 v' bs'.length bs') (had : p = .pointer none ∨ p = .pointer (some ⟨b, 0, none⟩)) (hge : B ≤ b) : Bl B b p v' bs' (w.setCell ⟨b, 1, none⟩ v') :=
 ⟨blk_set h 1 v', own_move hr (fun k hk => Below.heap_setCell _ _ _ _ (fun e => by have e : k = b := e; rw [e] at hk; exact Lib.ownBlock_ne hr h (by decide) hk)), had, hge⟩
theorem check_bl (h : Bl B b p v bs w) : Calls Tryz.prog 115 #[.pointer (some ⟨b, 0, none⟩)] w fun e w' => e = .returned (.tuple #[]) ∧ Bl B b (.pointer (some ⟨b, 0, none⟩)) v bs w' ∧ Mut [b] w w' ∧ w'.heap.size = w.heap.size := by
 rcases h.ad with rfl | rfl
 ·refine (copyCheck_new b w (blk_cell h.blk 0) h.at_.shape (blk_frozen h.blk 0)).mono ?_
  rintro e w' ⟨rfl, rfl⟩
  exact ⟨rfl, ⟨blk_set h.blk 0 _, own_move h.row (fun k hk => Below.heap_setCell _ _ _ _ (fun e => by have e : k = b := e; rw [e] at hk; exact h.ne hk)), .inr rfl, h.ge⟩, .set w ⟨b, 0, none⟩ _, by simp [World.setCell]⟩
 ·refine (copyCheck_old b w (blk_cell h.blk 0)).mono ?_
  rintro e w' ⟨rfl, rfl⟩
  exact ⟨rfl, h, .refl _ _, rfl⟩
end
theorem mut3 {b : Nat} {v : Value} {w w1 w2 w3 : World} (h1 : Mut [b] w w1) (h2 : Mut v.ownBlock.toList w1 w2) (h3 : Mut [b] w2 w3) : Mut (b :: v.ownBlock.toList) w w3 :=
 ((h1.mono (fun x hx => by rw [List.mem_singleton.1 hx]; exact List.mem_cons_self)).trans (h2.mono (fun x hx => List.mem_cons_of_mem _ hx)) (fun x hx => .inl hx)).trans (h3.mono (fun x hx => by rw [List.mem_singleton.1 hx]; exact List.mem_cons_self)) (fun x hx => .inl hx)
theorem slice_of_own {w : World} {B : Nat} {e : TypeId} {v : Value} {n : Nat} {xs : List Value} (h : w.ownsRow B e 1 v n xs) : ∃ ao cap, v = .slice ao n cap := by
 rcases h.2 with ⟨hv, hn⟩ | ⟨g, cap, cur, hv, _⟩
 ·exact ⟨none, 0, by rw [hv, hn]⟩
 ·exact ⟨_, _, hv⟩
set_option maxRecDepth 100000 in
set_option maxHeartbeats 1000000 in
theorem bl_writeString (B b : Nat) (p v : Value) (bs : List Value) (s : ByteArray) (w : World) (h : Bl B b p v bs w) (hlen : bs.length + s.size ≤ 140737488355328) (hBw : B ≤ w.heap.size) :
  Calls Tryz.prog 68 #[.pointer (some ⟨b, 0, none⟩), .string s] w fun e w' => e = .returned (.tuple #[.int .i64 s.size, .nilIface]) ∧ ∃ v', Bl B b (.pointer (some ⟨b, 0, none⟩)) v' (bs ++ Lib.strCells s) w' ∧ Mut (b :: v.ownBlock.toList) w w' := by
 obtain ⟨i0, hi, hz0, hz1, hz2⟩ := info_parts (show (Tryz.prog.info? 5).map (fun i => (i.zero, i.size, i.bytes)) = some (some (.int .u8 0), 1, 1) by kernel_rfl)
 have hu := Tryz.underlying129
 have HCC := hid (check_bl h)
 go_enter Tryz.func68, Tryz.ntmps68
 go_wp2_with (go_at_call 115; refine HCC.out.mono ?_)
 rintro e w1 ⟨rfl, h1, hm1, hz⟩
 have HZ := hid hz
 clear hz
 have hrow := h1.row
 have c0 := blk_cell h1.blk 0
 have c1 := blk_cell h1.blk 1
 go_wp2_with (at_builtin; refine Lib.wpList_append_own_string _ rfl _ _ 23 9 rfl B 5 i0 Tryz.underlying23 Tryz.underlying9 hi hz0 hz1 hz2 _ _ _ rfl hrow s rfl ?c3 ?c4 ?c5 ?_)
 case c3 => unfold maxLen; omega
 case c4 => omega
 case c5 => have := HZ.out; omega
 intro v' w2 hown' hgrow _
 have hb2 : w2.heap[b]? = some (.cells #[.pointer (some ⟨b, 0, none⟩), v] 131 (0, 0)) := by
  rw [hgrow.block b (blk_lt h1.blk) (fun e => h1.ne e.symm)]
  exact h1.blk
 have d0 := blk_cell hb2 0
 have d1 := blk_cell hb2 1
 have f1 := blk_frozen hb2 1
 obtain ⟨ao, cap, rfl⟩ := slice_of_own hown'
 go_wp2
 go_ret2
 refine ⟨rfl, _, Bl.put hb2 (bs' := bs ++ Lib.strCells s) (by simpa [Lib.strCells_length] using hown') (.inr rfl) h.ge, mut3 hm1 (.grown hgrow) (.set _ ⟨b, 1, none⟩ _)⟩
set_option maxRecDepth 100000 in
set_option maxHeartbeats 1000000 in
theorem bl_writeByte (B b : Nat) (p v : Value) (bs : List Value) (c : Int) (w : World) (h : Bl B b p v bs w) (hlen : bs.length + 1 ≤ 140737488355328) (hBw : B ≤ w.heap.size) :
  Calls Tryz.prog 119 #[.pointer (some ⟨b, 0, none⟩), .int .u8 c] w fun e w' => e = .returned .nilIface ∧ ∃ v', Bl B b (.pointer (some ⟨b, 0, none⟩)) v' (bs ++ [.int .u8 c]) w' ∧ Mut (b :: v.ownBlock.toList) w w' := by
 obtain ⟨i0, hi, hz0, hz1, hz2⟩ := info_parts (show (Tryz.prog.info? 5).map (fun i => (i.zero, i.size, i.bytes)) = some (some (.int .u8 0), 1, 1) by kernel_rfl)
 have hu := Tryz.underlying129
 have HCC := hid (check_bl h)
 go_enter Tryz.func119, Tryz.ntmps119
 go_wp2_with (go_at_call 115; refine HCC.out.mono ?_)
 rintro e w1 ⟨rfl, h1, hm1, hz⟩
 have HZ := hid hz
 clear hz
 have hrow := h1.row
 have c0 := blk_cell h1.blk 0
 have c1 := blk_cell h1.blk 1
 go_wp2_with (at_builtin; refine wpList_append_own _ rfl _ _ 23 rfl B 5 i0 (.int .u8 0) 1 1 Tryz.underlying23 hi hz0 hz1 hz2 rfl (by decide) _ _ _ rfl (hrow.alloc _) ⟨w1.heap.size, 0, none⟩ 1 1 [.int .u8 c] rfl rfl ?c1 ?c2 ?c3 ?c4 ?c5 ?_)
 case c1 =>
  intro j u hj
  match j, hj with
  | 0, hj => simp at hj; subst hj; simp [Addr.add]
  | (j + 1), hj => simp at hj
 case c2 => intro u hu; simp at hu; subst hu; rfl
 case c3 => unfold maxLen; omega
 case c4 => omega
 case c5 => have := HZ.out; simp; omega
 intro v' w2 hown' hgrow _
 have hb2 : w2.heap[b]? = some (.cells #[.pointer (some ⟨b, 0, none⟩), v] 131 (0, 0)) := by
  rw [hgrow.block b (by have := blk_lt h1.blk; simp [World.alloc, -World.alloc_eq]; omega) (fun e => h1.ne e.symm)]
  exact blk_alloc h1.blk _
 have d0 := blk_cell hb2 0
 have d1 := blk_cell hb2 1
 have f1 := blk_frozen hb2 1
 obtain ⟨ao, cap, rfl⟩ := slice_of_own hown'
 go_wp2
 go_ret
 refine ⟨rfl, _, Bl.put hb2 (bs' := bs ++ [.int .u8 c]) (by simpa using hown') (.inr rfl) h.ge, mut3 hm1 (((Mut.alloc w1 _).mono (fun x hx => by cases hx)).trans (.grown hgrow) (fun x hx => .inl hx)) (.set _ ⟨b, 1, none⟩ _)⟩
set_option maxRecDepth 100000 in
set_option maxHeartbeats 1000000 in
theorem bl_writeRune (B b : Nat) (p v : Value) (bs : List Value) (r : Int) (hr0 : -2147483648 ≤ r) (hr1 : r ≤ 2147483647) (w : World) (h : Bl B b p v bs w) (hlen : bs.length + 4 ≤ 140737488355328) (hBw : B ≤ w.heap.size) :
  Calls Tryz.prog 118 #[.pointer (some ⟨b, 0, none⟩), .int .i32 r] w fun e w' => ∃ n, e = .returned (.tuple #[.int .i64 n, .nilIface]) ∧ ∃ v', Bl B b (.pointer (some ⟨b, 0, none⟩)) v' (bs ++ Lib.runeCells r) w' ∧ Mut (b :: v.ownBlock.toList) w w' := by
 have hu := Tryz.underlying129
 have HCC := hid (check_bl h)
 go_enter Tryz.func118, Tryz.ntmps118
 go_wp2_with (go_at_call 115; refine HCC.out.mono ?_)
 rintro e w1 ⟨rfl, h1, hm1, hz⟩
 have HZ := hid hz
 clear hz
 have hrow := h1.row
 have c0 := blk_cell h1.blk 0
 have c1 := blk_cell h1.blk 1
 obtain ⟨ao0, cap0, rfl⟩ := slice_of_own hrow
 go_wp2_with (go_at_call 170; refine (Tryz.utf8_AppendRune_plain B _ bs.length bs r hr0 hr1 w1 hrow hlen (by have := HZ.out; omega)).mono ?_)
 rintro e w2 ⟨v', rfl, hown', o, hgrow⟩
 have hb2 : w2.heap[b]? = some (.cells #[.pointer (some ⟨b, 0, none⟩), .slice ao0 bs.length cap0] 131 (0, 0)) := by
  rw [hgrow.block b (by have := blk_lt h1.blk; simp [World.alloc, -World.alloc_eq]; omega) (fun e => h1.ne e.symm)]
  exact blk_alloc h1.blk _
 have d0 := blk_cell hb2 0
 have d1 := blk_cell hb2 1
 have f1 := blk_frozen hb2 1
 obtain ⟨ao, cap, rfl⟩ := slice_of_own hown'
 go_wp2
 go_ret2
 refine ⟨_, rfl, _, Bl.put hb2 (bs' := bs ++ Lib.runeCells r) (by simpa using hown') (.inr rfl) h.ge, mut3 hm1 (((Mut.alloc w1 _).mono (fun x hx => by cases hx)).trans (.grown hgrow) (fun x hx => .inl hx)) (.set _ ⟨b, 1, none⟩ _)⟩
theorem mut_freeze (w : World) (a : Addr) (n : Nat) : Mut [a.block] w (w.freeze a n) := by
 unfold World.freeze
 split
 ·exact .refl _ _
 ·exact ⟨rfl, rfl, rfl, by simp, fun b _ hb => by
   simp only [Array.getElem?_modify]
   rw [if_neg (fun e => hb (by rw [e]; exact List.mem_singleton_self b))]⟩
theorem cells_byte : Tryz.prog.cellsOf 5 = 1 := by kernel_rfl
set_option maxRecDepth 100000 in
set_option maxHeartbeats 2000000 in
theorem bl_string (B b : Nat) (p v : Value) (l : List UInt8) (w : World) (h : Bl B b p v (Lib.byteCells l) w) (h0 : l ≠ []) :
  Calls Tryz.prog 76 #[.pointer (some ⟨b, 0, none⟩)] w fun e w' => e = .returned (.string ⟨l.toArray⟩) ∧ Mut v.ownBlock.toList w w' := by
 obtain ⟨hbk, hown, _, _⟩ := h
 have hl0 : l.length ≠ 0 := by simpa using h0
 rw [Lib.byteCells_length] at hown
 obtain ⟨g, cap, cur, rfl, hbg, hg, hnc, hcm, hcs, htake⟩ : ∃ g cap cur, v = .slice (some ⟨g, 0, none⟩) l.length cap ∧ B ≤ g ∧ w.heap[g]? = some (.cells cur 5 (0, 0)) ∧ l.length ≤ cap ∧ cap ≤ maxLen ∧ cur.size = cap * 1 ∧ cur.toList.take (l.length * 1) = Lib.byteCells l := by
  rcases hown.2 with ⟨_, hz⟩ | ⟨g, cap, cur, hv, r⟩
  ·exact absurd hz hl0
  ·exact ⟨g, cap, cur, hv, r⟩
 have c1 : w.drew.cell? ⟨b, 1, none⟩ = some (.slice (some ⟨g, 0, none⟩) l.length cap) := blk_cell (w := w.drew) hbk 1
 have hSD : (Builtin.unsafeSliceData_ #[23] 206 #[.slice (some ⟨g, 0, none⟩) l.length cap]).run Tryz.prog w.drew = .ok (.pointer (some ⟨g, 0, none⟩)) w.drew :=
  Lib.run_unsafeSliceData_row _ _ _ _ _ _ (by omega)
 have hUS : (Builtin.unsafeString_ #[206, 3] 9 #[.pointer (some ⟨g, 0, none⟩), .int .i64 l.length]).run Tryz.prog w.drew = .ok (.string ⟨l.toArray⟩) (w.drew.freeze ⟨g, 0, none⟩ l.length) := by
  refine Lib.run_unsafeString_row w.drew 206 3 9 5 Tryz.underlying206 cells_byte g cur.size (by have hg' : w.drew.heap[g]? = some (.cells cur 5 (0, 0)) := hg; simp [World.shape?, hg']) l h0 (by omega) (by unfold maxLen at hcm; omega) ?_
  intro j x hx
  exact hown.cells (g := g) rfl j (.int .u8 x.toNat) (by simp [Lib.byteCells, hx])
 have hu := Tryz.underlying129
 have mixed : Tryz.prog.follows .mixedOrders = true := by kernel_rfl
 clear hown hcm hcs htake hg
 go_enter Tryz.func76, Tryz.ntmps76
 go_wp2
 go_region_o
 all_goals (go_wp2; go_ret; exact ⟨rfl, ((Mut.drew w).mono (fun x hx => by cases hx)).trans (mut_freeze _ ⟨g, 0, none⟩ _) (fun x hx => .inl hx)⟩)
end Go.Proofs.YthdiiiopjkaifaaGreatDoor.Pl
end
section
namespace Go.Proofs.YthdiiiopjkaifaaGreatDoor.Pl
open Go Go.RowKit Go.Proofs.YthdiiiopjkaifaaGreatDoor.St Go.Proofs.YthdiiiopjkaifaaGreatDoor.MapS Go.Proofs.YthdiiiopjkaifaaGreatDoorW.PrintWords Go.Proofs.YthdiiiopjkaifaaGreatDoorW.PrintLast
set_option linter.unusedVariables false
set_option linter.unusedSimpArgs false
/-- what a line of texts is -/
def lineS (xs : List ByteArray) : ByteArray := (⟨(Lib.join (xs.map (·.data.toList)) [32]).toArray⟩ : ByteArray) ++ (⟨#[10]⟩ : ByteArray)
theorem lineS_size (xs : List ByteArray) : (lineS xs).size = (Lib.join (xs.map (·.data.toList)) [32]).length + 1 := by unfold lineS; rw [ByteArray.size_append]; rfl
set_option maxRecDepth 100000 in
set_option maxHeartbeats 1000000 in
theorem line_bl (B b bk o c : Nat) (p v : Value) (bs : List Value) (xs : List ByteArray) (w : World) (hcells : ∀ (j : Nat) x, xs[j]? = some x → w.cell? ⟨bk, o + j, none⟩ = some (.string x)) (hbk : bk < w.heap.size) (hcap : xs.length ≤ c) (hxs : xs.length ≤ 1000)
  (hlen : (Lib.join (xs.map (·.data.toList)) [32]).length ≤ 140737400000000) (hbs : bs.length ≤ 30000000) (h : Bl B b p v bs w) (hBw : B ≤ w.heap.size) :
  Calls Tryz.prog 67 #[.slice (some ⟨bk, o, none⟩) xs.length c, .pointer (some ⟨b, 0, none⟩)] w fun e w' => e = .returned (.tuple #[]) ∧ ∃ v', Bl B b (.pointer (some ⟨b, 0, none⟩)) v' (bs ++ Lib.strCells (lineS xs)) w' ∧ Mut (b :: v.ownBlock.toList) w w' := by
 have hz := lineS_size xs
 have HW := hid (fun (w' : World) (hb : Below w.heap.size w w') => bl_writeString B b p v bs (lineS xs) w' (h.below hb) (by omega) (Nat.le_trans hBw hb.size))
 have hsz : (⟨(Lib.join (xs.map (·.data.toList)) [32]).toArray⟩ : ByteArray).size + 1 ≤ 9223372036854775807 := by
  have : (⟨(Lib.join (xs.map (·.data.toList)) [32]).toArray⟩ : ByteArray).size = (Lib.join (xs.map (·.data.toList)) [32]).length := by simp [ByteArray.size]
  omega
 have HJ := hid (Tryz.strings_Join bk o c xs ⟨#[32]⟩ w hcells hbk (by omega) hcap (by exact Nat.le_trans hlen (by decide)))
 unfold lineS at HW ⊢
 obtain ⟨J, hJ⟩ : ∃ J, J = (⟨(Lib.join (xs.map (·.data.toList)) [32]).toArray⟩ : ByteArray) := ⟨_, rfl⟩
 rw [← hJ] at hsz HW ⊢
 have HJ := hid (show Calls Tryz.prog 69 #[.slice (some ⟨bk, o, none⟩) xs.length c, .string ⟨#[32]⟩] w fun e w' => e = .returned (.string J) ∧ Below w.heap.size w w' from by rw [hJ]; exact HJ.out)
 clear hJ hz hcells hbk hlen h
 go_enter Tryz.func67, Tryz.ntmps67
 go_wp2_with (first
  | (go_at_call 69; refine HJ.out.mono ?_; rintro e w1 ⟨rfl, hb1⟩; have HB1 := hid hb1; clear hb1)
  | (go_at_call 68; refine (HW.out _ HB1.out).mono ?_; rintro e w2 ⟨rfl, v2, h2, hm2⟩))
 go_end0
 exact ⟨rfl, v2, h2, ((Mut.of_below HB1.out).mono (fun x hx => by cases hx)).trans hm2 (fun x hx => .inl hx)⟩
end Go.Proofs.YthdiiiopjkaifaaGreatDoor.Pl
end
section
namespace Go.Proofs.YthdiiiopjkaifaaGreatDoor.Pl
open Go Go.RowKit Go.Proofs.YthdiiiopjkaifaaGreatDoor.St Go.Proofs.YthdiiiopjkaifaaGreatDoor.Pall Go.Proofs.YthdiiiopjkaifaaGreatDoorW.PrintWords Go.Proofs.YthdiiiopjkaifaaGreatDoorW.PrintLast
set_option linter.unusedVariables false
set_option linter.unusedSimpArgs false
def sHostId : ByteArray := ⟨#[95, 95, 72, 111, 115, 116, 45, 105, 100]⟩
def sSetCookie : ByteArray := ⟨#[83, 101, 116, 45, 67, 111, 111, 107, 105, 101]⟩
def setP (v : ByteArray) : S76 := ⟨sSetCookie, v⟩
set_option maxRecDepth 100000 in
set_option maxHeartbeats 1000000 in
theorem set_any (f : Nat) (id v : ByteArray) (age er : Int) (w : World) (hf : w.heap[f]? = some (.cells #[.slice none 0 0] 22 (0, 0)))
  (hset : ∀ W, Below w.heap.size w W → Calls Tryz.prog 74 #[.agg #[.string sHostId, .string id], .int .i64 age] W fun e w' => e = .returned (.tuple #[.string v, .int .u16 er]) ∧ Below W.heap.size W w') :
  Calls Tryz.prog 73 #[.string id, .int .i64 age, .pointer (some ⟨f, 0, none⟩)] w fun e w' => e = .returned (.tuple #[]) ∧ ∃ fv, w'.heap[f]? = some (.cells #[fv] 22 (0, 0)) ∧ Kd.R k76 76 w' w.heap.size (fun _ => True) fv [setP v] ∧ Mut [f] w w' := by
 have HS := hid hset
 have HF := hid hf
 have hu := Tryz.underlying22
 clear hset hf
 go_enter Tryz.func73, Tryz.ntmps73
 go_upto_region 1 with (go_at_call 74; refine (HS.out _ (Below.refl _ _)).mono ?_; rintro e w1 ⟨rfl, hb⟩; have HB := hid hb; have HF1 := hid (blk_below HF.out hb); clear hb)
 have c0 := blk_cell HF1.out 0
 have hlt := hid HB.out.size
 go_wp2_with ((with_reducible refine gate_builtin (b := .append) (xs := #[.tmp 14, .tmp 17]) rfl ?_); at_builtin; refine Kd.R_append k76 (w0 := w1) w1.heap.size rfl (.tmp 14) (.tmp 17) 22 76 (.agg #[.string ⟨#[]⟩, .string ⟨#[]⟩]) 32 rfl Tryz.underlying22 info76 rfl (by decide) (by omega) (.slice none 0 0) [] (setP v) [.string sSetCookie, .string v] (fun _ => True) (fun _ => False) rfl (by first | (go_simp; done) | (go_simp; rfl)) (k76_mkM _ _ _ (setP v)) (fun _ hk => hk.elim) (fun _ _ => trivial) (Kd.R_nil _ _ _ _ _) (Below.refl _ _) (Nat.le_refl _) (by show (0 + 1) * 32 ≤ 140737488355328; omega) ?_; intro v1 w2 hrow hb2 hg2 _; rw [List.nil_append] at hrow; have HF2 := hid (blk_below HF1.out hb2); have d0 := blk_cell HF2.out 0; have f0 := blk_frozen HF2.out 0; have HR := hid hrow; have HB2 := hid hb2; have hsl := Kd.R_reads hrow; obtain ⟨a1, k1, rfl, _, _⟩ := hsl; clear hrow hb2 hg2 c0)
 go_end0
 have hne : ∀ k, (Value.slice a1 [setP v].length k1).ownBlock = some k → k ≠ f := fun k hk e => by
  have h1 : w1.heap.size ≤ k := own_base HR.out.2.choose_spec.1 k hk
  have h2 := blk_lt HF1.out
  omega
 refine ⟨rfl, _, blk_set HF2.out 0 _, ?_, ?_⟩
 ·exact Kd.R_lower ((flat_iso _ (flat_pair flat_string flat_string)).R (d := k76) HR.out (fun _ _ => trivial) (fun k hk => Below.heap_setCell _ _ _ _ (hne k hk))) hlt.out
 ·exact (((Mut.of_below HB.out).mono (fun x hx => by cases hx)).trans ((Mut.of_below HB2.out).mono (bs' := [f]) (fun x hx => by cases hx)) (fun x hx => .inl hx)).trans (.set _ ⟨f, 0, none⟩ _) (fun x hx => .inl hx)
end Go.Proofs.YthdiiiopjkaifaaGreatDoor.Pl
end

/-
A map that the call made, with texts as keys: a look-up and a store by what stands in it, entry by entry.
(*strings.Builder).copyCheck and WriteString in a dump whose written panic the loader refuses: the shelf's own walks of them, turned to this dump.
strings.Builder: WriteString, WriteByte, WriteRune, Len and String, over a builder that is told by its block and its row; each tells what it changes.
-/
import Derived.Maps.OwnSet
import Derived.Laws.IdiomMaps
import Derived.Below
import Derived.Test.YthdiiiopjkaifaaGreatDoorProg
import Derived.Deep.Draws
import Derived.Deep.AppendLies
import Derived.Maps.AppendAt
import Derived.OwnWalk
import Derived.Laws.BytesArg
import Derived.Laws.MakeOwn
import Derived.Laws.OwnMore
import Derived.Deep.OwnRows
import Derived.Tactics
import Derived.Lib.ConvBytes
import Derived.Laws.Slices
import Derived.WalkKit
import Derived.KernelRfl
import Derived.RowKit3
import Derived.Deep.LoopGhost
import Derived.Deep.QuietTactic
import Derived.BigQuiet
import Derived.WideLaws
import Derived.Deep.DeepCutAuto
import Derived.Deep.CutBlock
import Derived.Deep.RegionHeld3
import Derived.Laws.Rows
import Derived.Lib.AppendStr
import Derived.ArgAppend
import Derived.Laws.IdiomCopy
import Derived.RowKit
import Derived.OrdersHeld
import Derived.Laws.BitsLemmas
import Derived.Laws.StructEq
import Derived.Test.YthdiiiopjkaifaaGreatDoorGeWN
import Derived.Test.YthdiiiopjkaifaaGreatDoorGeWWords
import Derived.Test.YthdiiiopjkaifaaGreatDoorGeWMore
import Derived.Test.YthdiiiopjkaifaaGreatDoorGeWLast
import Derived.Test.YthdiiiopjkaifaaGreatDoorGeWSized
import Derived.Lib.Builder
import Derived.ProofKit
import Derived.Tactics2
import Derived.Shelf.Strings.Builder1
import Derived.Test.YthdiiiopjkaifaaGreatDoorGeSt
import Derived.Test.YthdiiiopjkaifaaGreatDoorGeShelf
section
namespace Go.Proofs.YthdiiiopjkaifaaGreatDoor.MapS
open Go Go.RowKit
section
variable {P : Program} {w : World} {t k e : TypeId} {b : Nat} {es : Array MapEntry} {clock : Nat}
theorem hidM {p : Prop} (h : p) : Hid p := h
/-- what stands at a text, in a row of texts and what they lead to -/
def at_ : List (ByteArray × Value) → ByteArray → Option Value
 | [], _ => none
 | (n, v) :: l, s => if s = n then some v else at_ l s
def ents : List (ByteArray × Value) → Nat → List MapEntry
 | [], _ => []
 | (n, v) :: l, i => ⟨.string n, v, i⟩ :: ents l (i + 1)
theorem find_ents (s : ByteArray) : ∀ (l : List (ByteArray × Value)) (j i : Nat), ∃ q, Instr.findNow .string (.string s) (ents l j) i = some q ∧ q.map (·.2) = at_ l s
 | [], _, _ => ⟨none, rfl, rfl⟩
 | (n, v) :: l, j, i => by
  obtain ⟨q, h1, h2⟩ := find_ents s l (j + 1) (i + 1)
  by_cases h : s = n
  ·subst h
   refine ⟨some (i, v), ?_, ?_⟩
   ·have hb : (s == s) = true := (MapKept.bytes_beq s s).2 rfl
    simp only [ents, Instr.findNow, Instr.sameNow, hb]
   ·simp [at_]
  ·refine ⟨q, ?_, ?_⟩
   ·have hb : (s == n) = false := by
     cases hc : (s == n) with
     | false => rfl
     | true => exact absurd ((MapKept.bytes_beq s n).1 hc) h
    simp only [ents, Instr.findNow, Instr.sameNow, hb, h1]
   ·simp [at_, h, h2]
/-- a block that holds a map of these texts -/
def IsMap (w : World) (b : Nat) (l : List (ByteArray × Value)) : Prop := w.heap[b]? = some (.map (ents l 0).toArray l.length)
theorem look_run (ht : P.underlying t = some (.map k e)) (hk : P.underlying k = some .string) {l : List (ByteArray × Value)} (hb : IsMap w b l) (s : ByteArray) (c : Bool) {z : Value} (hz : (zeroValue e).run P w = .ok z w) :
  (Instr.lookup t (.map (some b)) (.string s) c).run P w = .ok (if c then .tuple #[(at_ l s).getD z, .bool (at_ l s).isSome] else (at_ l s).getD z) w := by
 have h1 := fun (em : Bool) => MapKept.run_checkKey (P := P) (w := w) hk (k := .string s) (by simp [MapKept.IsKey]) em 9999
 obtain ⟨q, hq, hqa⟩ := find_ents s l 0 0
 have h2 := MapKept.run_findKey (P := P) (w := w) hk hq
 rw [← hqa]
 unfold IsMap at hb
 cases q with
 | none => simp [Instr.lookup, run_underlying ht, MapKept.run_getObj_map hb, h1, h2, hz, Result.andThen]
 | some p => simp [Instr.lookup, run_underlying ht, MapKept.run_getObj_map hb, h1, h2, Result.andThen]
theorem ents_snoc (n : ByteArray) (v : Value) : ∀ (l : List (ByteArray × Value)) (j : Nat), ents (l ++ [(n, v)]) j = ents l j ++ [⟨.string n, v, j + l.length⟩]
 | [], j => by simp [ents]
 | (m, u) :: l, j => by
  have h := ents_snoc n v l (j + 1)
  simp only [List.cons_append, ents, h, List.length_cons]
  rw [Nat.add_right_comm, Nat.add_assoc]
theorem store_run (ht : P.underlying t = some (.map k e)) (hk : P.underlying k = some .string) {l : List (ByteArray × Value)} (hb : IsMap w b l) (s : ByteArray) (v : Value) (hn : at_ l s = none) :
  ∃ w', (Instr.mapUpdate t (.map (some b)) (.string s) v).run P w = .ok () w' ∧ IsMap w' b (l ++ [(s, v)]) ∧ w' = { w with heap := w.heap.setIfInBounds b (.map (ents (l ++ [(s, v)]) 0).toArray (l ++ [(s, v)]).length) } := by
 have h1 := fun (em : Bool) => MapKept.run_checkKey (P := P) (w := w) hk (k := .string s) (by simp [MapKept.IsKey]) em 9999
 obtain ⟨q, hq, hqa⟩ := find_ents s l 0 0
 have h2 := MapKept.run_findKey (P := P) (w := w) hk hq
 rw [hn] at hqa
 have hq0 : q = none := by cases q with | none => rfl | some p => simp at hqa
 subst hq0
 unfold IsMap at hb
 have e : (ents (l ++ [(s, v)]) 0).toArray = (ents l 0).toArray.push ⟨.string s, v, l.length⟩ := by rw [ents_snoc]; simp
 have hlt : b < w.heap.size := (Array.getElem?_eq_some_iff.1 hb).1
 refine ⟨_, ?_, ?_, rfl⟩
 ·rw [e]
  simp [Instr.mapUpdate, run_underlying ht, MapKept.run_getObj_map hb, h1, h2, MapKept.run_setObj_map _ hb, Result.andThen]
 ·unfold IsMap
  simp [hlt]
theorem store_below {w w' : World} {B b : Nat} {o : Obj} (hB : B ≤ b) (he : w' = { w with heap := w.heap.setIfInBounds b o }) : Below B w w' := by
 subst he
 refine ⟨rfl, rfl, rfl, by simp, fun k hk => ?_⟩
 have hne : b ≠ k := by omega
 simp [hne]
theorem store_other {w w' : World} {b g : Nat} {o : Obj} (hne : g ≠ b) (he : w' = { w with heap := w.heap.setIfInBounds b o }) : w'.heap[g]? = w.heap[g]? := by
 subst he
 simp [Ne.symm hne]
theorem IsMap.new (w : World) : IsMap (w.alloc (.map #[] 0)) w.heap.size [] := by unfold IsMap; simp [World.alloc, -World.alloc_eq, ents]
theorem IsMap.lt {l : List (ByteArray × Value)} (h : IsMap w b l) : b < w.heap.size := (Array.getElem?_eq_some_iff.1 h).1
theorem IsMap.below {w' : World} {l : List (ByteArray × Value)} (h : IsMap w b l) (hb : Below w.heap.size w w') : IsMap w' b l := (hb.block b h.lt).trans h
theorem IsMap.other {w' : World} {l : List (ByteArray × Value)} (h : IsMap w b l) (he : w'.heap[b]? = w.heap[b]?) : IsMap w' b l := he.trans h
theorem IsMap.alloc {l : List (ByteArray × Value)} (h : IsMap w b l) (o : Obj) : IsMap (w.alloc o) b l := h.other (Below.heap_alloc w o b h.lt)
theorem IsMap.drew {l : List (ByteArray × Value)} (h : IsMap w b l) : IsMap w.drew b l := h
/-- the same of a literal's entry -/
theorem wpList_insert {ops : Array Oper} {rest : List Oper} {o : Oper} {a : Act} {Q : Exit → Act → World → Prop} (hg : o.guard = none) (m x v : Operand) (hop : o.op = Op.insert t m x v)
  (ht : P.underlying t = some (.map k e)) (hk : P.underlying k = some .string) (hm : a.eval m = .map (some b)) (s : ByteArray) (hx : a.eval x = .string s) (val : Value) (hv : a.eval v = val) (l : List (ByteArray × Value)) (hb : IsMap w b l) (hn : at_ l s = none)
  (hK : ∀ w', IsMap w' b (l ++ [(s, val)]) → w'.heap.size = w.heap.size → (∀ g, g ≠ b → w'.heap[g]? = w.heap[g]?) → (∀ B, B ≤ b → Below B w w') → wpList P ops Q rest (a.put o.dst undef) w') : wpList P ops Q (o :: rest) a w := by
 refine wpList_plain hg fun K' hK' => ?_
 obtain ⟨w', hrun, r1, r2⟩ := store_run ht hk hb s val hn
 unfold Oper.wp
 simp [execOp, hop, hm, hx, hv, hrun, Result.andThen]
 exact hK' _ _ (hK w' r1 (by rw [r2]; simp) (fun g hg => store_other hg r2) (fun B hB => store_below hB r2))
/-- what stands while a map of maps is built -/
structure MS (W w : World) (ob : Nat) (ol : List (ByteArray × Value)) (ms : List (Nat × List (ByteArray × Value))) : Prop where
 bel : Below W.heap.size W w
 out : IsMap w ob ol
 ge : W.heap.size ≤ ob
 ins : ∀ p ∈ ms, IsMap w p.1 p.2 ∧ W.heap.size ≤ p.1 ∧ p.1 ≠ ob
 nd : (ms.map (·.1)).Nodup
theorem MS.start (W : World) : MS W (W.alloc (.map #[] 0)) W.heap.size [] [] := ⟨(Below.refl _ _).alloc (Nat.le_refl _) _, IsMap.new W, Nat.le_refl _, fun _ h => (by cases h), List.nodup_nil⟩
theorem MS.make {W w : World} {ob : Nat} {ol : List (ByteArray × Value)} {ms : List (Nat × List (ByteArray × Value))} (h : MS W w ob ol ms) : MS W (w.alloc (.map #[] 0)) ob ol ((w.heap.size, []) :: ms) where
 bel := h.bel.alloc h.bel.size _
 out := h.out.alloc _
 ge := h.ge
 ins := by
  intro p hp
  rcases List.mem_cons.1 hp with rfl | hp
  ·exact ⟨IsMap.new w, h.bel.size, fun e => by have := h.out.lt; omega⟩
  ·exact ⟨(h.ins p hp).1.alloc _, (h.ins p hp).2⟩
 nd := by
  rw [List.map_cons, List.nodup_cons]
  refine ⟨fun hm => ?_, h.nd⟩
  obtain ⟨p, hp, he⟩ := List.mem_map.1 hm
  have := (h.ins p hp).1.lt
  have he' : p.1 = w.heap.size := he
  omega
theorem MS.inner {W w w' : World} {ob b : Nat} {ol l l' : List (ByteArray × Value)} {ms : List (Nat × List (ByteArray × Value))} (h : MS W w ob ol ((b, l) :: ms)) (h1 : IsMap w' b l') (h2 : ∀ g, g ≠ b → w'.heap[g]? = w.heap[g]?) (h3 : ∀ B, B ≤ b → Below B w w') : MS W w' ob ol ((b, l') :: ms) where
 bel := h.bel.trans (h3 _ (h.ins _ List.mem_cons_self).2.1)
 out := h.out.other (h2 _ (fun e => (h.ins _ List.mem_cons_self).2.2 e.symm))
 ge := h.ge
 ins := by
  intro p hp
  rcases List.mem_cons.1 hp with rfl | hp
  ·exact ⟨h1, (h.ins _ List.mem_cons_self).2⟩
  ·have hn := h.nd
   rw [List.map_cons, List.nodup_cons] at hn
   exact ⟨(h.ins p (List.mem_cons_of_mem _ hp)).1.other (h2 _ (fun e => hn.1 (List.mem_map.2 ⟨p, hp, e⟩))), (h.ins p (List.mem_cons_of_mem _ hp)).2⟩
 nd := h.nd
theorem MS.outer {W w w' : World} {ob : Nat} {ol ol' : List (ByteArray × Value)} {ms : List (Nat × List (ByteArray × Value))} (h : MS W w ob ol ms) (h1 : IsMap w' ob ol') (h2 : ∀ g, g ≠ ob → w'.heap[g]? = w.heap[g]?) (h3 : ∀ B, B ≤ ob → Below B w w') : MS W w' ob ol' ms where
 bel := h.bel.trans (h3 _ h.ge)
 out := h1
 ge := h.ge
 ins := fun p hp => ⟨(h.ins p hp).1.other (h2 _ (h.ins p hp).2.2), (h.ins p hp).2⟩
 nd := h.nd
end
end Go.Proofs.YthdiiiopjkaifaaGreatDoor.MapS
end
section
namespace Go.Proofs.YthdiiiopjkaifaaGreatDoor.Pl
open Go Go.RowKit Go.Proofs.YthdiiiopjkaifaaGreatDoor.MapS Go.Proofs.YthdiiiopjkaifaaGreatDoorW.PrintWords Go.Proofs.YthdiiiopjkaifaaGreatDoorW.PrintLast
set_option linter.unusedVariables false
set_option linter.unusedSimpArgs false
theorem sizeBuilder : (Tryz.prog.info? 131).map (·.size) = some 2 := by kernel_rfl
theorem liesBuilder : liesAt Tryz.prog Tryz.prog.depth 131 (2 / Tryz.prog.cellsOf 131) 0 131 1 = true := by kernel_rfl
set_option maxRecDepth 100000 in
set_option maxHeartbeats 1000000 in
theorem copyCheck_old (b : Nat) (w : World) (h0 : w.cell? ⟨b, 0, none⟩ = some (.pointer (some ⟨b, 0, none⟩))) :
  Calls Tryz.prog 115 #[.pointer (some ⟨b, 0, none⟩)] w fun e w' => e = .returned (.tuple #[]) ∧ w' = w := by
 obtain ⟨j, hj, _⟩ := Option.map_eq_some_iff.1 sizeBuilder
 have hu := Tryz.underlying129
 go_enter Tryz.func115, Tryz.ntmps115
 go_wp2
 rw [Lib.run_neq_ptr_same w _ Tryz.underlying129 hj]
 go_wp2
 go_end0
 exact ⟨rfl, rfl⟩
set_option maxRecDepth 100000 in
set_option maxHeartbeats 1000000 in
theorem copyCheck_new (b : Nat) (w : World) (h0 : w.cell? ⟨b, 0, none⟩ = some (.pointer none)) (hsh : w.shape? b = some (131, 2)) (hfz : w.frozen? ⟨b, 0, none⟩ = false) :
  Calls Tryz.prog 115 #[.pointer (some ⟨b, 0, none⟩)] w fun e w' => e = .returned (.tuple #[]) ∧ w' = w.setCell ⟨b, 0, none⟩ (.pointer (some ⟨b, 0, none⟩)) := by
 obtain ⟨j, hj, hjs⟩ := Option.map_eq_some_iff.1 sizeBuilder
 have hu := Tryz.underlying129
 have hv := Tryz.underlying241
 go_enter Tryz.func115, Tryz.ntmps115
 go_wp2
 rw [Lib.run_to_unsafe w ⟨b, 0, none⟩ Tryz.underlying129 Tryz.underlying241 hj (by rw [hjs]; decide) hsh (Nat.zero_lt_succ 1)]
 simp only [Result.andThen]
 rw [Oper.upon_value]
 go_wp2
 rw [run_callFunc_extern Tryz.func167 (by kernel_rfl) (by kernel_rfl) (by kernel_rfl) (e := Extern.AbiNoEscape.same) (by kernel_rfl)]
 rw [Lib.run_noEscape]
 simp only [Result.andThen]
 rw [Oper.upon_value]
 go_wp2
 rw [Lib.run_from_unsafe w ⟨b, 0, none⟩ Tryz.underlying241 Tryz.underlying129 hj hsh liesBuilder]
 simp only [Result.andThen]
 rw [Oper.upon_value]
 go_wp2
 go_end0
 exact ⟨rfl, rfl⟩
end Go.Proofs.YthdiiiopjkaifaaGreatDoor.Pl
end
section
namespace Go.Proofs.YthdiiiopjkaifaaGreatDoor.Pl
open Go Go.RowKit Go.Proofs.YthdiiiopjkaifaaGreatDoor.St Go.Proofs.YthdiiiopjkaifaaGreatDoorW.PrintWords Go.Proofs.YthdiiiopjkaifaaGreatDoorW.PrintLast
set_option linter.unusedVariables false
set_option linter.unusedSimpArgs false
/-- a builder: its block b, what it holds, its row's address at B or above -/
structure Bl (B b : Nat) (p v : Value) (bs : List Value) (w : World) : Prop where
 blk : w.heap[b]? = some (.cells #[p, v] 131 (0, 0))
 row : w.ownsRow B 5 1 v bs.length bs
 ad : p = .pointer none ∨ p = .pointer (some ⟨b, 0, none⟩)
 ge : B ≤ b
section
variable {B b : Nat} {p v : Value} {bs : List Value} {w w' : World}
theorem Bl.ne (h : Bl B b p v bs w) : v.ownBlock ≠ some b := Lib.ownBlock_ne h.row h.blk (by decide)
theorem Bl.at_ (h : Bl B b p v bs w) : Lib.BuilderAt 131 5 B b p bs w := ⟨h.ge, v, h.blk, h.row, h.ne⟩
theorem Bl.is (h : Bl B b p v bs w) : Lib.IsBuilder 131 5 B b bs w := by
 rcases h.ad with rfl | rfl
 ·exact .inl h.at_
 ·exact .inr h.at_
theorem Bl.dep (h : Bl B b p v bs w) (hb : w'.heap[b]? = w.heap[b]?) (hr : ∀ k, v.ownBlock = some k → w'.heap[k]? = w.heap[k]?) : Bl B b p v bs w' := ⟨hb.trans h.blk, own_move h.row hr, h.ad, h.ge⟩
theorem Bl.below (h : Bl B b p v bs w) (hb : Below w.heap.size w w') : Bl B b p v bs w' := h.dep (hb.block b (blk_lt h.blk)) (fun k hk => hb.block k (own_lt h.row k hk))
theorem Bl.lt (h : Bl B b p v bs w) : b < w.heap.size := blk_lt h.blk
theorem Bl.start (w : World) (B : Nat) (hB : B ≤ w.heap.size) : Bl B w.heap.size (.pointer none) (.slice none 0 0) [] (w.alloc (.cells #[.pointer none, .slice none 0 0] 131)) := ⟨blk_new _ _, own_nil _ _ _ _, .inl rfl, hB⟩
/-- the row is put back into the builder -/
theorem Bl.put {v' : Value} {bs' : List Value} (h : w.heap[b]? = some (.cells #[p, v] 131 (0, 0))) (hr : w.ownsRow B 5 1 v' bs'.length bs') (had : p = .pointer none ∨ p = .pointer (some ⟨b, 0, none⟩)) (hge : B ≤ b) : Bl B b p v' bs' (w.setCell ⟨b, 1, none⟩ v') :=
 ⟨blk_set h 1 v', own_move hr (fun k hk => Below.heap_setCell _ _ _ _ (fun e => by have e : k = b := e; rw [e] at hk; exact Lib.ownBlock_ne hr h (by decide) hk)), had, hge⟩
theorem check_bl (h : Bl B b p v bs w) : Calls Tryz.prog 115 #[.pointer (some ⟨b, 0, none⟩)] w fun e w' => e = .returned (.tuple #[]) ∧ Bl B b (.pointer (some ⟨b, 0, none⟩)) v bs w' ∧ Mut [b] w w' ∧ w'.heap.size = w.heap.size := by
 rcases h.ad with rfl | rfl
 ·refine (copyCheck_new b w (blk_cell h.blk 0) h.at_.shape (blk_frozen h.blk 0)).mono ?_
  rintro e w' ⟨rfl, rfl⟩
  exact ⟨rfl, ⟨blk_set h.blk 0 _, own_move h.row (fun k hk => Below.heap_setCell _ _ _ _ (fun e => by have e : k = b := e; rw [e] at hk; exact h.ne hk)), .inr rfl, h.ge⟩, .set w ⟨b, 0, none⟩ _, by simp [World.setCell]⟩
 ·refine (copyCheck_old b w (blk_cell h.blk 0)).mono ?_
  rintro e w' ⟨rfl, rfl⟩
  exact ⟨rfl, h, .refl _ _, rfl⟩
end
theorem mut3 {b : Nat} {v : Value} {w w1 w2 w3 : World} (h1 : Mut [b] w w1) (h2 : Mut v.ownBlock.toList w1 w2) (h3 : Mut [b] w2 w3) : Mut (b :: v.ownBlock.toList) w w3 :=
 ((h1.mono (fun x hx => by rw [List.mem_singleton.1 hx]; exact List.mem_cons_self)).trans (h2.mono (fun x hx => List.mem_cons_of_mem _ hx)) (fun x hx => .inl hx)).trans (h3.mono (fun x hx => by rw [List.mem_singleton.1 hx]; exact List.mem_cons_self)) (fun x hx => .inl hx)
theorem slice_of_own {w : World} {B : Nat} {e : TypeId} {v : Value} {n : Nat} {xs : List Value} (h : w.ownsRow B e 1 v n xs) : ∃ ao cap, v = .slice ao n cap := by
 rcases h.2 with ⟨hv, hn⟩ | ⟨g, cap, cur, hv, _⟩
 ·exact ⟨none, 0, by rw [hv, hn]⟩
 ·exact ⟨_, _, hv⟩
set_option maxRecDepth 100000 in
set_option maxHeartbeats 1000000 in
theorem bl_writeString (B b : Nat) (p v : Value) (bs : List Value) (s : ByteArray) (w : World) (h : Bl B b p v bs w) (hlen : bs.length + s.size ≤ 140737488355328) (hBw : B ≤ w.heap.size) :
  Calls Tryz.prog 68 #[.pointer (some ⟨b, 0, none⟩), .string s] w fun e w' => e = .returned (.tuple #[.int .i64 s.size, .nilIface]) ∧ ∃ v', Bl B b (.pointer (some ⟨b, 0, none⟩)) v' (bs ++ Lib.strCells s) w' ∧ Mut (b :: v.ownBlock.toList) w w' := by
 obtain ⟨i0, hi, hz0, hz1, hz2⟩ := info_parts (show (Tryz.prog.info? 5).map (fun i => (i.zero, i.size, i.bytes)) = some (some (.int .u8 0), 1, 1) by kernel_rfl)
 have hu := Tryz.underlying129
 have HCC := hid (check_bl h)
 go_enter Tryz.func68, Tryz.ntmps68
 go_wp2_with (go_at_call 115; refine HCC.out.mono ?_)
 rintro e w1 ⟨rfl, h1, hm1, hz⟩
 have HZ := hid hz
 clear hz
 have hrow := h1.row
 have c0 := blk_cell h1.blk 0
 have c1 := blk_cell h1.blk 1
 go_wp2_with (at_builtin; refine Lib.wpList_append_own_string _ rfl _ _ 23 9 rfl B 5 i0 Tryz.underlying23 Tryz.underlying9 hi hz0 hz1 hz2 _ _ _ rfl hrow s rfl ?c3 ?c4 ?c5 ?_)
 case c3 => unfold maxLen; omega
 case c4 => omega
 case c5 => have := HZ.out; omega
 intro v' w2 hown' hgrow _
 have hb2 : w2.heap[b]? = some (.cells #[.pointer (some ⟨b, 0, none⟩), v] 131 (0, 0)) := by
  rw [hgrow.block b (blk_lt h1.blk) (fun e => h1.ne e.symm)]
  exact h1.blk
 have d0 := blk_cell hb2 0
 have d1 := blk_cell hb2 1
 have f1 := blk_frozen hb2 1
 obtain ⟨ao, cap, rfl⟩ := slice_of_own hown'
 go_wp2
 go_ret2
 refine ⟨rfl, _, Bl.put hb2 (bs' := bs ++ Lib.strCells s) (by simpa [Lib.strCells_length] using hown') (.inr rfl) h.ge, mut3 hm1 (.grown hgrow) (.set _ ⟨b, 1, none⟩ _)⟩
set_option maxRecDepth 100000 in
set_option maxHeartbeats 1000000 in
theorem bl_writeByte (B b : Nat) (p v : Value) (bs : List Value) (c : Int) (w : World) (h : Bl B b p v bs w) (hlen : bs.length + 1 ≤ 140737488355328) (hBw : B ≤ w.heap.size) :
  Calls Tryz.prog 119 #[.pointer (some ⟨b, 0, none⟩), .int .u8 c] w fun e w' => e = .returned .nilIface ∧ ∃ v', Bl B b (.pointer (some ⟨b, 0, none⟩)) v' (bs ++ [.int .u8 c]) w' ∧ Mut (b :: v.ownBlock.toList) w w' := by
 obtain ⟨i0, hi, hz0, hz1, hz2⟩ := info_parts (show (Tryz.prog.info? 5).map (fun i => (i.zero, i.size, i.bytes)) = some (some (.int .u8 0), 1, 1) by kernel_rfl)
 have hu := Tryz.underlying129
 have HCC := hid (check_bl h)
 go_enter Tryz.func119, Tryz.ntmps119
 go_wp2_with (go_at_call 115; refine HCC.out.mono ?_)
 rintro e w1 ⟨rfl, h1, hm1, hz⟩
 have HZ := hid hz
 clear hz
 have hrow := h1.row
 have c0 := blk_cell h1.blk 0
 have c1 := blk_cell h1.blk 1
 go_wp2_with (at_builtin; refine wpList_append_own _ rfl _ _ 23 rfl B 5 i0 (.int .u8 0) 1 1 Tryz.underlying23 hi hz0 hz1 hz2 rfl (by decide) _ _ _ rfl (hrow.alloc _) ⟨w1.heap.size, 0, none⟩ 1 1 [.int .u8 c] rfl rfl ?c1 ?c2 ?c3 ?c4 ?c5 ?_)
 case c1 =>
  intro j u hj
  match j, hj with
  | 0, hj => simp at hj; subst hj; simp [Addr.add]
  | (j + 1), hj => simp at hj
 case c2 => intro u hu; simp at hu; subst hu; rfl
 case c3 => unfold maxLen; omega
 case c4 => omega
 case c5 => have := HZ.out; simp; omega
 intro v' w2 hown' hgrow _
 have hb2 : w2.heap[b]? = some (.cells #[.pointer (some ⟨b, 0, none⟩), v] 131 (0, 0)) := by
  rw [hgrow.block b (by have := blk_lt h1.blk; simp [World.alloc, -World.alloc_eq]; omega) (fun e => h1.ne e.symm)]
  exact blk_alloc h1.blk _
 have d0 := blk_cell hb2 0
 have d1 := blk_cell hb2 1
 have f1 := blk_frozen hb2 1
 obtain ⟨ao, cap, rfl⟩ := slice_of_own hown'
 go_wp2
 go_ret
 refine ⟨rfl, _, Bl.put hb2 (bs' := bs ++ [.int .u8 c]) (by simpa using hown') (.inr rfl) h.ge, mut3 hm1 (((Mut.alloc w1 _).mono (fun x hx => by cases hx)).trans (.grown hgrow) (fun x hx => .inl hx)) (.set _ ⟨b, 1, none⟩ _)⟩
set_option maxRecDepth 100000 in
set_option maxHeartbeats 1000000 in
theorem bl_writeRune (B b : Nat) (p v : Value) (bs : List Value) (r : Int) (hr0 : -2147483648 ≤ r) (hr1 : r ≤ 2147483647) (w : World) (h : Bl B b p v bs w) (hlen : bs.length + 4 ≤ 140737488355328) (hBw : B ≤ w.heap.size) :
  Calls Tryz.prog 118 #[.pointer (some ⟨b, 0, none⟩), .int .i32 r] w fun e w' => ∃ n, e = .returned (.tuple #[.int .i64 n, .nilIface]) ∧ ∃ v', Bl B b (.pointer (some ⟨b, 0, none⟩)) v' (bs ++ Lib.runeCells r) w' ∧ Mut (b :: v.ownBlock.toList) w w' := by
 have hu := Tryz.underlying129
 have HCC := hid (check_bl h)
 go_enter Tryz.func118, Tryz.ntmps118
 go_wp2_with (go_at_call 115; refine HCC.out.mono ?_)
 rintro e w1 ⟨rfl, h1, hm1, hz⟩
 have HZ := hid hz
 clear hz
 have hrow := h1.row
 have c0 := blk_cell h1.blk 0
 have c1 := blk_cell h1.blk 1
 obtain ⟨ao0, cap0, rfl⟩ := slice_of_own hrow
 go_wp2_with (go_at_call 170; refine (Tryz.utf8_AppendRune_plain B _ bs.length bs r hr0 hr1 w1 hrow hlen (by have := HZ.out; omega)).mono ?_)
 rintro e w2 ⟨v', rfl, hown', o, hgrow⟩
 have hb2 : w2.heap[b]? = some (.cells #[.pointer (some ⟨b, 0, none⟩), .slice ao0 bs.length cap0] 131 (0, 0)) := by
  rw [hgrow.block b (by have := blk_lt h1.blk; simp [World.alloc, -World.alloc_eq]; omega) (fun e => h1.ne e.symm)]
  exact blk_alloc h1.blk _
 have d0 := blk_cell hb2 0
 have d1 := blk_cell hb2 1
 have f1 := blk_frozen hb2 1
 obtain ⟨ao, cap, rfl⟩ := slice_of_own hown'
 go_wp2
 go_ret2
 refine ⟨_, rfl, _, Bl.put hb2 (bs' := bs ++ Lib.runeCells r) (by simpa using hown') (.inr rfl) h.ge, mut3 hm1 (((Mut.alloc w1 _).mono (fun x hx => by cases hx)).trans (.grown hgrow) (fun x hx => .inl hx)) (.set _ ⟨b, 1, none⟩ _)⟩
theorem mut_freeze (w : World) (a : Addr) (n : Nat) : Mut [a.block] w (w.freeze a n) := by
 unfold World.freeze
 split
 ·exact .refl _ _
 ·exact ⟨rfl, rfl, rfl, by simp, fun b _ hb => by
   simp only [Array.getElem?_modify]
   rw [if_neg (fun e => hb (by rw [e]; exact List.mem_singleton_self b))]⟩
theorem cells_byte : Tryz.prog.cellsOf 5 = 1 := by kernel_rfl
set_option maxRecDepth 100000 in
set_option maxHeartbeats 2000000 in
theorem bl_string (B b : Nat) (p v : Value) (l : List UInt8) (w : World) (h : Bl B b p v (Lib.byteCells l) w) (h0 : l ≠ []) :
  Calls Tryz.prog 76 #[.pointer (some ⟨b, 0, none⟩)] w fun e w' => e = .returned (.string ⟨l.toArray⟩) ∧ Mut v.ownBlock.toList w w' := by
 obtain ⟨hbk, hown, _, _⟩ := h
 have hl0 : l.length ≠ 0 := by simpa using h0
 rw [Lib.byteCells_length] at hown
 obtain ⟨g, cap, cur, rfl, hbg, hg, hnc, hcm, hcs, htake⟩ : ∃ g cap cur, v = .slice (some ⟨g, 0, none⟩) l.length cap ∧ B ≤ g ∧ w.heap[g]? = some (.cells cur 5 (0, 0)) ∧ l.length ≤ cap ∧ cap ≤ maxLen ∧ cur.size = cap * 1 ∧ cur.toList.take (l.length * 1) = Lib.byteCells l := by
  rcases hown.2 with ⟨_, hz⟩ | ⟨g, cap, cur, hv, r⟩
  ·exact absurd hz hl0
  ·exact ⟨g, cap, cur, hv, r⟩
 have c1 : w.drew.cell? ⟨b, 1, none⟩ = some (.slice (some ⟨g, 0, none⟩) l.length cap) := blk_cell (w := w.drew) hbk 1
 have hSD : (Builtin.unsafeSliceData_ #[23] 206 #[.slice (some ⟨g, 0, none⟩) l.length cap]).run Tryz.prog w.drew = .ok (.pointer (some ⟨g, 0, none⟩)) w.drew :=
  Lib.run_unsafeSliceData_row _ _ _ _ _ _ (by omega)
 have hUS : (Builtin.unsafeString_ #[206, 3] 9 #[.pointer (some ⟨g, 0, none⟩), .int .i64 l.length]).run Tryz.prog w.drew = .ok (.string ⟨l.toArray⟩) (w.drew.freeze ⟨g, 0, none⟩ l.length) := by
  refine Lib.run_unsafeString_row w.drew 206 3 9 5 Tryz.underlying206 cells_byte g cur.size (by have hg' : w.drew.heap[g]? = some (.cells cur 5 (0, 0)) := hg; simp [World.shape?, hg']) l h0 (by omega) (by unfold maxLen at hcm; omega) ?_
  intro j x hx
  exact hown.cells (g := g) rfl j (.int .u8 x.toNat) (by simp [Lib.byteCells, hx])
 have hu := Tryz.underlying129
 have mixed : Tryz.prog.follows .mixedOrders = true := by kernel_rfl
 clear hown hcm hcs htake hg
 go_enter Tryz.func76, Tryz.ntmps76
 go_wp2
 go_region_o
 all_goals (go_wp2; go_ret; exact ⟨rfl, ((Mut.drew w).mono (fun x hx => by cases hx)).trans (mut_freeze _ ⟨g, 0, none⟩ _) (fun x hx => .inl hx)⟩)
end Go.Proofs.YthdiiiopjkaifaaGreatDoor.Pl
end

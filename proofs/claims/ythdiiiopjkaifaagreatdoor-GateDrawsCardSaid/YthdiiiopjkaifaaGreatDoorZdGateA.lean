/-
! ### 55. Reps told from the front, no append: for rows of one-cell elements and of wider ones
A map that the call made, with texts as keys: a look-up and a store by what stands in it, entry by entry.
gate.routes: a map of maps, as it is laid.
-/
import Derived.Test.YthdiiiopjkaifaaGreatDoorZdWWords
import Derived.SizedLaws
import Derived.ChangeSlices
import Derived.Maps.OwnSet
import Derived.Laws.IdiomMaps
import Derived.Below
import Derived.Test.YthdiiiopjkaifaaGreatDoorProg
import Derived.Deep.Draws
import Derived.Deep.AppendLies
import Derived.Maps.AppendAt
import Derived.OwnWalk
import Derived.Laws.BytesArg
import Derived.Laws.MakeOwn
import Derived.Laws.OwnMore
import Derived.Deep.OwnRows
import Derived.Tactics
import Derived.Lib.ConvBytes
import Derived.Laws.Slices
import Derived.WalkKit
import Derived.KernelRfl
import Derived.RowKit3
import Derived.Deep.LoopGhost
import Derived.Deep.QuietTactic
import Derived.BigQuiet
import Derived.WideLaws
import Derived.Deep.DeepCutAuto
import Derived.Deep.CutBlock
import Derived.Deep.RegionHeld3
import Derived.Laws.Rows
import Derived.Lib.AppendStr
import Derived.ArgAppend
import Derived.Laws.IdiomCopy
import Derived.RowKit
import Derived.OrdersHeld
import Derived.Laws.BitsLemmas
import Derived.Laws.StructEq
import Derived.Test.YthdiiiopjkaifaaGreatDoorZdWN
import Derived.Test.YthdiiiopjkaifaaGreatDoorZdWMore
import Derived.Test.YthdiiiopjkaifaaGreatDoorZdWLast
import Derived.ProofKit
import Derived.Tactics2
import Derived.Deep.RegionLaw
import Derived.Maps.OwnOps
section
namespace Go.Proofs.YthdiiiopjkaifaaGreatDoorW.PrintWords
/-- One cell an element. -/
theorem Reps.one {α : Type} {R : α → List Value → Prop} {ps : List α} {cs : List Value} {p : α} {v : Value} (hp : R p [v]) (h : Reps R 1 ps cs) : Reps R 1 (p :: ps) (v :: cs) := by
 refine ⟨by simp [h.1], fun j q hq => ?_⟩
 cases j with
 | zero =>
  simp only [List.getElem?_cons_zero, Option.some.injEq] at hq
  subst hq
  simpa using hp
 | succ j =>
  simp only [List.getElem?_cons_succ] at hq
  have h1 := h.2 j q hq
  simpa [Nat.mul_one] using h1
/-- More cells an element: told apart by the cells' list. -/
theorem Reps.front {α : Type} {R : α → List Value → Prop} {size : Nat} {ps : List α} {cs c all : List Value} {p : α} (hp : R p c) (hc : c.length = size) (h : Reps R size ps cs) (ha : c ++ cs = all) : Reps R size (p :: ps) all := by
 subst ha
 refine ⟨by rw [List.length_append, hc, h.1, List.length_cons, Nat.succ_mul, Nat.add_comm], fun j q hq => ?_⟩
 cases j with
 | zero =>
  simp only [List.getElem?_cons_zero, Option.some.injEq] at hq
  subst hq
  rw [Nat.zero_mul, List.drop_zero, List.take_append_of_le_length (by omega), List.take_of_length_le (by omega)]
  exact hp
 | succ j =>
  simp only [List.getElem?_cons_succ] at hq
  have h1 := h.2 j q hq
  rw [Nat.succ_mul, List.drop_append, List.drop_of_length_le (by rw [hc]; exact Nat.le_add_left _ _), List.nil_append, hc, Nat.add_sub_cancel]
  exact h1
theorem Reps.c2 {α : Type} {R : α → List Value → Prop} {ps : List α} {cs : List Value} {p : α} {va vb : Value} (hp : R p [va, vb]) (h : Reps R 2 ps cs) : Reps R 2 (p :: ps) (va :: vb :: cs) := Reps.front hp rfl h rfl
theorem Reps.c3 {α : Type} {R : α → List Value → Prop} {ps : List α} {cs : List Value} {p : α} {va vb vc : Value} (hp : R p [va, vb, vc]) (h : Reps R 3 ps cs) : Reps R 3 (p :: ps) (va :: vb :: vc :: cs) := Reps.front hp rfl h rfl
theorem Reps.c4 {α : Type} {R : α → List Value → Prop} {ps : List α} {cs : List Value} {p : α} {va vb vc vd : Value} (hp : R p [va, vb, vc, vd]) (h : Reps R 4 ps cs) : Reps R 4 (p :: ps) (va :: vb :: vc :: vd :: cs) := Reps.front hp rfl h rfl
theorem Reps.c5 {α : Type} {R : α → List Value → Prop} {ps : List α} {cs : List Value} {p : α} {va vb vc vd ve : Value} (hp : R p [va, vb, vc, vd, ve]) (h : Reps R 5 ps cs) : Reps R 5 (p :: ps) (va :: vb :: vc :: vd :: ve :: cs) := Reps.front hp rfl h rfl
theorem Reps.c6 {α : Type} {R : α → List Value → Prop} {ps : List α} {cs : List Value} {p : α} {va vb vc vd ve vf : Value} (hp : R p [va, vb, vc, vd, ve, vf]) (h : Reps R 6 ps cs) : Reps R 6 (p :: ps) (va :: vb :: vc :: vd :: ve :: vf :: cs) := Reps.front hp rfl h rfl
theorem Reps.c7 {α : Type} {R : α → List Value → Prop} {ps : List α} {cs : List Value} {p : α} {va vb vc vd ve vf vg : Value} (hp : R p [va, vb, vc, vd, ve, vf, vg]) (h : Reps R 7 ps cs) : Reps R 7 (p :: ps) (va :: vb :: vc :: vd :: ve :: vf :: vg :: cs) := Reps.front hp rfl h rfl
theorem Reps.c8 {α : Type} {R : α → List Value → Prop} {ps : List α} {cs : List Value} {p : α} {va vb vc vd ve vf vg vh : Value} (hp : R p [va, vb, vc, vd, ve, vf, vg, vh]) (h : Reps R 8 ps cs) : Reps R 8 (p :: ps) (va :: vb :: vc :: vd :: ve :: vf :: vg :: vh :: cs) := Reps.front hp rfl h rfl
theorem Reps.c9 {α : Type} {R : α → List Value → Prop} {ps : List α} {cs : List Value} {p : α} {va vb vc vd ve vf vg vh vi : Value} (hp : R p [va, vb, vc, vd, ve, vf, vg, vh, vi]) (h : Reps R 9 ps cs) : Reps R 9 (p :: ps) (va :: vb :: vc :: vd :: ve :: vf :: vg :: vh :: vi :: cs) := Reps.front hp rfl h rfl
theorem Reps.c10 {α : Type} {R : α → List Value → Prop} {ps : List α} {cs : List Value} {p : α} {va vb vc vd ve vf vg vh vi vj : Value} (hp : R p [va, vb, vc, vd, ve, vf, vg, vh, vi, vj]) (h : Reps R 10 ps cs) : Reps R 10 (p :: ps) (va :: vb :: vc :: vd :: ve :: vf :: vg :: vh :: vi :: vj :: cs) := Reps.front hp rfl h rfl
end Go.Proofs.YthdiiiopjkaifaaGreatDoorW.PrintWords
end
section
namespace Go.Proofs.YthdiiiopjkaifaaGreatDoorW.PrintWords
open Go.ChangeShapes Go.WideShapes
/-- A row's slice of whole numbers is no longer than its weight allows. -/
theorem sized_ints {H : Type} {enc : TypeId × Value → H} {P : Program} {W : World} {base : Nat} {spare : Nat → Bool} {held : Bool} {t e : TypeId} {k : IntKind} {a : Option Addr} {len cap : Nat} {d : DataW H} {ps : List MemPlace} {ts : List TypeId} {ds : List (DataW H)} {j : Nat}
  (hsz : (DataW.weightsEach P ts ds).all (· ≤ reachBytes) = true) (ht : ts[j]? = some t) (hd : ds[j]? = some d) (hu : P.underlying t = some (.slice e)) (he : P.underlying e = some (.int k)) (hc : P.cellsOf e = 1) {B : Nat} (hB : P.bytesOf e = B)
  (h : DataW.Trod enc P W base spare held t (.slice a len cap) d ps) : len * B ≤ 140737488351232 := by
 obtain ⟨fuel, hf⟩ := h
 rcases open_ints hu he hc hf with ⟨hcs, _⟩ | ⟨x, l, c, zs, hcs, _, hl, _, hz, hx, _, _⟩
 ·simp [Value.cells] at hcs
  obtain ⟨rfl, rfl, rfl⟩ := hcs
  simp
 ·simp [Value.cells] at hcs
  obtain ⟨rfl, rfl, rfl⟩ := hcs
  obtain ⟨hx, _⟩ := Prod.mk.inj hx
  subst hx
  have z := sized_slice hsz ht hd hu
  rw [hB] at z
  have hl2 : len ≤ zs.length := by
   rw [hz]
   split
   ·exact hl
   ·exact Nat.le_refl _
  have h1 : (lits (H := H) k (zs.take len)).length + (lits (H := H) k (zs.drop len)).length = zs.length := by
   simp [lits]
   omega
  rw [h1] at z
  exact Nat.le_trans (Nat.mul_le_mul_right _ hl2) z
end Go.Proofs.YthdiiiopjkaifaaGreatDoorW.PrintWords
end
section
namespace Go.Proofs.YthdiiiopjkaifaaGreatDoor.MapS
open Go Go.RowKit
section
variable {P : Program} {w : World} {t k e : TypeId} {b : Nat} {es : Array MapEntry} {clock : Nat}
theorem hidM {p : Prop} (h : p) : Hid p := h
/-- what stands at a text, in a row of texts and what they lead to -/
def at_ : List (ByteArray × Value) → ByteArray → Option Value
 | [], _ => none
 | (n, v) :: l, s => if s = n then some v else at_ l s
def ents : List (ByteArray × Value) → Nat → List MapEntry
 | [], _ => []
 | (n, v) :: l, i => ⟨.string n, v, i⟩ :: ents l (i + 1)
theorem find_ents (s : ByteArray) : ∀ (l : List (ByteArray × Value)) (j i : Nat), ∃ q, Instr.findNow .string (.string s) (ents l j) i = some q ∧ q.map (·.2) = at_ l s
 | [], _, _ => ⟨none, rfl, rfl⟩
 | (n, v) :: l, j, i => by
  obtain ⟨q, h1, h2⟩ := find_ents s l (j + 1) (i + 1)
  by_cases h : s = n
  ·subst h
   refine ⟨some (i, v), ?_, ?_⟩
   ·have hb : (s == s) = true := (MapKept.bytes_beq s s).2 rfl
    simp only [ents, Instr.findNow, Instr.sameNow, hb]
   ·simp [at_]
  ·refine ⟨q, ?_, ?_⟩
   ·have hb : (s == n) = false := by
     cases hc : (s == n) with
     | false => rfl
     | true => exact absurd ((MapKept.bytes_beq s n).1 hc) h
    simp only [ents, Instr.findNow, Instr.sameNow, hb, h1]
   ·simp [at_, h, h2]
/-- a block that holds a map of these texts -/
def IsMap (w : World) (b : Nat) (l : List (ByteArray × Value)) : Prop := w.heap[b]? = some (.map (ents l 0).toArray l.length)
theorem look_run (ht : P.underlying t = some (.map k e)) (hk : P.underlying k = some .string) {l : List (ByteArray × Value)} (hb : IsMap w b l) (s : ByteArray) (c : Bool) {z : Value} (hz : (zeroValue e).run P w = .ok z w) :
  (Instr.lookup t (.map (some b)) (.string s) c).run P w = .ok (if c then .tuple #[(at_ l s).getD z, .bool (at_ l s).isSome] else (at_ l s).getD z) w := by
 have h1 := fun (em : Bool) => MapKept.run_checkKey (P := P) (w := w) hk (k := .string s) (by simp [MapKept.IsKey]) em 9999
 obtain ⟨q, hq, hqa⟩ := find_ents s l 0 0
 have h2 := MapKept.run_findKey (P := P) (w := w) hk hq
 rw [← hqa]
 unfold IsMap at hb
 cases q with
 | none => simp [Instr.lookup, run_underlying ht, MapKept.run_getObj_map hb, h1, h2, hz, Result.andThen]
 | some p => simp [Instr.lookup, run_underlying ht, MapKept.run_getObj_map hb, h1, h2, Result.andThen]
theorem ents_snoc (n : ByteArray) (v : Value) : ∀ (l : List (ByteArray × Value)) (j : Nat), ents (l ++ [(n, v)]) j = ents l j ++ [⟨.string n, v, j + l.length⟩]
 | [], j => by simp [ents]
 | (m, u) :: l, j => by
  have h := ents_snoc n v l (j + 1)
  simp only [List.cons_append, ents, h, List.length_cons]
  rw [Nat.add_right_comm, Nat.add_assoc]
theorem store_run (ht : P.underlying t = some (.map k e)) (hk : P.underlying k = some .string) {l : List (ByteArray × Value)} (hb : IsMap w b l) (s : ByteArray) (v : Value) (hn : at_ l s = none) :
  ∃ w', (Instr.mapUpdate t (.map (some b)) (.string s) v).run P w = .ok () w' ∧ IsMap w' b (l ++ [(s, v)]) ∧ w' = { w with heap := w.heap.setIfInBounds b (.map (ents (l ++ [(s, v)]) 0).toArray (l ++ [(s, v)]).length) } := by
 have h1 := fun (em : Bool) => MapKept.run_checkKey (P := P) (w := w) hk (k := .string s) (by simp [MapKept.IsKey]) em 9999
 obtain ⟨q, hq, hqa⟩ := find_ents s l 0 0
 have h2 := MapKept.run_findKey (P := P) (w := w) hk hq
 rw [hn] at hqa
 have hq0 : q = none := by cases q with | none => rfl | some p => simp at hqa
 subst hq0
 unfold IsMap at hb
 have e : (ents (l ++ [(s, v)]) 0).toArray = (ents l 0).toArray.push ⟨.string s, v, l.length⟩ := by rw [ents_snoc]; simp
 have hlt : b < w.heap.size := (Array.getElem?_eq_some_iff.1 hb).1
 refine ⟨_, ?_, ?_, rfl⟩
 ·rw [e]
  simp [Instr.mapUpdate, run_underlying ht, MapKept.run_getObj_map hb, h1, h2, MapKept.run_setObj_map _ hb, Result.andThen]
 ·unfold IsMap
  simp [hlt]
theorem store_below {w w' : World} {B b : Nat} {o : Obj} (hB : B ≤ b) (he : w' = { w with heap := w.heap.setIfInBounds b o }) : Below B w w' := by
 subst he
 refine ⟨rfl, rfl, rfl, by simp, fun k hk => ?_⟩
 have hne : b ≠ k := by omega
 simp [hne]
theorem store_other {w w' : World} {b g : Nat} {o : Obj} (hne : g ≠ b) (he : w' = { w with heap := w.heap.setIfInBounds b o }) : w'.heap[g]? = w.heap[g]? := by
 subst he
 simp [Ne.symm hne]
theorem IsMap.new (w : World) : IsMap (w.alloc (.map #[] 0)) w.heap.size [] := by unfold IsMap; simp [World.alloc, -World.alloc_eq, ents]
theorem IsMap.lt {l : List (ByteArray × Value)} (h : IsMap w b l) : b < w.heap.size := (Array.getElem?_eq_some_iff.1 h).1
theorem IsMap.below {w' : World} {l : List (ByteArray × Value)} (h : IsMap w b l) (hb : Below w.heap.size w w') : IsMap w' b l := (hb.block b h.lt).trans h
theorem IsMap.other {w' : World} {l : List (ByteArray × Value)} (h : IsMap w b l) (he : w'.heap[b]? = w.heap[b]?) : IsMap w' b l := he.trans h
theorem IsMap.alloc {l : List (ByteArray × Value)} (h : IsMap w b l) (o : Obj) : IsMap (w.alloc o) b l := h.other (Below.heap_alloc w o b h.lt)
theorem IsMap.drew {l : List (ByteArray × Value)} (h : IsMap w b l) : IsMap w.drew b l := h
/-- the same of a literal's entry -/
theorem wpList_insert {ops : Array Oper} {rest : List Oper} {o : Oper} {a : Act} {Q : Exit → Act → World → Prop} (hg : o.guard = none) (m x v : Operand) (hop : o.op = Op.insert t m x v)
  (ht : P.underlying t = some (.map k e)) (hk : P.underlying k = some .string) (hm : a.eval m = .map (some b)) (s : ByteArray) (hx : a.eval x = .string s) (val : Value) (hv : a.eval v = val) (l : List (ByteArray × Value)) (hb : IsMap w b l) (hn : at_ l s = none)
  (hK : ∀ w', IsMap w' b (l ++ [(s, val)]) → w'.heap.size = w.heap.size → (∀ g, g ≠ b → w'.heap[g]? = w.heap[g]?) → (∀ B, B ≤ b → Below B w w') → wpList P ops Q rest (a.put o.dst undef) w') : wpList P ops Q (o :: rest) a w := by
 refine wpList_plain hg fun K' hK' => ?_
 obtain ⟨w', hrun, r1, r2⟩ := store_run ht hk hb s val hn
 unfold Oper.wp
 simp [execOp, hop, hm, hx, hv, hrun, Result.andThen]
 exact hK' _ _ (hK w' r1 (by rw [r2]; simp) (fun g hg => store_other hg r2) (fun B hB => store_below hB r2))
/-- what stands while a map of maps is built -/
structure MS (W w : World) (ob : Nat) (ol : List (ByteArray × Value)) (ms : List (Nat × List (ByteArray × Value))) : Prop where
 bel : Below W.heap.size W w
 out : IsMap w ob ol
 ge : W.heap.size ≤ ob
 ins : ∀ p ∈ ms, IsMap w p.1 p.2 ∧ W.heap.size ≤ p.1 ∧ p.1 ≠ ob
 nd : (ms.map (·.1)).Nodup
theorem MS.start (W : World) : MS W (W.alloc (.map #[] 0)) W.heap.size [] [] := ⟨(Below.refl _ _).alloc (Nat.le_refl _) _, IsMap.new W, Nat.le_refl _, fun _ h => (by cases h), List.nodup_nil⟩
theorem MS.make {W w : World} {ob : Nat} {ol : List (ByteArray × Value)} {ms : List (Nat × List (ByteArray × Value))} (h : MS W w ob ol ms) : MS W (w.alloc (.map #[] 0)) ob ol ((w.heap.size, []) :: ms) where
 bel := h.bel.alloc h.bel.size _
 out := h.out.alloc _
 ge := h.ge
 ins := by
  intro p hp
  rcases List.mem_cons.1 hp with rfl | hp
  ·exact ⟨IsMap.new w, h.bel.size, fun e => by have := h.out.lt; omega⟩
  ·exact ⟨(h.ins p hp).1.alloc _, (h.ins p hp).2⟩
 nd := by
  rw [List.map_cons, List.nodup_cons]
  refine ⟨fun hm => ?_, h.nd⟩
  obtain ⟨p, hp, he⟩ := List.mem_map.1 hm
  have := (h.ins p hp).1.lt
  have he' : p.1 = w.heap.size := he
  omega
theorem MS.inner {W w w' : World} {ob b : Nat} {ol l l' : List (ByteArray × Value)} {ms : List (Nat × List (ByteArray × Value))} (h : MS W w ob ol ((b, l) :: ms)) (h1 : IsMap w' b l') (h2 : ∀ g, g ≠ b → w'.heap[g]? = w.heap[g]?) (h3 : ∀ B, B ≤ b → Below B w w') : MS W w' ob ol ((b, l') :: ms) where
 bel := h.bel.trans (h3 _ (h.ins _ List.mem_cons_self).2.1)
 out := h.out.other (h2 _ (fun e => (h.ins _ List.mem_cons_self).2.2 e.symm))
 ge := h.ge
 ins := by
  intro p hp
  rcases List.mem_cons.1 hp with rfl | hp
  ·exact ⟨h1, (h.ins _ List.mem_cons_self).2⟩
  ·have hn := h.nd
   rw [List.map_cons, List.nodup_cons] at hn
   exact ⟨(h.ins p (List.mem_cons_of_mem _ hp)).1.other (h2 _ (fun e => hn.1 (List.mem_map.2 ⟨p, hp, e⟩))), (h.ins p (List.mem_cons_of_mem _ hp)).2⟩
 nd := h.nd
theorem MS.outer {W w w' : World} {ob : Nat} {ol ol' : List (ByteArray × Value)} {ms : List (Nat × List (ByteArray × Value))} (h : MS W w ob ol ms) (h1 : IsMap w' ob ol') (h2 : ∀ g, g ≠ ob → w'.heap[g]? = w.heap[g]?) (h3 : ∀ B, B ≤ ob → Below B w w') : MS W w' ob ol' ms where
 bel := h.bel.trans (h3 _ h.ge)
 out := h1
 ge := h.ge
 ins := fun p hp => ⟨(h.ins p hp).1.other (h2 _ (h.ins p hp).2.2), (h.ins p hp).2⟩
 nd := h.nd
end
end Go.Proofs.YthdiiiopjkaifaaGreatDoor.MapS
end
section
namespace Go.Proofs.YthdiiiopjkaifaaGreatDoor.Pl
open Go Go.RowKit Go.Proofs.YthdiiiopjkaifaaGreatDoor.MapS Go.Proofs.YthdiiiopjkaifaaGreatDoorW.PrintWords Go.Proofs.YthdiiiopjkaifaaGreatDoorW.PrintLast
set_option linter.unusedVariables false
set_option linter.unusedSimpArgs false
def sGET : ByteArray := ⟨#[71, 69, 84]⟩
def sPOST : ByteArray := ⟨#[80, 79, 83, 84]⟩
/-- the routes' map: of each path a map of methods -/
def pathsL (b1 b2 b3 b4 b5 : Nat) : List (ByteArray × Value) :=
 [(⟨#[47, 108, 111, 103, 105, 110]⟩, .map (some b1)), (⟨#[47, 114, 101, 103, 105, 115, 116, 101, 114]⟩, .map (some b2)), (⟨#[47, 108, 111, 103, 111, 117, 116]⟩, .map (some b3)), (⟨#[47, 109, 101]⟩, .map (some b4)), (⟨#[47, 110, 111, 116, 101]⟩, .map (some b5))]
def Routes (W w : World) (b : Nat) : Prop := ∃ b1 b2 b3 b4 b5, MS W w b (pathsL b1 b2 b3 b4 b5) [(b5, [(sPOST, .int .i64 6)]), (b4, [(sGET, .int .i64 5)]), (b3, [(sPOST, .int .i64 4)]), (b2, [(sPOST, .int .i64 2)]), (b1, [(sGET, .int .i64 1), (sPOST, .int .i64 3)])]
theorem make_run {P : Program} (t : TypeId) (w : World) : (Instr.makeMap t none).run P w = .ok (.map (some w.heap.size)) (w.alloc (.map #[] 0)) := by
 simp [Instr.makeMap, newObj, Sem.run, Result.andThen, World.alloc, -World.alloc_eq]
set_option maxRecDepth 100000 in
set_option maxHeartbeats 2000000 in
theorem routes_any (W : World) : Calls Tryz.prog 77 #[] W fun e w => ∃ b, e = .returned (.map (some b)) ∧ Routes W w b := by
 have hs : (W.alloc (.map #[] 0)).heap.size = W.heap.size + 1 := by simp [World.alloc, -World.alloc_eq]
 have h1 := (MS.start W).make
 rw [hs] at h1
 have HM := hidM h1
 clear h1 hs
 have hmk := fun (t : TypeId) (w : World) => make_run (P := Tryz.prog) t w
 go_enter Tryz.func77, Tryz.ntmps77
 go_wp2_with (first
  | (refine wpList_insert rfl (.tmp 2) (.const (.string ⟨#[71, 69, 84]⟩)) (.const (.int .i64 1)) rfl Tryz.underlying145 Tryz.underlying9 rfl ⟨#[71, 69, 84]⟩ rfl (.int .i64 1) rfl [] (HM.out.ins _ List.mem_cons_self).1 (by decide) ?_; intro wn i1 i0 i2 i3; have HN := hidM (HM.out.inner i1 i2 i3); clear i0 i1 i2 i3 HM; have HM := HN; clear HN)
  | (refine wpList_insert rfl (.tmp 2) (.const (.string ⟨#[80, 79, 83, 84]⟩)) (.const (.int .i64 3)) rfl Tryz.underlying145 Tryz.underlying9 rfl ⟨#[80, 79, 83, 84]⟩ rfl (.int .i64 3) rfl [(⟨#[71, 69, 84]⟩, .int .i64 1)] (HM.out.ins _ List.mem_cons_self).1 (by decide) ?_; intro wn i1 i0 i2 i3; have HN := hidM (HM.out.inner i1 i2 i3); clear i0 i1 i2 i3 HM; have HM := HN; clear HN)
  | (refine wpList_insert rfl (.tmp 1) (.const (.string ⟨#[47, 108, 111, 103, 105, 110]⟩)) (.tmp 3) rfl Tryz.underlying147 Tryz.underlying9 rfl ⟨#[47, 108, 111, 103, 105, 110]⟩ rfl _ rfl _ HM.out.out (by simp [at_]) ?_; intro wn i1 i0 i2 i3; have HN := hidM (HM.out.outer i1 i2 i3); clear i0 i1 i2 i3 HM; have HM := HN; clear HN)
  | (have HK := hidM (HM.out.make); refine wpList_insert rfl (.tmp 4) (.const (.string ⟨#[80, 79, 83, 84]⟩)) (.const (.int .i64 2)) rfl Tryz.underlying145 Tryz.underlying9 rfl ⟨#[80, 79, 83, 84]⟩ rfl (.int .i64 2) rfl [] (HK.out.ins _ List.mem_cons_self).1 (by decide) ?_; intro wn i1 i0 i2 i3; have HN := hidM (HK.out.inner i1 i2 i3); clear i0 i1 i2 i3 HM HK; have HM := HN; clear HN)
  | (refine wpList_insert rfl (.tmp 1) (.const (.string ⟨#[47, 114, 101, 103, 105, 115, 116, 101, 114]⟩)) (.tmp 5) rfl Tryz.underlying147 Tryz.underlying9 rfl ⟨#[47, 114, 101, 103, 105, 115, 116, 101, 114]⟩ rfl _ rfl _ HM.out.out (by simp [at_]) ?_; intro wn i1 i0 i2 i3; have HN := hidM (HM.out.outer i1 i2 i3); clear i0 i1 i2 i3 HM; have HM := HN; clear HN)
  | (have HK := hidM (HM.out.make); refine wpList_insert rfl (.tmp 6) (.const (.string ⟨#[80, 79, 83, 84]⟩)) (.const (.int .i64 4)) rfl Tryz.underlying145 Tryz.underlying9 rfl ⟨#[80, 79, 83, 84]⟩ rfl (.int .i64 4) rfl [] (HK.out.ins _ List.mem_cons_self).1 (by decide) ?_; intro wn i1 i0 i2 i3; have HN := hidM (HK.out.inner i1 i2 i3); clear i0 i1 i2 i3 HM HK; have HM := HN; clear HN)
  | (refine wpList_insert rfl (.tmp 1) (.const (.string ⟨#[47, 108, 111, 103, 111, 117, 116]⟩)) (.tmp 7) rfl Tryz.underlying147 Tryz.underlying9 rfl ⟨#[47, 108, 111, 103, 111, 117, 116]⟩ rfl _ rfl _ HM.out.out (by simp [at_]) ?_; intro wn i1 i0 i2 i3; have HN := hidM (HM.out.outer i1 i2 i3); clear i0 i1 i2 i3 HM; have HM := HN; clear HN)
  | (have HK := hidM (HM.out.make); refine wpList_insert rfl (.tmp 8) (.const (.string ⟨#[71, 69, 84]⟩)) (.const (.int .i64 5)) rfl Tryz.underlying145 Tryz.underlying9 rfl ⟨#[71, 69, 84]⟩ rfl (.int .i64 5) rfl [] (HK.out.ins _ List.mem_cons_self).1 (by decide) ?_; intro wn i1 i0 i2 i3; have HN := hidM (HK.out.inner i1 i2 i3); clear i0 i1 i2 i3 HM HK; have HM := HN; clear HN)
  | (refine wpList_insert rfl (.tmp 1) (.const (.string ⟨#[47, 109, 101]⟩)) (.tmp 9) rfl Tryz.underlying147 Tryz.underlying9 rfl ⟨#[47, 109, 101]⟩ rfl _ rfl _ HM.out.out (by simp [at_]) ?_; intro wn i1 i0 i2 i3; have HN := hidM (HM.out.outer i1 i2 i3); clear i0 i1 i2 i3 HM; have HM := HN; clear HN)
  | (have HK := hidM (HM.out.make); refine wpList_insert rfl (.tmp 10) (.const (.string ⟨#[80, 79, 83, 84]⟩)) (.const (.int .i64 6)) rfl Tryz.underlying145 Tryz.underlying9 rfl ⟨#[80, 79, 83, 84]⟩ rfl (.int .i64 6) rfl [] (HK.out.ins _ List.mem_cons_self).1 (by decide) ?_; intro wn i1 i0 i2 i3; have HN := hidM (HK.out.inner i1 i2 i3); clear i0 i1 i2 i3 HM HK; have HM := HN; clear HN)
  | (refine wpList_insert rfl (.tmp 1) (.const (.string ⟨#[47, 110, 111, 116, 101]⟩)) (.tmp 11) rfl Tryz.underlying147 Tryz.underlying9 rfl ⟨#[47, 110, 111, 116, 101]⟩ rfl _ rfl _ HM.out.out (by simp [at_]) ?_; intro wn i1 i0 i2 i3; have HN := hidM (HM.out.outer i1 i2 i3); clear i0 i1 i2 i3 HM; have HM := HN; clear HN))
 go_ret
 exact ⟨_, rfl, _, _, _, _, _, HM.out⟩
end Go.Proofs.YthdiiiopjkaifaaGreatDoor.Pl
end

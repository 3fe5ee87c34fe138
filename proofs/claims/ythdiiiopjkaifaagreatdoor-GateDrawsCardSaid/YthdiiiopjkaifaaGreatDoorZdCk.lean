/-
 strings.SplitSeq: the iterator's contract: whatever loop ranges over it, the pieces come one by one, in their order.
 A loop over strings.SplitSeq's pieces: one walk of its body, and what holds behind it. The iterator stores into a captured cell between two rounds: what the loop says of its own cells must bear that.
 cookie.Parse: what it comes to; its walk, over strings.SplitSeq's contract.
 cookie.Session: what it comes to; its walk.
 cookie.Parse and cookie.Session as the printed functions call them.
-/
import Derived.RangeFuncNested
import Derived.RangeFuncBound
import Derived.RangeFuncCalls
import Derived.RangeFuncLeaves
import Derived.Shelf.Abstract
import Derived.Shelf.RegionOpen
import Derived.WalkKit
import Derived.OwnWalkIn
import Derived.TacticsInMore
import Derived.LoopNIn
import Derived.LoopIn
import Derived.Test.YthdiiiopjkaifaaGreatDoorZdExt
import Derived.Maps.AppendAt
import Derived.Test.YthdiiiopjkaifaaGreatDoorZdPall2
import Derived.Outline
import Derived.LoopTactic
import Derived.WalkMore
namespace Go.Proofs.YthdiiiopjkaifaaGreatDoor.Split
open Go.RowKit Go.Shelf Go.Proofs.YthdiiiopjkaifaaGreatDoor.Pall
attribute [local go_sem] Oper.semAt_some
set_option linter.unusedVariables false
set_option linter.unusedSimpArgs false
/-- a text, cut at each sep -/
def splitK (sep : List UInt8) : Nat → List UInt8 → List (List UInt8)
 | 0, l => [l]
 | k + 1, l => if Lib.index l sep < 0 then [l] else l.take (Lib.index l sep).toNat :: splitK sep k (l.drop ((Lib.index l sep).toNat + sep.length))
def mkS (l : List UInt8) : ByteArray := ⟨l.toArray⟩
/-- What the iterator leans on: its three captured cells. -/
structure Caps (W : World) (Bp Bs Bv : Nat) (sep rest : ByteArray) : Prop where
 p : W.cell? ⟨Bp, 0, none⟩ = some (.string sep)
 s : W.cell? ⟨Bs, 0, none⟩ = some (.string rest)
 v : W.cell? ⟨Bv, 0, none⟩ = some (.int .i64 0)
 f : W.frozen? ⟨Bs, 0, none⟩ = false
theorem ba_ext {a b : ByteArray} (h : a.data.toList = b.data.toList) : a = b := by
 cases a; cases b; congr 1; exact Array.toList_inj.1 h
theorem cell_set_other (W : World) (a b : Nat) (v : Value) (h : a ≠ b) : (W.setCell ⟨b, 0, none⟩ v).cell? ⟨a, 0, none⟩ = W.cell? ⟨a, 0, none⟩ := by
 unfold World.cell?; rw [Below.heap_setCell W ⟨b, 0, none⟩ v a h]
def restSize (Bs : Nat) (W : World) : Nat := match W.cell? ⟨Bs, 0, none⟩ with | some (.string s) => s.size | _ => 0
theorem restSize_eq {Bs : Nat} {W : World} {s : ByteArray} (h : W.cell? ⟨Bs, 0, none⟩ = some (.string s)) : restSize Bs W = s.size := by unfold restSize; rw [h]
theorem split1_in (n : Nat) (hn : 1 ≤ n) (l Bp Bs Bv : Nat) (sep s0 : ByteArray) (hsep : sep.size = 2) (h0s : s0.size < 4294967281)
  (hne : Bp ≠ Bs ∧ Bv ≠ Bs) (J Jx : List ByteArray → World → Prop)
  (hJc : ∀ pre W v, J pre W → J pre (W.setCell ⟨Bs, 0, none⟩ v)) (hJS : ∀ pre W, J pre W → Sh W)
  (hY : ∀ pre x rest W, J pre W → Caps W Bp Bs Bv sep rest → (pre ++ [x]) <+: (splitK sep.data.toList s0.size s0.data.toList).map mkS → YieldAt Fence.wide (n - 1) Tryz.prog l #[.string x] W fun e W' =>
   (e = .returned (.bool true) ∧ J (pre ++ [x]) W' ∧ Caps W' Bp Bs Bv sep rest) ∨ (e = .returned (.bool false) ∧ Jx (pre ++ [x]) W'))
  (W : World) (hc : Caps W Bp Bs Bv sep s0) (h0 : J [] W) :
  CallsIn Fence.wide n Tryz.prog 272 #[.func (.yield l) #[] #[], .pointer (some ⟨Bp, 0, none⟩), .pointer (some ⟨Bs, 0, none⟩), .pointer (some ⟨Bv, 0, none⟩)] W fun e W' => (∃ v, e = .returned v) ∧
   (J ((splitK sep.data.toList s0.size s0.data.toList).map mkS) W' ∨ (∃ pre, pre <+: (splitK sep.data.toList s0.size s0.data.toList).map mkS ∧ Jx pre W')) := by
 refine callsIn_of_wp Tryz.func272 rfl trivial ?_ rfl
 simp only [Tryz.ntmps272, List.size_toArray, List.length_cons, List.length_nil, Nat.reduceAdd, Nat.reduceSub, Array.replicate_succ, Array.replicate_zero, List.push_toArray, List.append_toArray, List.nil_append, List.cons_append]
 have hcp := hc.p
 have hcs := hc.s
 have hcv := hc.v
 gi_wp2_with fail
 clear hcp hcs hcv
 gi_loopw [] (fun wr => ∃ (pre : List ByteArray) (rest : ByteArray) (k : Nat), rest.size ≤ k ∧ rest.size ≤ s0.size ∧ (splitK sep.data.toList s0.size s0.data.toList).map mkS = pre ++ (splitK sep.data.toList k rest.data.toList).map mkS ∧ Caps wr Bp Bs Bv sep rest ∧ J pre wr)
  (fun wr => restSize Bs wr)
 case atStart => exact ⟨[], s0, s0.size, Nat.le_refl _, Nat.le_refl _, rfl, hc, h0⟩
 case round =>
  obtain ⟨pre, rest, k, hk, hks, hx, hcr, hJs⟩ := hrel
  have hcp := hcr.p
  have hcs := hcr.s
  have hcv := hcr.v
  have hcf := hcr.f
  obtain ⟨m, hm⟩ := (hJS _ _ hJs).maxLen
  have hIdx := Tryz.strings_Index rest sep m wr (by omega) hm
  have hroom := Lib.index_room rest.data.toList sep.data.toList
  by_cases hi : Lib.index rest.data.toList sep.data.toList < 0
  ·-- no more sep
   have hend : splitK sep.data.toList k rest.data.toList = [rest.data.toList] := by cases k with | zero => rfl | succ k => unfold splitK; rw [if_pos hi]
   have hx2 : (splitK sep.data.toList s0.size s0.data.toList).map mkS = pre ++ [rest] := by rw [hx, hend]; rfl
   obtain ⟨fn, tmps, assign, body, hy, hR⟩ := hY pre rest rest wr hJs hcr (by rw [hx2]; exact List.prefix_refl _)
   clear hx hend hroom
   generalize Lib.index rest.data.toList sep.data.toList = ix at *
   gi_wp2_with (refine ⟨trivial, ?_⟩; gi_at_call 224; refine (callsIn_wide.2 hIdx).mono ?_; rintro e w' ⟨rfl, rfl⟩)
   refine hR.mono ?_
   rintro e W3 (⟨rfl, hJ3, hk3⟩ | ⟨rfl, hJx3⟩)
   ·gi_wp2
    go_end0
    exact ⟨⟨_, rfl⟩, .inl (by rw [hx2]; exact hJ3)⟩
   ·gi_wp2
    go_end0
    exact ⟨⟨_, rfl⟩, .inr ⟨_, by rw [hx2]; exact List.prefix_refl _, hJx3⟩⟩
  ·obtain ⟨i, hi'⟩ : ∃ i : Nat, Lib.index rest.data.toList sep.data.toList = i := ⟨(Lib.index rest.data.toList sep.data.toList).toNat, by omega⟩
   have hroom := hroom (by omega)
   have hst : ∃ k', k = k' + 1 := by
    cases k with
    | zero => exfalso; have : rest.data.toList.length = rest.size := rfl; have : sep.data.toList.length = sep.size := rfl; omega
    | succ k => exact ⟨k, rfl⟩
   obtain ⟨k', rfl⟩ := hst
   have hnext : splitK sep.data.toList (k' + 1) rest.data.toList = rest.data.toList.take i :: splitK sep.data.toList k' (rest.data.toList.drop (i + sep.data.toList.length)) := by
    conv => lhs; unfold splitK
    rw [if_neg hi, hi']; rfl
   rw [hi'] at hIdx hroom
   have hlen : sep.data.toList.length = 2 := hsep
   have hrl : rest.data.toList.length = rest.size := rfl
   rw [hlen] at hroom hnext
   have htk : mkS (rest.data.toList.take i) = rest.extract 0 i := by unfold mkS; apply ba_ext; rw [Lib.extract_data]; simp
   have hdr : (rest.extract (i + 2) rest.size).data.toList = rest.data.toList.drop (i + 2) := Lib.extract_to_end rest (i + 2)
   have hds : (rest.extract (i + 2) rest.size).size = rest.size - (i + 2) := by rw [ByteArray.size_extract]; omega
   have hx2 : (splitK sep.data.toList s0.size s0.data.toList).map mkS = (pre ++ [rest.extract 0 i]) ++ (splitK sep.data.toList k' (rest.extract (i + 2) rest.size).data.toList).map mkS := by rw [hx, hnext, hdr, List.map_cons, htk, List.append_assoc]; rfl
   obtain ⟨fn, tmps, assign, body, hy, hR⟩ := hY pre (rest.extract 0 i) rest wr hJs hcr (by rw [hx2]; exact List.prefix_append _ _)
   clear hx hnext hi htk hdr
   generalize Lib.index rest.data.toList sep.data.toList = ix at *
   subst hi'
   gi_wp2_with (refine ⟨trivial, ?_⟩; gi_at_call 224; refine (callsIn_wide.2 hIdx).mono ?_; rintro e w' ⟨rfl, rfl⟩)
   clear hIdx
   refine hR.mono ?_
   rintro e W3 (⟨rfl, hJ3, hk3⟩ | ⟨rfl, hJx3⟩)
   ·have hcp3 := hk3.p
    have hcs3 := hk3.s
    have hcv3 := hk3.v
    have hcf3 := hk3.f
    gi_wp2
    go_roundw
    case rel =>
     refine ⟨pre ++ [rest.extract 0 i], rest.extract (i + 2) rest.size, k', by omega, by omega, hx2, ⟨?_, ?_, ?_, ?_⟩, hJc _ _ _ hJ3⟩
     ·rw [cell_set_other _ _ _ _ hne.1]; exact hcp3
     ·exact World.cell?_setCell_same' _ _ _ (by rw [hcs3]; rfl)
     ·rw [cell_set_other _ _ _ _ hne.2]; exact hcv3
     ·rw [World.frozen?_setCell]; exact hcf3
    case measure =>
     rw [restSize_eq (World.cell?_setCell_same' _ _ _ (by rw [hcs3]; rfl)), restSize_eq hcr.s]; omega
   ·gi_wp2
    refine bodyPost_ret (results_none rfl _ _ _) rfl ?_
    exact ⟨⟨_, rfl⟩, .inr ⟨_, by rw [hx2]; exact List.prefix_append _ _, hJx3⟩⟩
end Go.Proofs.YthdiiiopjkaifaaGreatDoor.Split
namespace Go.Proofs.YthdiiiopjkaifaaGreatDoor.Split
open Go.RowKit Go.Shelf Go.Proofs.YthdiiiopjkaifaaGreatDoor.Pall
attribute [local go_sem] Oper.semAt_some
set_option linter.unusedVariables false
set_option linter.unusedSimpArgs false
theorem Caps.of_heap {W W' : World} {Bp Bs Bv : Nat} {sep rest : ByteArray} (h : Caps W Bp Bs Bv sep rest) (hp : W'.heap[Bp]? = W.heap[Bp]?) (hs : W'.heap[Bs]? = W.heap[Bs]?) (hv : W'.heap[Bv]? = W.heap[Bv]?) : Caps W' Bp Bs Bv sep rest :=
 ⟨by unfold World.cell?; rw [hp]; exact h.p, by unfold World.cell?; rw [hs]; exact h.s, by unfold World.cell?; rw [hv]; exact h.v, by unfold World.frozen?; rw [hs]; exact h.f⟩
theorem Caps.putObj {W : World} {Bp Bs Bv l : Nat} {sep rest : ByteArray} (h : Caps W Bp Bs Bv sep rest) (o : Obj) (hp : Bp < l) (hs : Bs < l) (hv : Bv < l) : Caps (W.putObj l o) Bp Bs Bv sep rest :=
 h.of_heap (World.putObj_heap_other (by omega)) (World.putObj_heap_other (by omega)) (World.putObj_heap_other (by omega))
theorem Caps.alloc {W : World} {Bp Bs Bv : Nat} {sep rest : ByteArray} (h : Caps W Bp Bs Bv sep rest) (o : Obj) (hp : Bp < W.heap.size) (hs : Bs < W.heap.size) (hv : Bv < W.heap.size) : Caps (W.alloc o) Bp Bs Bv sep rest :=
 h.of_heap (Below.heap_alloc _ _ _ hp) (Below.heap_alloc _ _ _ hs) (Below.heap_alloc _ _ _ hv)
/-- how a round's body may be left -/
def roundEnds (B Bp Bs Bv : Nat) (sep rest : ByteArray) (I Ix : List ByteArray → World → Prop) (xs : List ByteArray) (W : World) : Exit → Act → World → Prop
 | .normal, _, W' => KeepsFrom B W W' ∧ Caps W' Bp Bs Bv sep rest ∧ I xs W'
 | .ret, _, W' => KeepsFrom B W W' ∧ Ix xs W'
 | _, _, _ => False
theorem range_split {n : Nat} {g : Operand} {ps : Array Tmp} {assign body : Code} {Q : Exit → Act → World → Prop} {a : Act} {w : World} (h2 : 2 ≤ n) {Bp Bs Bv : Nat} {sep s0 : ByteArray} (hsep : sep.size = 2) (h0s : s0.size < 4294967281)
  (hg : a.eval g = .func (.func 272) #[] #[.pointer (some ⟨Bp, 0, none⟩), .pointer (some ⟨Bs, 0, none⟩), .pointer (some ⟨Bv, 0, none⟩)]) (hne : Bp ≠ Bs ∧ Bv ≠ Bs) (hlp : Bp < w.heap.size) (hls : Bs < w.heap.size) (hlv : Bv < w.heap.size) (hc : Caps w Bp Bs Bv sep s0)
  (hps : ps.size = 1) (I Ix : List ByteArray → World → Prop) (hI : OwnFrom w.heap.size I) (hIx : OwnFrom w.heap.size Ix) (hIc : ∀ pre W v, I pre W → I pre (W.setCell ⟨Bs, 0, none⟩ v)) (hIS : ∀ pre W, I pre W → Sh W) (h0 : I [] w) (a₁ : ByteArray → Act)
  (hassign : ∀ (l : Nat) (x : ByteArray) (W : World) (K : Act → World → Prop), K (a₁ x) W →
   assign.wpIn (Fence.wide.inRound l) (n - 1 - 1) Tryz.prog (Exit.then K (fun _ _ _ => False)) { tmps := (ps.zip #[Value.string x]).foldl (fun t (p, v) => t.setIfInBounds p v) a.tmps, defers := [] } W)
  (hbody : ∀ (l : Nat) (pre : List ByteArray) (x rest : ByteArray) (W : World), w.heap.size ≤ W.heap.size → I pre W → Caps W Bp Bs Bv sep rest → (pre ++ [x]) <+: (splitK sep.data.toList s0.size s0.data.toList).map mkS → body.wpIn (Fence.wide.inRound l) (n - 1 - 1) Tryz.prog (roundEnds w.heap.size Bp Bs Bv sep rest I Ix (pre ++ [x]) W) (a₁ x) W)
  (hdone : ∀ (D : Nat) (W : World), w.heap.size ≤ D → I ((splitK sep.data.toList s0.size s0.data.toList).map mkS) W → W.heap[D]? = some (.deferred (some [])) → Q .normal { a with defers := { target := .collected D, args := #[] } :: a.defers } W)
  (hstop : ∀ (D : Nat) (pre : List ByteArray) (W : World), w.heap.size ≤ D → pre <+: (splitK sep.data.toList s0.size s0.data.toList).map mkS → Ix pre W → W.heap[D]? = some (.deferred (some [])) → Code.ret.wpIn Fence.wide n Tryz.prog Q { a with defers := { target := .collected D, args := #[] } :: a.defers } W) :
  (Code.rangeFunc g ps assign body).wpIn Fence.wide n Tryz.prog Q a w := by
 refine wpIn_rangeFunc fun fn hfn => ?_
 obtain ⟨rec, hrec⟩ : ∃ rec : LoopState → Option Code → Loop, rec = fun st pe => { state := st, pending := pe, fn, tmps := a.tmps, params := ps, assign, body, defers := w.heap.size } := ⟨_, rfl⟩
 have hL1 : ((w.alloc (.deferred (some []))).alloc (.loop (rec .ready none))).heap[w.heap.size + 1]? = some (.loop (rec .ready none)) := by
  have := World.alloc_heap_new (w.alloc (.deferred (some []))) (.loop (rec .ready none)); rwa [World.size_alloc] at this
 have hK1 : ((w.alloc (.deferred (some []))).alloc (.loop (rec .ready none))).heap[w.heap.size]? = some (.deferred (some [])) :=
  (Below.heap_alloc _ _ _ (by simp)).trans (World.alloc_heap_new w _)
 have hI1 : I [] ((w.alloc (.deferred (some []))).alloc (.loop (rec .ready none))) := hI.alloc _ (hI.alloc _ h0)
 have hC1 : Caps ((w.alloc (.deferred (some []))).alloc (.loop (rec .ready none))) Bp Bs Bv sep s0 :=
  (hc.alloc _ hlp hls hlv).alloc _ (by simp; omega) (by simp; omega) (by simp; omega)
 generalize hW1 : (w.alloc (.deferred (some []))).alloc (.loop (rec .ready none)) = W1 at hL1 hK1 hI1 hC1
 refine ⟨w.heap.size + 1, [{ target := .collected w.heap.size, args := #[] }], W1, { target := .fn (.func 272) #[.pointer (some ⟨Bp, 0, none⟩), .pointer (some ⟨Bs, 0, none⟩), .pointer (some ⟨Bv, 0, none⟩)], args := #[.func (.yield (w.heap.size + 1)) #[] #[]] }, W1, 272,
  #[.func (.yield (w.heap.size + 1)) #[] #[]] ++ #[.pointer (some ⟨Bp, 0, none⟩), .pointer (some ⟨Bs, 0, none⟩), .pointer (some ⟨Bv, 0, none⟩)], W1, ?_, ?_, fun f' hf' => trivial, ?_, fun _ => by omega, ?_⟩
 ·rw [← hW1, hrec]; exact run_enterLoop_outer _ _ _ _ _
 ·simp only [resolve, hg]
  simp [go_sem]
 ·have eg := enters_of Tryz.func272 (by kernel_rfl) rfl
  simp [invoke, go_sem, eg]
 ·refine (split1_in (n - 1) (by omega) (w.heap.size + 1) Bp Bs Bv sep s0 hsep h0s hne
   (fun pre W => (I pre W ∧ w.heap.size + 1 < W.heap.size) ∧ W.heap[w.heap.size + 1]? = some (.loop (rec .ready none)) ∧ W.heap[w.heap.size]? = some (.deferred (some [])))
   (fun pre W => Ix pre W ∧ W.heap[w.heap.size + 1]? = some (.loop (rec .done (some .ret))) ∧ W.heap[w.heap.size]? = some (.deferred (some [])))
   (fun pre W v ⟨⟨hi, hs⟩, hl, hk⟩ => ⟨⟨hIc pre W v hi, (Array.getElem?_eq_some_iff.1 ((Below.heap_setCell _ _ _ _ (by show _ ≠ Bs; omega)).trans hl)).1⟩, (Below.heap_setCell _ _ _ _ (by show _ ≠ Bs; omega)).trans hl, (Below.heap_setCell _ _ _ _ (by show _ ≠ Bs; omega)).trans hk⟩)
   (fun pre W h => hIS pre W h.1.1) ?_ W1 hC1 ⟨⟨hI1, (Array.getElem?_eq_some_iff.1 hL1).1⟩, hL1, hK1⟩).mono ?_
  ·rintro pre x rest W ⟨⟨hi, hs⟩, hl, hk⟩ hcap hpre
   have hy := run_yield (P := Tryz.prog) (args := #[Value.string x]) hl (by rw [hrec]; exact hps.symm)
   rw [hrec] at hy
   refine ⟨fn, _, assign, body, hy, roundIn_of_wpIn hfn (hassign _ x W _ ⟨_, run_beginRound hl (by rw [hrec]), ?_⟩)⟩
   have hl2 : (W.putObj (w.heap.size + 1) (.loop { rec .ready none with state := .busy })).heap[w.heap.size + 1]? = some (.loop { rec .ready none with state := .busy }) := World.putObj_heap_same hs
   have hk2 : (W.putObj (w.heap.size + 1) (.loop { rec .ready none with state := .busy })).heap[w.heap.size]? = some (.deferred (some [])) := (World.putObj_heap_other (by omega)).trans hk
   refine wpIn_mono (hbody _ pre x rest _ (by simp; omega) (hI.putObj _ hi (by omega) hl rfl) (hcap.putObj _ (by omega) (by omega) (by omega)) hpre) ?_
   have fin : ∀ (jump : Option Code) (W3 : World), KeepsFrom w.heap.size (W.putObj (w.heap.size + 1) (.loop { rec .ready none with state := .busy })) W3 →
     (Instr.endRound (w.heap.size + 1) jump).run Tryz.prog W3 = .ok (.bool jump.isNone) (W3.putObj (w.heap.size + 1) (.loop (rec (if jump.isNone then .ready else .done) jump))) ∧
     W3.heap[w.heap.size + 1]? = some (.loop { rec .ready none with state := .busy }) ∧
     (W3.putObj (w.heap.size + 1) (.loop (rec (if jump.isNone then .ready else .done) jump))).heap[w.heap.size + 1]? = some (.loop (rec (if jump.isNone then .ready else .done) jump)) ∧
     (W3.putObj (w.heap.size + 1) (.loop (rec (if jump.isNone then .ready else .done) jump))).heap[w.heap.size]? = some (.deferred (some [])) := fun jump W3 hk3 => by
    have hl3 := hk3.same _ _ (by omega) hl2 rfl
    have hend := run_endRound (P := Tryz.prog) jump hl3
    rw [hrec] at hend ⊢
    exact ⟨hend, by rw [hrec] at hl3; exact hl3, World.putObj_heap_same (Array.getElem?_eq_some_iff.1 hl3).1, (World.putObj_heap_other (by omega)).trans (hk3.same _ _ (Nat.le_refl _) hk2 rfl)⟩
   rintro e a3 W3 hp
   cases e with
   | normal =>
    obtain ⟨hk3, hc3, hi3⟩ := hp
    obtain ⟨hr, hl3, hl4, hk4⟩ := fin none W3 hk3
    exact ⟨_, _, hr, .inl ⟨rfl, ⟨⟨hI.putObj _ hi3 (by omega) hl3 rfl, (Array.getElem?_eq_some_iff.1 hl4).1⟩, hl4, hk4⟩, hc3.putObj _ (by omega) (by omega) (by omega)⟩⟩
   | ret =>
    obtain ⟨hk3, hi3⟩ := hp
    obtain ⟨hr, hl3, hl4, hk4⟩ := fin (some .ret) W3 hk3
    exact ⟨_, _, hr, .inr ⟨rfl, hIx.putObj _ hi3 (by omega) hl3 rfl, hl4, hk4⟩⟩
   | exit id => exact hp.elim
   | goto t => exact hp.elim
   | panic ch => exact hp.elim
   | outgrown => exact hp.elim
  ·rintro e W2 ⟨⟨v, rfl⟩, (⟨⟨hi, _⟩, hl, hk⟩ | ⟨pre, hSp, hi, hl, hk⟩)⟩
   ·exact ⟨none, _, by have := run_endLoop (P := Tryz.prog) hl (by rw [hrec]; simp); rw [hrec] at this; exact this, hdone _ _ (Nat.le_refl _) (hI.putObj _ hi (by omega) hl rfl) ((World.putObj_heap_other (by omega)).trans hk)⟩
   ·exact ⟨some .ret, _, by have := run_endLoop (P := Tryz.prog) hl (by rw [hrec]; simp); rw [hrec] at this; exact this, hstop _ pre _ (Nat.le_refl _) hSp (hIx.putObj _ hi (by omega) hl rfl) ((World.putObj_heap_other (by omega)).trans hk)⟩
end Go.Proofs.YthdiiiopjkaifaaGreatDoor.Split
namespace Go.Proofs.YthdiiiopjkaifaaGreatDoor.Split
open Go.RowKit Go.Shelf Go.Proofs.YthdiiiopjkaifaaGreatDoor.Pall Go.Proofs.YthdiiiopjkaifaaGreatDoorW.PrintWords
attribute [local go_sem] Oper.semAt_some
set_option linter.unusedVariables false
set_option linter.unusedSimpArgs false
def bareS (v : ByteArray) : ByteArray := if 2 ≤ v.size ∧ Lib.hasPrefix v.data.toList [34] = true ∧ Lib.hasSuffix v.data.toList [34] = true then v.extract 1 (v.size - 1) else v
def oneS (x : ByteArray) : ByteArray × ByteArray × Bool :=
 (mkS (Lib.cut x.data.toList [61]).1, bareS (mkS (Lib.cut x.data.toList [61]).2.1), (Lib.cut x.data.toList [61]).2.2 && (tokL (Lib.cut x.data.toList [61]).1 && octL (bareS (mkS (Lib.cut x.data.toList [61]).2.1)).data.toList))
def pairS (x : ByteArray) : S76 := ⟨(oneS x).1, (oneS x).2.1⟩
def okS (x : ByteArray) : Bool := (oneS x).2.2
theorem one_j0 (k : Nat) (n v : ByteArray) (c q : Bool) (hv : v.size < 4294967281) (hq : q = true → 2 ≤ v.size) :
  cookie_one.j0 (k + 1) n v c q = some (n, (if q = true then v.extract 1 (v.size - 1) else v), c && (tokL n.data.toList && octL (if q = true then v.extract 1 (v.size - 1) else v).data.toList)) := by
 simp only [cookie_one.j0, head_Token.f, cookie_octets.f]
 cases q with
 | true =>
  have h2 := hq rfl
  have hw : wrap64 ((v.size : Int) - 1) = ((v.size - 1 : Nat) : Int) := by unfold wrap64; omega
  simp only [hw, if_true, if_pos (show (1 : Int) ≤ ((v.size - 1 : Nat) : Int) by omega), if_pos (show ((v.size - 1 : Nat) : Int) ≤ (v.size : Int) by omega), Int.toNat_natCast]
  cases c <;> cases hT : tokL n.data.toList <;> simp
 | false =>
  cases c <;> cases hT : tokL n.data.toList <;> simp
theorem cut_size (l s : List UInt8) : (Lib.cut l s).2.1.length ≤ l.length := by
 unfold Lib.cut; split <;> simp
theorem one_ev (k : Nat) (x : ByteArray) (hx : x.size < 4294967281) : cookie_one.f (k + 1) x = some (oneS x) := by
 have hv : (mkS (Lib.cut x.data.toList [61]).2.1).size < 4294967281 := by
  have h := cut_size x.data.toList [61]
  show (Lib.cut x.data.toList [61]).2.1.length < _
  have : x.data.toList.length = x.size := rfl
  omega
 unfold cookie_one.f strings_Cut.f oneS bareS
 rw [if_pos hx]
 generalize hn : (Lib.cut x.data.toList [61]).1 = n at *
 generalize hq : (Lib.cut x.data.toList [61]).2.1 = vl at *
 generalize hc : (Lib.cut x.data.toList [61]).2.2 = c at *
 have e1 : (Lib.cut x.data.toList (⟨#[61]⟩ : ByteArray).data.toList) = (n, vl, c) := by rw [← hn, ← hq, ← hc]
 simp only [e1, Option.bind_some]
 show (if ((mkS vl).size : Int) ≥ 2 then ((strings_HasPrefix.f (mkS vl) (⟨#[34]⟩ : ByteArray)).bind fun t106 => (if t106 = true then ((strings_HasSuffix.f (mkS vl) (⟨#[34]⟩ : ByteArray)).bind fun t107 => (cookie_one.j0 (k + 1) (mkS n) (mkS vl) c t107)) else (cookie_one.j0 (k + 1) (mkS n) (mkS vl) c false))) else (cookie_one.j0 (k + 1) (mkS n) (mkS vl) c false)) = _
 generalize mkS vl = v at *
 simp only [strings_HasPrefix.f, strings_HasSuffix.f, if_pos (show v.size ≤ 9223372036854775807 by omega), Option.bind_some]
 by_cases h2 : (v.size : Int) ≥ 2
 ·rw [if_pos h2]
  by_cases hp : Lib.hasPrefix v.data.toList (⟨#[34]⟩ : ByteArray).data.toList = true
  ·rw [if_pos hp]
   by_cases hs : Lib.hasSuffix v.data.toList (⟨#[34]⟩ : ByteArray).data.toList = true
   ·rw [if_pos ⟨by omega, hp, hs⟩, hs, one_j0 k _ _ _ true hv (fun _ => by omega), if_pos rfl]; rfl
   ·rw [if_neg (fun h => hs h.2.2), Bool.eq_false_iff.2 hs, one_j0 k _ _ _ false hv (fun h => by cases h), if_neg (by decide)]; rfl
  ·rw [if_neg hp, one_j0 k _ _ _ false hv (fun h => by cases h), if_neg (by decide), if_neg (fun h => hp h.2.1)]; rfl
 ·rw [if_neg h2, one_j0 k _ _ _ false hv (fun h => by cases h), if_neg (by decide), if_neg (fun h => h2 (by omega))]; rfl
theorem one_any (x : ByteArray) (hx : x.size < 4294967281) (w : World) (hS : Sh w) :
  Calls Tryz.prog 174 #[.string x] w fun e w' => e = .returned (.tuple #[.agg #[.string (pairS x).f0, .string (pairS x).f1], .bool (okS x)]) ∧ Below w.heap.size w w' :=
 cookie_one.calls 1 x _ _ _ w hS (one_ev 0 x hx)
def semiB : ByteArray := ⟨#[59, 32]⟩
def piecesS (s : ByteArray) : List ByteArray := (splitK semiB.data.toList s.size s.data.toList).map mkS
def parseS (s : ByteArray) : List S76 × Bool := if s.toList = [] then ([], true) else if (piecesS s).all okS = true then ((piecesS s).map pairS, true) else ([], false)
theorem splitSeq_any (s sep : ByteArray) (w : World) : Calls Tryz.prog 173 #[.string s, .string sep] w fun e w' =>
  e = .returned (.func (.func 272) #[] #[.pointer (some ⟨w.heap.size + 1, 0, none⟩), .pointer (some ⟨w.heap.size, 0, none⟩), .pointer (some ⟨w.heap.size + 2, 0, none⟩)]) ∧
  w' = ((w.alloc (.cells #[.string s] 9)).alloc (.cells #[.string sep] 9)).alloc (.cells #[.int .i64 0] 3) := by
 have inner : ∀ w : World, Calls Tryz.prog 220 #[.string s, .string sep, .int .i64 0] w fun e w' =>
   e = .returned (.func (.func 272) #[] #[.pointer (some ⟨w.heap.size + 1, 0, none⟩), .pointer (some ⟨w.heap.size, 0, none⟩), .pointer (some ⟨w.heap.size + 2, 0, none⟩)]) ∧
   w' = ((w.alloc (.cells #[.string s] 9)).alloc (.cells #[.string sep] 9)).alloc (.cells #[.int .i64 0] 3) := by
  intro w
  go_enter Tryz.func220, Tryz.ntmps220
  go_wp2
  go_ret
  exact ⟨rfl, rfl⟩
 go_enter Tryz.func173, Tryz.ntmps173
 go_wp2_with (go_at_call 220; refine (inner _).mono ?_; rintro e w' ⟨rfl, rfl⟩)
 go_ret
 exact ⟨rfl, rfl⟩
def cells2 (x : S76) : List Value := [.string x.f0, .string x.f1]
theorem reps2 (w : World) (base : Nat) (ok : Nat → Prop) (xs : List S76) : Reps (k76.M w base ok) 2 xs (xs.flatMap cells2) := by
 have h : ∀ (ys zs : List S76), Reps (k76.M w base ok) 2 ys (ys.flatMap cells2) → Reps (k76.M w base ok) 2 (ys ++ zs) ((ys ++ zs).flatMap cells2) := by
  intro ys zs
  induction zs generalizing ys with
  | nil => intro h; simpa using h
  | cons z zs ih =>
   intro h
   have := ih (ys ++ [z]) (by
    rw [List.flatMap_append]
    have e : [z].flatMap cells2 = cells2 z := by simp
    rw [e]
    exact h.snoc (k76_mkM w base ok z) rfl)
   simpa using this
 simpa using h [] xs (Reps.none _ _)
theorem row_of_owns {w : World} {base : Nat} {v : Value} {xs : List S76} (h : w.ownsRow base 76 2 v xs.length (xs.flatMap cells2)) : Kd.R k76 76 w base (fun _ => True) v xs :=
 ⟨fun _ _ => trivial, xs.flatMap cells2, h, reps2 _ _ _ _⟩
theorem pieces_len (sep : List UInt8) : ∀ (k : Nat) (l : List UInt8), (splitK sep k l).length ≤ k + 1
 | 0, l => Nat.le_refl _
 | k + 1, l => by
  unfold splitK; split
  ·simp
  ·rw [List.length_cons]; have := pieces_len sep k (l.drop ((Lib.index l sep).toNat + sep.length)); omega
theorem piece_le (sep : List UInt8) : ∀ (k : Nat) (l x : List UInt8), x ∈ splitK sep k l → x.length ≤ l.length
 | 0, l, x, h => by rw [List.mem_singleton.1 h]; exact Nat.le_refl _
 | k + 1, l, x, h => by
  unfold splitK at h; split at h
  ·rw [List.mem_singleton.1 h]; exact Nat.le_refl _
  ·rcases List.mem_cons.1 h with rfl | h
   ·simp; omega
   ·have := piece_le sep k _ x h; simp at this; omega
theorem parse_results (tmps : Array Value) (w : World) (g1 g2 : Nat) (h2 : tmps.getD 2 undef = .pointer (some ⟨g1, 0, none⟩)) (h3 : tmps.getD 3 undef = .pointer (some ⟨g2, 0, none⟩)) (v b : Value)
  (c1 : w.cell? ⟨g1, 0, none⟩ = some v) (c2 : w.cell? ⟨g2, 0, none⟩ = some b) : (results Tryz.f123 tmps).run Tryz.prog w = .ok (.tuple #[v, b]) w := by
 have hr : Tryz.f123.results = #[.cell 2 22, .cell 3 4] := rfl
 have hu := Tryz.underlying22
 have hb := Tryz.underlying4
 unfold results
 rw [hr]
 rw [Array.getD_eq_getD_getElem?] at h2 h3
 simp [h2, h3, loadVar, c1, c2, go_sem, hu, hb, isAgg, asAddr]
theorem owns_slice {W : World} {base : Nat} {e : TypeId} {size n : Nat} {v : Value} {xs : List Value} (h : W.ownsRow base e size v n xs) : ∃ A m c, v = .slice A m c := by
 rcases h.2 with ⟨rfl, _⟩ | ⟨g, cap, _, rfl, _⟩
 ·exact ⟨_, _, _, rfl⟩
 ·exact ⟨_, _, _, rfl⟩
theorem piece_in {s x : ByteArray} {pre : List ByteArray} (h : (pre ++ [x]) <+: (splitK semiB.data.toList s.size s.data.toList).map mkS) : x.size ≤ s.size ∧ pre.length ≤ s.size := by
 constructor
 ·have hm := h.subset (List.mem_append_right pre (List.mem_singleton_self x))
  obtain ⟨l, hl, rfl⟩ := List.mem_map.1 hm
  exact piece_le _ _ _ _ hl
 ·have h1 := h.length_le
  rw [List.length_append, List.length_map] at h1
  have h2 := pieces_len semiB.data.toList s.size s.data.toList
  simp at h1
  omega
theorem cell_two_new (w : World) (x y : Value) (t : TypeId) (n : Nat) (hn : n = w.heap.size) : ∀ (j : Nat) (u : Value), [x, y][j]? = some u → (w.alloc (.cells #[x, y] t)).cell? ((⟨n, 0, none⟩ : Addr).add j) = some u := by
 intro j u hj
 subst hn
 match j, hj with
 | 0, hj =>
  have e : (⟨w.heap.size, 0, none⟩ : Addr).add 0 = ⟨w.heap.size, 0, none⟩ := rfl
  rw [e]; unfold World.cell?; rw [World.alloc_heap_new]; simpa using hj
 | 1, hj =>
  have e : (⟨w.heap.size, 0, none⟩ : Addr).add 1 = ⟨w.heap.size, 1, none⟩ := rfl
  rw [e]; unfold World.cell?; rw [World.alloc_heap_new]; simpa using hj
theorem boxE_own {β : Type} (B : Nat) (t : TypeId) : Own (fun (_ : β) W => ∃ u, Boxed W B t u) := fun s X Y row ⟨u, hs⟩ hg hrow => ⟨u, boxed_own B t (fun _ : β => u) s X Y row hs hg hrow⟩
/-- between two rounds -/
def ParseI (w : World) (N Bs : Nat) (pre : List ByteArray) (W : World) : Prop :=
 (∃ v, Boxed W (N + 2) 22 v ∧ W.ownsRow N 76 2 v pre.length ((pre.map pairS).flatMap cells2) ∧ True) ∧ Below N w W ∧ Boxed W N 22 (.slice none 0 0) ∧ Boxed W (N + 1) 4 (.bool false) ∧ (∃ u, Boxed W Bs 9 u) ∧ (∃ u, Boxed W (Bs + 1) 9 u) ∧ (∃ u, Boxed W (Bs + 2) 3 u) ∧ pre.all okS = true
/-- where a round has left -/
def ParseX (w : World) (N : Nat) (pre : List ByteArray) (W : World) : Prop :=
 Below N w W ∧ Boxed W N 22 (.slice none 0 0) ∧ Boxed W (N + 1) 4 (.bool false) ∧ pre.all okS = false
theorem ParseI.own {w : World} {N Bs B : Nat} (hN : N ≤ w.heap.size) (hB : N ≤ B) : OwnFrom B (ParseI w N Bs) :=
 OwnFrom.and (Own.from (holdsRow_own N (N + 2) 22 76 2 (fun pre : List ByteArray => pre.length) (fun pre => (pre.map pairS).flatMap cells2) (fun _ _ => True)) _)
  (OwnFrom.and (ownFrom_below hN hB) (OwnFrom.and (Own.from (boxed_own N _ (fun _ => .slice none 0 0)) _) (OwnFrom.and (Own.from (boxed_own (N + 1) _ (fun _ => .bool false)) _) (OwnFrom.and (Own.from (boxE_own Bs _) _) (OwnFrom.and (Own.from (boxE_own (Bs + 1) _) _) (OwnFrom.and (Own.from (boxE_own (Bs + 2) _) _) (ownFrom_pure _ _)))))))
theorem ParseX.own {w : World} {N B : Nat} (hN : N ≤ w.heap.size) (hB : N ≤ B) : OwnFrom B (ParseX w N) :=
 OwnFrom.and (ownFrom_below hN hB) (OwnFrom.and (Own.from (boxed_own N _ (fun _ => .slice none 0 0)) _) (OwnFrom.and (Own.from (boxed_own (N + 1) _ (fun _ => .bool false)) _) (ownFrom_pure _ _)))
theorem ParseI.set {w : World} {N Bs : Nat} (hb : N + 2 < Bs) {pre : List ByteArray} {W : World} (v : Value) (h : ParseI w N Bs pre W) : ParseI w N Bs pre (W.setCell ⟨Bs, 0, none⟩ v) := by
 obtain ⟨⟨u, h1, h2, _⟩, h3, h4, h5, ⟨z, h6⟩, ⟨z1, h8⟩, ⟨z2, h9⟩, h7⟩ := h
 have hg := grownBy_setCell' W Bs v
 exact ⟨⟨u, h1.kept hg (by simp; omega), h2.kept hg (.inr (h6.not_row (by decide) h2).symm), trivial⟩, h3.setCell (p := ⟨Bs, 0, none⟩) (by show N ≤ Bs; omega) v, h4.kept hg (by simp; omega), h5.kept hg (by simp; omega), ⟨_, h6.set v⟩, ⟨_, h8.kept hg (by simp)⟩, ⟨_, h9.kept hg (by simp)⟩, h7⟩
set_option maxRecDepth 100000 in
set_option maxHeartbeats 2000000 in
theorem parse_any (s : ByteArray) (hs : s.size ≤ 4000000000) (w : World) (hS : Sh w) :
  Calls Tryz.prog 123 #[.string s] w fun e w' => ∃ v : Value, e = .returned (.tuple #[v, .bool (parseS s).2]) ∧ Kd.R k76 76 w' w.heap.size (fun _ => True) v (parseS s).1 ∧ Below w.heap.size w w' := by
 refine (callsIn_wide (n := 3)).1 ?_
 have hu := Tryz.underlying76
 obtain ⟨i0, hi, hz0, hz1, hz2⟩ := info_parts info76
 refine callsIn_of_wp_marks Tryz.func123 rfl trivial ?_ rfl
 simp only [Tryz.ntmps123, List.size_toArray, List.length_cons, List.length_nil, Nat.reduceAdd, Nat.reduceSub, Array.replicate_succ, Array.replicate_zero, List.push_toArray, List.append_toArray, List.nil_append, List.cons_append]
 by_cases hnil : s.toList = []
 ·have hp : parseS s = ([], true) := by unfold parseS; rw [if_pos hnil]
  have he : s.toList.isEmpty = true := List.isEmpty_iff.2 hnil
  clear hnil
  rw [hp]
  gi_wp2
  refine ⟨_, parse_results _ _ _ _ rfl rfl _ _ (by simp [go_sem]) (by simp [go_sem]), _, rfl, Kd.R_nil _ _ _ _ _, ?_⟩
  exact ((Below.refl _ w).alloc (Nat.le_refl _) _).alloc (by simp) _
 ·have hp : parseS s = (if (piecesS s).all okS = true then ((piecesS s).map pairS, true) else ([], false)) := by unfold parseS; rw [if_neg hnil]
  have he : s.toList.isEmpty = false := by cases h : s.toList.isEmpty with | false => rfl | true => exact absurd (List.isEmpty_iff.1 h) hnil
  clear hnil
  have b0 := Boxed.new w 22 (.slice none 0 0)
  have b1 := Boxed.new (w.alloc (.cells #[.slice none 0 0] 22)) 4 (.bool false)
  have b2 := Boxed.new ((w.alloc (.cells #[.slice none 0 0] 22)).alloc (.cells #[.bool false] 4)) 22 (.slice none 0 0)
  have b3 := Boxed.new (((w.alloc (.cells #[.slice none 0 0] 22)).alloc (.cells #[.bool false] 4)).alloc (.cells #[.slice none 0 0] 22)) 9 (.string s)
  have b4 := Boxed.new ((((w.alloc (.cells #[.slice none 0 0] 22)).alloc (.cells #[.bool false] 4)).alloc (.cells #[.slice none 0 0] 22)).alloc (.cells #[.string s] 9)) 9 (.string semiB)
  have b5 := Boxed.new (((((w.alloc (.cells #[.slice none 0 0] 22)).alloc (.cells #[.bool false] 4)).alloc (.cells #[.slice none 0 0] 22)).alloc (.cells #[.string s] 9)).alloc (.cells #[.string semiB] 9)) 3 (.int .i64 0)
  simp only [World.size_alloc] at b1 b2 b3 b4 b5
  have hB0 : Below w.heap.size w ((((((w.alloc (.cells #[.slice none 0 0] 22)).alloc (.cells #[.bool false] 4)).alloc (.cells #[.slice none 0 0] 22)).alloc (.cells #[.string s] 9)).alloc (.cells #[.string semiB] 9)).alloc (.cells #[.int .i64 0] 3)) :=
   ((((((Below.refl _ w).alloc (Nat.le_refl _) _).alloc (by simp) _).alloc (by simp; omega) _).alloc (by simp; omega) _).alloc (by simp; omega) _).alloc (by simp; omega) _
  gi_wp2_with (refine ⟨trivial, ?_⟩; gi_at_call 173; refine (callsIn_wide.2 (splitSeq_any s semiB _)).mono ?_; rintro e w' ⟨rfl, rfl⟩)
  refine range_split (n := 3) (Bp := w.heap.size + 4) (Bs := w.heap.size + 3) (Bv := w.heap.size + 5) (sep := semiB) (s0 := s) (by omega) rfl (by omega) rfl ⟨by omega, by omega⟩ (by simp) (by simp) (by simp) ?caps rfl
   (ParseI w w.heap.size (w.heap.size + 3)) (ParseX w w.heap.size) (ParseI.own (Nat.le_refl _) (by simp; omega)) (ParseX.own (Nat.le_refl _) (by simp; omega)) (fun pre W v h => h.set (by omega) v) (fun pre W h => hS.of_below h.2.1) ?start
   (fun x => { tmps := #[.string s, undef, .pointer (some ⟨w.heap.size, 0, none⟩), .pointer (some ⟨w.heap.size + 1, 0, none⟩), .pointer (some ⟨w.heap.size + 1 + 1, 0, none⟩), .string x, undef, undef, .string s, .bool false, .string s, .func (.func 272) #[] #[.pointer (some ⟨w.heap.size + 4, 0, none⟩), .pointer (some ⟨w.heap.size + 3, 0, none⟩), .pointer (some ⟨w.heap.size + 5, 0, none⟩)], .string x, undef, undef, undef, undef, undef, undef, undef, undef, undef, undef, undef, undef], defers := [] }) ?assign ?body ?done ?stop
  case caps => exact ⟨(b4.alloc _).cell, ((b3.alloc _).alloc _).cell, b5.cell, ((b3.alloc _).alloc _).frozen⟩
  case start => exact ⟨⟨_, ((b2.alloc _).alloc _).alloc _, World.ownsRow_nil _ _ _ _, trivial⟩, hB0, ((((b0.alloc _).alloc _).alloc _).alloc _).alloc _, (((b1.alloc _).alloc _).alloc _).alloc _, ⟨_, (b3.alloc _).alloc _⟩, ⟨_, b4.alloc _⟩, ⟨_, b5⟩, rfl⟩
  case assign =>
   intro l x W K hK
   gi_wp2
   exact hK
  case done =>
   rintro D W hD ⟨⟨v, hv, hrow, _⟩, hB, hr1, hr2, _, _, _, hall⟩ hK
   obtain ⟨A, nn, cc, rfl⟩ := owns_slice hrow
   have hc := hv.cell
   have hc1 := hr1.cell
   have hf1 := hr1.frozen
   have hc2 := hr2.cell
   have hf2 := hr2.frozen
   gi_wp2
   have hDs : w.heap.size + 6 ≤ D := by simp at hD; omega
   have hK2 := (Below.heap_setCell (W.setCell ⟨w.heap.size, 0, none⟩ (.slice A nn cc)) ⟨w.heap.size + 1, 0, none⟩ (.bool true) D (by show D ≠ w.heap.size + 1; omega)).trans ((Below.heap_setCell W ⟨w.heap.size, 0, none⟩ (.slice A nn cc) D (by show D ≠ w.heap.size; omega)).trans hK)
   have k1 : Boxed ((W.setCell ⟨w.heap.size, 0, none⟩ (.slice A nn cc)).setCell ⟨w.heap.size + 1, 0, none⟩ (.bool true)) w.heap.size 22 (.slice A nn cc) := (hr1.set _).other (by omega) _
   have k2 : Boxed ((W.setCell ⟨w.heap.size, 0, none⟩ (.slice A nn cc)).setCell ⟨w.heap.size + 1, 0, none⟩ (.bool true)) (w.heap.size + 1) 4 (.bool true) := (hr2.other (by omega) _).set _
   have g1 := hrow.kept (grownBy_setCell' W w.heap.size (.slice A nn cc)) (.inr (hr1.not_row (by decide) hrow).symm)
   have g2 := g1.kept (grownBy_setCell' _ (w.heap.size + 1) (.bool true)) (.inr ((hr2.other (B' := w.heap.size) (by omega) (.slice A nn cc)).not_row (by decide) g1).symm)
   have hB2 := (hB.setCell (p := ⟨w.heap.size, 0, none⟩) (Nat.le_refl _) (.slice A nn cc)).setCell (p := ⟨w.heap.size + 1, 0, none⟩) (by show w.heap.size ≤ w.heap.size + 1; omega) (.bool true)
   generalize (W.setCell ⟨w.heap.size, 0, none⟩ (.slice A nn cc)).setCell ⟨w.heap.size + 1, 0, none⟩ (.bool true) = W2 at *
   refine ⟨by simp, .inl ⟨_, _, rfl, run_takeDeferred hK2, ?_⟩⟩
   have k3 : Boxed (W2.putObj D (.deferred none)) w.heap.size 22 (.slice A nn cc) := (World.putObj_heap_other (by omega)).trans k1
   have k4 : Boxed (W2.putObj D (.deferred none)) (w.heap.size + 1) 4 (.bool true) := (World.putObj_heap_other (by omega)).trans k2
   refine ⟨_, parse_results _ _ w.heap.size (w.heap.size + 1) rfl rfl _ _ k3.cell k4.cell, ?_⟩
   have hall' : (piecesS s).all okS = true := hall
   rw [hp, if_pos hall']
   refine ⟨_, rfl, row_of_owns ?_, hB2.trans (belowK_b (w := w) (Nat.le_refl _) W2 D _ _ (by omega) hK2 rfl rfl)⟩
   have := ownsRow_putObj g2 (.deferred none) hK2 rfl
   rw [List.length_map]
   exact this
  case stop =>
   rintro D pre W hD hpre ⟨hB, hr1, hr2, hbad⟩ hK
   have hDs : w.heap.size + 6 ≤ D := by simp at hD; omega
   gi_wp2
   refine ⟨by simp, .inl ⟨_, _, rfl, run_takeDeferred hK, ?_⟩⟩
   have k3 : Boxed (W.putObj D (.deferred none)) w.heap.size 22 (.slice none 0 0) := (World.putObj_heap_other (by omega)).trans hr1
   have k4 : Boxed (W.putObj D (.deferred none)) (w.heap.size + 1) 4 (.bool false) := (World.putObj_heap_other (by omega)).trans hr2
   refine ⟨_, parse_results _ _ w.heap.size (w.heap.size + 1) rfl rfl _ _ k3.cell k4.cell, ?_⟩
   have hall' : ¬ (piecesS s).all okS = true := by
    intro h
    rw [List.all_eq_true] at h
    rw [List.all_eq_false] at hbad
    obtain ⟨x, hx, hn⟩ := hbad
    exact hn (h x (hpre.subset hx))
   rw [hp, if_neg hall']
   exact ⟨_, rfl, Kd.R_nil _ _ _ _ _, hB.trans (belowK_b (w := w) (Nat.le_refl _) W D _ _ (by omega) hK rfl rfl)⟩
  case body =>
   rintro l pre x rest W hWs ⟨⟨v, hv, hrow, _⟩, hB, hr1, hr2, ⟨u, hbs⟩, ⟨u1, hbp⟩, ⟨u2, hbv⟩, hall⟩ hcap hpre
   obtain ⟨hxs, hpl⟩ := piece_in hpre
   obtain ⟨A, nn, cc, rfl⟩ := owns_slice hrow
   have HV := hid hv
   have HROW := hid hrow
   have HR1 := hid hr1
   have HR2 := hid hr2
   have HBS := hid hbs
   have HBP := hid hbp
   have HBV := hid hbv
   have HCAP := hid hcap
   have HB := hid hB
   have hWs6 : w.heap.size + 6 ≤ W.heap.size := by simp at hWs; omega
   clear hv hrow hr1 hr2 hbs hbp hbv hcap hB b0 b1 b2 b3 b4 b5 hB0 hWs
   cases hok : okS x with
   | false =>
    have HX := hid (show (pre ++ [x]).all okS = false by rw [List.all_append, hall]; simp [hok])
    gi_wp2_with (refine ⟨trivial, ?_⟩; gi_at_call 174; refine (CallsIn.inRound l (callsIn_wide.2 (one_any x (by omega) _ (hS.of_below HB.out)))).mono ?_; rintro e w1 ⟨rfl, hb1⟩; rw [hok]; have R1 := Boxed.alloc ((hb1.block _ HR1.out.lt).trans HR1.out) (.cells #[.string (pairS x).f0, .string (pairS x).f1] 76); have R2 := Boxed.alloc ((hb1.block _ HR2.out.lt).trans HR2.out) (.cells #[.string (pairS x).f0, .string (pairS x).f1] 76); have c1 := R1.cell; have f1 := R1.frozen; have c2 := R2.cell; have f2 := R2.frozen; have hz1 := hb1.size)
    have kO : KeepsOthers W w1 := ⟨hb1.size, fun k o hk _ => (hb1.block k (Array.getElem?_eq_some_iff.1 hk).1).trans hk⟩
    refine ⟨(((kO.trans (KeepsOthers.alloc _ _)).trans (KeepsOthers.setCell _ _ _)).trans (KeepsOthers.setCell _ _ _)).from _, ?_, ?_, ?_, HX.out⟩
    ·exact (((HB.out.trans (hb1.mono HB.out.size)).alloc (by omega) _).setCell (p := ⟨w.heap.size, 0, none⟩) (Nat.le_refl _) _).setCell (p := ⟨w.heap.size + 1, 0, none⟩) (by show w.heap.size ≤ w.heap.size + 1; omega) _
    ·exact (R1.set _).other (by omega) _
    ·exact (R2.other (by omega) _).set _
   | true =>
    have HX := hid (show (pre ++ [x]).all okS = true by rw [List.all_append, hall]; simp [hok])
    gi_wp2_with first
     | (refine ⟨trivial, ?_⟩; gi_at_call 174; refine (CallsIn.inRound l (callsIn_wide.2 (one_any x (by omega) _ (hS.of_below HB.out)))).mono ?_; rintro e w1 ⟨rfl, hb1⟩; rw [hok]; have V1 := hid (Boxed.alloc ((hb1.block _ HV.out.lt).trans HV.out) (.cells #[.string (pairS x).f0, .string (pairS x).f1] 76)); have c1 := V1.out.cell; have hzz := hb1.size; have ROW := hid (World.ownsRow.alloc (pw_own_below HROW.out hb1) (.cells #[.string (pairS x).f0, .string (pairS x).f1] 76)))
     | (gi_at_builtin; refine Hid.out ?_)
    refine hid ?_
    refine wpListIn_append_own _ rfl _ _ 22 rfl w.heap.size 76 i0 (.agg #[.string ⟨#[]⟩, .string ⟨#[]⟩]) 2 32 Tryz.underlying22 hi hz0 hz1 hz2 rfl (by decide) _ _ _ rfl (ROW.out.alloc _) ⟨w1.heap.size + 1, 0, none⟩ 1 1 [.string (pairS x).f0, .string (pairS x).f1] rfl rfl (cell_two_new _ _ _ _ _ (by simp)) (by intro u hu; simp at hu; rcases hu with rfl | rfl <;> rfl) (show pre.length + 1 ≤ maxLen by unfold maxLen; omega) (by omega) (by simp; omega) ?_
    intro v' w2 hown' hgrow _
    obtain ⟨g', cap', rfl⟩ := ownsRow_succ hown'
    obtain ⟨hv1, hv2, hr2, hk2, hb2⟩ := V1.out.appended (by decide) ROW.out (by simp; omega) (by omega) hown' hgrow
    rename_i hdrop
    clear hdrop
    have hg2 : ((w1.alloc (.cells #[.string (pairS x).f0, .string (pairS x).f1] 76)).alloc (.cells #[.string (pairS x).f0, .string (pairS x).f1] 76)).grownBy w2 (Value.slice A nn cc).ownBlock := hgrow
    clear hgrow
    have c2 := hv1.cell
    have f2 := hv1.frozen
    have LIFT := hid (show ∀ (B : Nat) (t : TypeId) (u : Value), t ≠ 76 → B ≠ w.heap.size + 2 → Boxed W B t u → Boxed (w2.setCell ⟨w.heap.size + 2, 0, none⟩ (.slice (some ⟨g', 0, none⟩) (pre.length + 1) cap')) B t u from fun B t u ht hne h => by
     have h1 : Boxed w1 B t u := (hb1.block _ h.lt).trans h
     have h2 := (h1.alloc (.cells #[.string (pairS x).f0, .string (pairS x).f1] 76)).alloc (.cells #[.string (pairS x).f0, .string (pairS x).f1] 76)
     exact (h2.kept hg2 (h2.not_row ht (ROW.out.alloc _))).other hne _)
    have kO : KeepsOthers W w1 := ⟨hb1.size, fun k o hk _ => (hb1.block k (Array.getElem?_eq_some_iff.1 hk).1).trans hk⟩
    have KF := hid (((kO.trans (KeepsOthers.alloc _ _)).trans hk2).from (w.heap.size + 6))
    have HB3 := hid (((HB.out.trans (hb1.mono HB.out.size)).alloc (by omega) (.cells #[.string (pairS x).f0, .string (pairS x).f1] 76)).trans hb2)
    have HV2 := hid hv2
    have HR := hid hr2
    clear hv1 hv2 hr2 hk2 hb2 hg2 kO hown'
    gi_wp2
    refine ⟨?_, ?_, ⟨_, HV2.out, ?_, trivial⟩, HB3.out, LIFT.out _ _ _ (by decide) (by omega) HR1.out, LIFT.out _ _ _ (by decide) (by omega) HR2.out, ⟨_, LIFT.out _ _ _ (by decide) (by omega) HBS.out⟩, ⟨_, LIFT.out _ _ _ (by decide) (by omega) HBP.out⟩, ⟨_, LIFT.out _ _ _ (by decide) (by omega) HBV.out⟩, HX.out⟩
    ·have := KF.out
     simpa using this
    ·exact HCAP.out.of_heap ((LIFT.out _ _ _ (by decide) (by omega) HBP.out).trans HBP.out.symm) ((LIFT.out _ _ _ (by decide) (by omega) HBS.out).trans HBS.out.symm) ((LIFT.out _ _ _ (by decide) (by omega) HBV.out).trans HBV.out.symm)
    ·have := HR.out
     simpa [cells2] using this
end Go.Proofs.YthdiiiopjkaifaaGreatDoor.Split
namespace Go.Proofs.YthdiiiopjkaifaaGreatDoor.Split
open Go.RowKit Go.Proofs.YthdiiiopjkaifaaGreatDoor.Pall Go.Proofs.YthdiiiopjkaifaaGreatDoorW.PrintWords Go.Proofs.YthdiiiopjkaifaaGreatDoorW.PrintLast
set_option linter.unusedVariables false
set_option linter.unusedSimpArgs false
def nameB : ByteArray := ⟨#[95, 95, 72, 111, 115, 116, 45, 105, 100]⟩
/-- one cookie more -/
def sess1 (st : Nat × ByteArray) (c : S76) : Nat × ByteArray := if c.f0 = nameB then (st.1 + 1, c.f1) else st
/-- one field more -/
def sessF (st : Nat × ByteArray) (v : ByteArray) : Nat × ByteArray := (parseS v).1.foldl sess1 st
def sessS (vs : List ByteArray) : ByteArray × Bool :=
 if vs.all (fun v => (parseS v).2) = true then (if 1 < (vs.foldl sessF (0, ⟨#[]⟩)).1 then (⟨#[]⟩, false) else ((vs.foldl sessF (0, ⟨#[]⟩)).2, true)) else (⟨#[]⟩, false)
theorem sess1_le (cs : List S76) (st : Nat × ByteArray) : (cs.foldl sess1 st).1 ≤ st.1 + cs.length := by
 induction cs generalizing st with
 | nil => simp
 | cons c cs ih =>
  rw [List.foldl_cons, List.length_cons]
  have := ih (sess1 st c)
  have h : (sess1 st c).1 ≤ st.1 + 1 := by unfold sess1; split <;> simp
  omega
theorem parse_len (v : ByteArray) : (parseS v).1.length ≤ v.size + 1 := by
 unfold parseS
 split
 ·simp
 ·split
  ·rw [List.length_map]; unfold piecesS; rw [List.length_map]; exact pieces_len _ _ _
  ·simp
set_option maxRecDepth 100000 in
set_option maxHeartbeats 2000000 in
theorem session_any (A0 : Option Addr) (c0 : Nat) (l0 : List ByteArray) (w : World) (hr0 : Kd.C Kd.string w A0 l0.length l0) (hc0 : l0.length ≤ c0) (hs : ∀ v ∈ l0, v.size ≤ 1000000) (hn : l0.length ≤ 1000000) (hS : Sh w) :
  Calls Tryz.prog 78 #[.slice A0 l0.length c0] w fun e w' => e = .returned (.tuple #[.string (sessS l0).1, .bool (sessS l0).2]) ∧ Below w.heap.size w w' := by
 have hu := Tryz.underlying76
 go_enter Tryz.func78, Tryz.ntmps78
 go_wp2_with fail
 go_step3
 go_wp2_with fail
 go_step3
 go_wp2_with fail
 go_loopw [4, 5, 6, 15] (fun n i f x W => ∃ k : Nat, k ≤ l0.length ∧ (l0.take k).all (fun v => (parseS v).2) = true ∧ n = .int .i64 ((l0.take k).foldl sessF (0, ⟨#[]⟩)).1 ∧ i = .string ((l0.take k).foldl sessF (0, ⟨#[]⟩)).2 ∧ f = .bool true ∧ x = .int .i64 k ∧ ((l0.take k).foldl sessF (0, ⟨#[]⟩)).1 ≤ k * 2000000 ∧ Below w.heap.size w W) (fun _ _ _ x _ => l0.length - (RowKit.intOf x).toNat)
 case atStart => exact ⟨0, Nat.zero_le _, rfl, rfl, rfl, rfl, rfl, by simp, Below.refl _ _⟩
 case round =>
  obtain ⟨k, hk, hall, rfl, rfl, rfl, rfl, hbd, hB⟩ := hrel
  have HB := hid hB
  clear hB
  by_cases hlt : k < l0.length
  ·obtain ⟨ad, rfl, hx⟩ := Kd.at_string hr0 (k : Int) (by omega) (by omega)
   replace hx := (HB.out.cell (World.block_lt_of_cell? w _ hx)).trans hx
   have hrd : rdOf ByteArray.empty l0 (k : Int) = l0.getD k ByteArray.empty := by unfold rdOf; rw [Int.toNat_natCast]
   have hmem : l0.getD k ByteArray.empty ∈ l0 := by rw [List.getD, List.getElem?_eq_getElem hlt]; exact List.getElem_mem hlt
   have htk : l0.take (k + 1) = l0.take k ++ [l0.getD k ByteArray.empty] := by
    rw [List.take_add_one, List.getD, List.getElem?_eq_getElem hlt]; rfl
   rw [hrd, Int.toNat_natCast] at hx
   have hvs := hs _ hmem
   have HSB := hid (fun (b : Bool) (h : (parseS (l0.getD k ByteArray.empty)).2 = b) => h)
   generalize hv : l0.getD k ByteArray.empty = v at *
   clear hrd
   have hpl := parse_len v
   cases hok : (parseS v).2 with
   | false =>
    have HF := hid (show sessS l0 = (⟨#[]⟩, false) by
     unfold sessS
     rw [if_neg]
     intro h
     rw [List.all_eq_true] at h
     have := h v hmem
     rw [hok] at this
     cases this)
    clear HSB htk hmem hv
    generalize (l0.take k).foldl sessF (0, ⟨#[]⟩) = st at *
    go_wp2_with (go_at_call 123; refine (parse_any v (by omega) _ (hS.of_below HB.out)).mono ?_; rintro e w1 ⟨r, rfl, hR, hb1⟩; rw [hok]; obtain ⟨Ao, co, rfl⟩ := Kd.R_slice hR; have HB1 := hid (below_step HB.out hb1))
    rw [Exit.noGoto_ret]
    go_ret2
    exact ⟨by rw [HF.out]; rfl, HB1.out⟩
   | true =>
    have HA := hid (show (l0.take (k + 1)).all (fun v => (parseS v).2) = true by rw [htk, List.all_append, hall]; simp [hok])
    have HT := hid (show (l0.take (k + 1)).foldl sessF (0, ⟨#[]⟩) = (parseS v).1.foldl sess1 ((l0.take k).foldl sessF (0, ⟨#[]⟩)) by rw [htk, List.foldl_append]; rfl)
    have hle := sess1_le
    clear HSB htk hmem hv hall
    generalize (l0.take k).foldl sessF (0, ⟨#[]⟩) = st at *
    generalize hcs : (parseS v).1 = cs at *
    go_wp2_with (go_at_call 123; refine (parse_any v (by omega) _ (hS.of_below HB.out)).mono ?_; rintro e w1 ⟨r, rfl, hR, hb1⟩; rw [hok]; rw [hcs] at hR; obtain ⟨Ao, co, rfl⟩ := Kd.R_slice hR; have HB1 := hid (below_step HB.out hb1); have HROW := hid (Kd.R_reads' hR).2.2)
    go_loopw [4, 5, 28] (fun n i x W => ∃ j : Nat, j ≤ cs.length ∧ n = .int .i64 ((cs.take j).foldl sess1 st).1 ∧ i = .string ((cs.take j).foldl sess1 st).2 ∧ x = .int .i64 j ∧ Below w1.heap.size w1 W) (fun _ _ x _ => cs.length - (RowKit.intOf x).toNat)
    case atStart => exact ⟨0, Nat.zero_le _, rfl, rfl, rfl, Below.refl _ _⟩
    case round =>
     obtain ⟨j, hj, rfl, rfl, rfl, hB2⟩ := hrel
     have hle1 := hle (cs.take j) st
     have htl : (cs.take j).length ≤ j := by rw [List.length_take]; omega
     have HB2 := hid hB2
     clear hB2
     by_cases hjl : j < cs.length
     ·obtain ⟨ad2, rfl, hx0, hx1⟩ := at_T76 HROW.out (j : Int) (by omega) (by omega)
      replace hx0 := (HB2.out.cell (World.block_lt_of_cell? w1 _ hx0)).trans hx0
      replace hx1 := (HB2.out.cell (World.block_lt_of_cell? w1 _ hx1)).trans hx1
      have hrd : rd_T76 cs (j : Int) = cs.getD j z76 := by unfold rd_T76; rw [Int.toNat_natCast]
      have htk2 : (cs.take (j + 1)).foldl sess1 st = sess1 ((cs.take j).foldl sess1 st) (cs.getD j z76) := by
       rw [List.take_add_one, List.foldl_append, List.getD, List.getElem?_eq_getElem hjl]; rfl
      rw [hrd, Int.toNat_natCast] at hx0 hx1
      clear hrd
      generalize (cs.take j).foldl sess1 st = st2 at *
      generalize cs.getD j z76 = c at *
      by_cases hc : c.f0 = nameB
      ·have HT2 := hid (show (cs.take (j + 1)).foldl sess1 st = (st2.1 + 1, c.f1) by rw [htk2]; unfold sess1; rw [if_pos hc])
       have hq : (c.f0.toList == [95, 95, 72, 111, 115, 116, 45, 105, 100]) = true := by rw [beq_iff_eq, hc, ByteArray.toList_eq]; rfl
       clear htk2 hc
       go_wp2
       repeat (go_quiet (fail); try go_wp2)
       go_roundw
       case rel => exact ⟨j + 1, by omega, by rw [HT2.out]; go_num, by rw [HT2.out], by go_num, by repeat (first | (with_reducible first | exact HB2.out | apply below_alloc | apply pw_below_drewN | apply below_drew1) | exact HB2.out)⟩
       case measure => simp [RowKit.intOf]; omega
      ·have HT2 := hid (show (cs.take (j + 1)).foldl sess1 st = st2 by rw [htk2]; unfold sess1; rw [if_neg hc])
       have hq : (c.f0.toList == [95, 95, 72, 111, 115, 116, 45, 105, 100]) = false := beq_eq_false_iff_ne.2 (fun h => hc (ba_ext (by rw [ByteArray.toList_eq] at h; exact h)))
       clear htk2 hc
       go_wp2
       go_roundw
       case rel => exact ⟨j + 1, by omega, by rw [HT2.out], by rw [HT2.out], by go_num, HB2.out.alloc (Nat.le_trans HB2.out.size (Nat.le_refl _)) _⟩
       case measure => simp [RowKit.intOf]; omega
     ·obtain rfl : j = cs.length := by omega
      rw [List.take_of_length_le (Nat.le_refl _)] at *
      go_wp2
      go_roundw
      case rel => exact ⟨k + 1, by omega, HA.out, by rw [HT.out], by rw [HT.out], rfl, by go_num, by rw [HT.out]; omega, HB1.out.trans (HB2.out.mono HB1.out.size)⟩
      case measure => simp [RowKit.intOf]; omega
  ·obtain rfl : k = l0.length := by omega
   rw [List.take_of_length_le (Nat.le_refl _)] at hall hbd ⊢
   have hsess : sessS l0 = (if 1 < (l0.foldl sessF (0, ⟨#[]⟩)).1 then (⟨#[]⟩, false) else ((l0.foldl sessF (0, ⟨#[]⟩)).2, true)) := by unfold sessS; rw [if_pos hall]
   generalize l0.foldl sessF (0, ⟨#[]⟩) = st at *
   by_cases h1 : 1 < st.1
   ·have HF := hid (show sessS l0 = (⟨#[]⟩, false) by rw [hsess, if_pos h1])
    clear hsess
    go_wp2
    rw [Exit.noGoto_ret]
    go_ret2
    exact ⟨by rw [HF.out]; rfl, HB.out⟩
   ·have HF := hid (show sessS l0 = (st.2, true) by rw [hsess, if_neg h1])
    clear hsess
    go_wp2
    rw [Exit.noGoto_ret]
    go_ret2
    exact ⟨by rw [HF.out]; rfl, HB.out⟩
end Go.Proofs.YthdiiiopjkaifaaGreatDoor.Split

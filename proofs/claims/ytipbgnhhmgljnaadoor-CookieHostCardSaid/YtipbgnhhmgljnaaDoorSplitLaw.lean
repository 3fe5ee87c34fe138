/-
  A loop over strings.SplitSeq's pieces: one walk of its body, and what holds behind it. The iterator stores into a captured cell between two rounds: what the loop says of its own cells must bear that.
-/
import Derived.Test.YtipbgnhhmgljnaaDoorSplit
import Derived.Maps.AppendAt
namespace Go.Proofs.YtipbgnhhmgljnaaDoor.Split
open Go.RowKit Go.Shelf Go.Proofs.YtipbgnhhmgljnaaDoor.Pall
attribute [local go_sem] Oper.semAt_some
set_option linter.unusedVariables false
set_option linter.unusedSimpArgs false

theorem Caps.of_heap {W W' : World} {Bp Bs Bv : Nat} {sep rest : ByteArray} (h : Caps W Bp Bs Bv sep rest) (hp : W'.heap[Bp]? = W.heap[Bp]?) (hs : W'.heap[Bs]? = W.heap[Bs]?) (hv : W'.heap[Bv]? = W.heap[Bv]?) : Caps W' Bp Bs Bv sep rest :=
  ⟨by unfold World.cell?; rw [hp]; exact h.p, by unfold World.cell?; rw [hs]; exact h.s, by unfold World.cell?; rw [hv]; exact h.v, by unfold World.frozen?; rw [hs]; exact h.f⟩
theorem Caps.putObj {W : World} {Bp Bs Bv l : Nat} {sep rest : ByteArray} (h : Caps W Bp Bs Bv sep rest) (o : Obj) (hp : Bp < l) (hs : Bs < l) (hv : Bv < l) : Caps (W.putObj l o) Bp Bs Bv sep rest :=
  h.of_heap (World.putObj_heap_other (by omega)) (World.putObj_heap_other (by omega)) (World.putObj_heap_other (by omega))
theorem Caps.alloc {W : World} {Bp Bs Bv : Nat} {sep rest : ByteArray} (h : Caps W Bp Bs Bv sep rest) (o : Obj) (hp : Bp < W.heap.size) (hs : Bs < W.heap.size) (hv : Bv < W.heap.size) : Caps (W.alloc o) Bp Bs Bv sep rest :=
  h.of_heap (Below.heap_alloc _ _ _ hp) (Below.heap_alloc _ _ _ hs) (Below.heap_alloc _ _ _ hv)

/-- how a round's body may be left -/
def roundEnds (B Bp Bs Bv : Nat) (sep rest : ByteArray) (I Ix : List ByteArray → World → Prop) (xs : List ByteArray) (W : World) : Exit → Act → World → Prop
  | .normal, _, W' => KeepsFrom B W W' ∧ Caps W' Bp Bs Bv sep rest ∧ I xs W'
  | .ret, _, W' => KeepsFrom B W W' ∧ Ix xs W'
  | _, _, _ => False

theorem range_split {n : Nat} {g : Operand} {ps : Array Tmp} {assign body : Code} {Q : Exit → Act → World → Prop} {a : Act} {w : World} (h2 : 2 ≤ n) {Bp Bs Bv : Nat} {sep s0 : ByteArray} (hsep : sep.size = 2) (h0s : s0.size < 4294967281)
    (hg : a.eval g = .func (.func 55) #[] #[.pointer (some ⟨Bp, 0, none⟩), .pointer (some ⟨Bs, 0, none⟩), .pointer (some ⟨Bv, 0, none⟩)]) (hne : Bp ≠ Bs ∧ Bv ≠ Bs) (hlp : Bp < w.heap.size) (hls : Bs < w.heap.size) (hlv : Bv < w.heap.size) (hc : Caps w Bp Bs Bv sep s0)
    (hps : ps.size = 1) (I Ix : List ByteArray → World → Prop) (hI : OwnFrom w.heap.size I) (hIx : OwnFrom w.heap.size Ix) (hIc : ∀ pre W v, I pre W → I pre (W.setCell ⟨Bs, 0, none⟩ v)) (hIS : ∀ pre W, I pre W → Sh W) (h0 : I [] w) (a₁ : ByteArray → Act)
    (hassign : ∀ (l : Nat) (x : ByteArray) (W : World) (K : Act → World → Prop), K (a₁ x) W →
      assign.wpIn (Fence.wide.inRound l) (n - 1 - 1) Tryd.prog (Exit.then K (fun _ _ _ => False)) { tmps := (ps.zip #[Value.string x]).foldl (fun t (p, v) => t.setIfInBounds p v) a.tmps, defers := [] } W)
    (hbody : ∀ (l : Nat) (pre : List ByteArray) (x rest : ByteArray) (W : World), w.heap.size ≤ W.heap.size → I pre W → Caps W Bp Bs Bv sep rest → (pre ++ [x]) <+: (splitK sep.data.toList s0.size s0.data.toList).map mkS → body.wpIn (Fence.wide.inRound l) (n - 1 - 1) Tryd.prog (roundEnds w.heap.size Bp Bs Bv sep rest I Ix (pre ++ [x]) W) (a₁ x) W)
    (hdone : ∀ (D : Nat) (W : World), w.heap.size ≤ D → I ((splitK sep.data.toList s0.size s0.data.toList).map mkS) W → W.heap[D]? = some (.deferred (some [])) → Q .normal { a with defers := { target := .collected D, args := #[] } :: a.defers } W)
    (hstop : ∀ (D : Nat) (pre : List ByteArray) (W : World), w.heap.size ≤ D → pre <+: (splitK sep.data.toList s0.size s0.data.toList).map mkS → Ix pre W → W.heap[D]? = some (.deferred (some [])) → Code.ret.wpIn Fence.wide n Tryd.prog Q { a with defers := { target := .collected D, args := #[] } :: a.defers } W) :
    (Code.rangeFunc g ps assign body).wpIn Fence.wide n Tryd.prog Q a w := by
  refine wpIn_rangeFunc fun fn hfn => ?_
  obtain ⟨rec, hrec⟩ : ∃ rec : LoopState → Option Code → Loop, rec = fun st pe => { state := st, pending := pe, fn, tmps := a.tmps, params := ps, assign, body, defers := w.heap.size } := ⟨_, rfl⟩
  have hL1 : ((w.alloc (.deferred (some []))).alloc (.loop (rec .ready none))).heap[w.heap.size + 1]? = some (.loop (rec .ready none)) := by
    have := World.alloc_heap_new (w.alloc (.deferred (some []))) (.loop (rec .ready none)); rwa [World.size_alloc] at this
  have hK1 : ((w.alloc (.deferred (some []))).alloc (.loop (rec .ready none))).heap[w.heap.size]? = some (.deferred (some [])) :=
    (Below.heap_alloc _ _ _ (by simp)).trans (World.alloc_heap_new w _)
  have hI1 : I [] ((w.alloc (.deferred (some []))).alloc (.loop (rec .ready none))) := hI.alloc _ (hI.alloc _ h0)
  have hC1 : Caps ((w.alloc (.deferred (some []))).alloc (.loop (rec .ready none))) Bp Bs Bv sep s0 :=
    (hc.alloc _ hlp hls hlv).alloc _ (by simp; omega) (by simp; omega) (by simp; omega)
  generalize hW1 : (w.alloc (.deferred (some []))).alloc (.loop (rec .ready none)) = W1 at hL1 hK1 hI1 hC1
  refine ⟨w.heap.size + 1, [{ target := .collected w.heap.size, args := #[] }], W1, { target := .fn (.func 55) #[.pointer (some ⟨Bp, 0, none⟩), .pointer (some ⟨Bs, 0, none⟩), .pointer (some ⟨Bv, 0, none⟩)], args := #[.func (.yield (w.heap.size + 1)) #[] #[]] }, W1, 55,
    #[.func (.yield (w.heap.size + 1)) #[] #[]] ++ #[.pointer (some ⟨Bp, 0, none⟩), .pointer (some ⟨Bs, 0, none⟩), .pointer (some ⟨Bv, 0, none⟩)], W1, ?_, ?_, fun f' hf' => trivial, ?_, fun _ => by omega, ?_⟩
  · rw [← hW1, hrec]; exact run_enterLoop_outer _ _ _ _ _
  · simp only [resolve, hg]
    simp [go_sem]
  · have eg := enters_of Tryd.func55 (by kernel_rfl) rfl
    simp [invoke, go_sem, eg]
  · refine (split1_in (n - 1) (by omega) (w.heap.size + 1) Bp Bs Bv sep s0 hsep h0s hne
      (fun pre W => (I pre W ∧ w.heap.size + 1 < W.heap.size) ∧ W.heap[w.heap.size + 1]? = some (.loop (rec .ready none)) ∧ W.heap[w.heap.size]? = some (.deferred (some [])))
      (fun pre W => Ix pre W ∧ W.heap[w.heap.size + 1]? = some (.loop (rec .done (some .ret))) ∧ W.heap[w.heap.size]? = some (.deferred (some [])))
      (fun pre W v ⟨⟨hi, hs⟩, hl, hk⟩ => ⟨⟨hIc pre W v hi, (Array.getElem?_eq_some_iff.1 ((Below.heap_setCell _ _ _ _ (by show _ ≠ Bs; omega)).trans hl)).1⟩, (Below.heap_setCell _ _ _ _ (by show _ ≠ Bs; omega)).trans hl, (Below.heap_setCell _ _ _ _ (by show _ ≠ Bs; omega)).trans hk⟩)
      (fun pre W h => hIS pre W h.1.1) ?_ W1 hC1 ⟨⟨hI1, (Array.getElem?_eq_some_iff.1 hL1).1⟩, hL1, hK1⟩).mono ?_
    · rintro pre x rest W ⟨⟨hi, hs⟩, hl, hk⟩ hcap hpre
      have hy := run_yield (P := Tryd.prog) (args := #[Value.string x]) hl (by rw [hrec]; exact hps.symm)
      rw [hrec] at hy
      refine ⟨fn, _, assign, body, hy, roundIn_of_wpIn hfn (hassign _ x W _ ⟨_, run_beginRound hl (by rw [hrec]), ?_⟩)⟩
      have hl2 : (W.putObj (w.heap.size + 1) (.loop { rec .ready none with state := .busy })).heap[w.heap.size + 1]? = some (.loop { rec .ready none with state := .busy }) := World.putObj_heap_same hs
      have hk2 : (W.putObj (w.heap.size + 1) (.loop { rec .ready none with state := .busy })).heap[w.heap.size]? = some (.deferred (some [])) := (World.putObj_heap_other (by omega)).trans hk
      refine wpIn_mono (hbody _ pre x rest _ (by simp; omega) (hI.putObj _ hi (by omega) hl rfl) (hcap.putObj _ (by omega) (by omega) (by omega)) hpre) ?_
      have fin : ∀ (jump : Option Code) (W3 : World), KeepsFrom w.heap.size (W.putObj (w.heap.size + 1) (.loop { rec .ready none with state := .busy })) W3 →
          (Instr.endRound (w.heap.size + 1) jump).run Tryd.prog W3 = .ok (.bool jump.isNone) (W3.putObj (w.heap.size + 1) (.loop (rec (if jump.isNone then .ready else .done) jump))) ∧
          W3.heap[w.heap.size + 1]? = some (.loop { rec .ready none with state := .busy }) ∧
          (W3.putObj (w.heap.size + 1) (.loop (rec (if jump.isNone then .ready else .done) jump))).heap[w.heap.size + 1]? = some (.loop (rec (if jump.isNone then .ready else .done) jump)) ∧
          (W3.putObj (w.heap.size + 1) (.loop (rec (if jump.isNone then .ready else .done) jump))).heap[w.heap.size]? = some (.deferred (some [])) := fun jump W3 hk3 => by
        have hl3 := hk3.same _ _ (by omega) hl2 rfl
        have hend := run_endRound (P := Tryd.prog) jump hl3
        rw [hrec] at hend ⊢
        exact ⟨hend, by rw [hrec] at hl3; exact hl3, World.putObj_heap_same (Array.getElem?_eq_some_iff.1 hl3).1, (World.putObj_heap_other (by omega)).trans (hk3.same _ _ (Nat.le_refl _) hk2 rfl)⟩
      rintro e a3 W3 hp
      cases e with
      | normal =>
        obtain ⟨hk3, hc3, hi3⟩ := hp
        obtain ⟨hr, hl3, hl4, hk4⟩ := fin none W3 hk3
        exact ⟨_, _, hr, .inl ⟨rfl, ⟨⟨hI.putObj _ hi3 (by omega) hl3 rfl, (Array.getElem?_eq_some_iff.1 hl4).1⟩, hl4, hk4⟩, hc3.putObj _ (by omega) (by omega) (by omega)⟩⟩
      | ret =>
        obtain ⟨hk3, hi3⟩ := hp
        obtain ⟨hr, hl3, hl4, hk4⟩ := fin (some .ret) W3 hk3
        exact ⟨_, _, hr, .inr ⟨rfl, hIx.putObj _ hi3 (by omega) hl3 rfl, hl4, hk4⟩⟩
      | exit id => exact hp.elim
      | goto t => exact hp.elim
      | panic ch => exact hp.elim
      | outgrown => exact hp.elim
    · rintro e W2 ⟨⟨v, rfl⟩, (⟨⟨hi, _⟩, hl, hk⟩ | ⟨pre, hSp, hi, hl, hk⟩)⟩
      · exact ⟨none, _, by have := run_endLoop (P := Tryd.prog) hl (by rw [hrec]; simp); rw [hrec] at this; exact this, hdone _ _ (Nat.le_refl _) (hI.putObj _ hi (by omega) hl rfl) ((World.putObj_heap_other (by omega)).trans hk)⟩
      · exact ⟨some .ret, _, by have := run_endLoop (P := Tryd.prog) hl (by rw [hrec]; simp); rw [hrec] at this; exact this, hstop _ pre _ (Nat.le_refl _) hSp (hIx.putObj _ hi (by omega) hl rfl) ((World.putObj_heap_other (by omega)).trans hk)⟩
end Go.Proofs.YtipbgnhhmgljnaaDoor.Split

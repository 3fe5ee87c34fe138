/-
 A drawn region by an invariant: each operation is walked once, whatever the order.
-/
import Derived.Deep.RegionLaw
import Derived.Deep.RegionHeld
namespace Go.Proofs.YthdiiiopjkaifaaGreatDoor.Inv
set_option linter.unusedVariables false
open Go
section
variable {P : Program} {ops : Array Oper} {Q : Exit → Act → World → Prop} {md : Region.Mode}
def depsO (md : Region.Mode) (o : Oper) : List Nat := (o.after.toList.filter (Region.binds md)).map (·.on)
def updV (f : Nat → Value) (i : Nat) (v : Value) : Nat → Value := fun j => if j = i then v else f j
theorem openU {f : Nat → Value} {i : Nat} {v : Value} (h : f i = v) : ∃ g, f = updV g i v := ⟨f, funext fun j => by
 unfold updV
 split
 ·rename_i e; subst e; exact h
 ·rfl⟩
theorem ready_parts {listed : Array Bool} {i : Nat} (h : i ∈ Region.ready md ops listed) : listed.getD i true = false ∧ ∃ o, ops[i]? = some o ∧ ∀ d ∈ depsO md o, listed.getD d false = true := by
 unfold Region.ready at h
 simp only [List.mem_filter, List.mem_range, Bool.and_eq_true, Bool.not_eq_true'] at h
 obtain ⟨h0, h1, h2⟩ := h
 refine ⟨h1, ops[i], Array.getElem?_eq_getElem h0, fun d hd => ?_⟩
 rw [Array.getElem?_eq_getElem h0] at h2
 simp only [Option.map_some, Option.getD_some] at h2
 rw [Array.all_eq_true'] at h2
 unfold depsO at hd
 rw [List.mem_map] at hd
 obtain ⟨e, he, rfl⟩ := hd
 rw [List.mem_filter] at he
 have h3 := h2 e (by simpa using he.1)
 rw [he.2] at h3
 simpa using h3
theorem mem_ready_of {listed : Array Bool} {i : Nat} {o : Oper} (ho : ops[i]? = some o) (hu : listed.getD i true = false) (hd : ∀ d ∈ depsO md o, listed.getD d false = true) : i ∈ Region.ready md ops listed := by
 have h0 : i < ops.size := by
  rcases Nat.lt_or_ge i ops.size with h | h
  ·exact h
  ·rw [Array.getElem?_eq_none h] at ho; cases ho
 unfold Region.ready
 simp only [List.mem_filter, List.mem_range, Bool.and_eq_true, Bool.not_eq_true']
 refine ⟨h0, hu, ?_⟩
 rw [ho]
 simp only [Option.map_some, Option.getD_some]
 rw [Array.all_eq_true']
 intro e he
 cases hb : Region.binds md e with
 | false => rfl
 | true =>
  have := hd e.on (by unfold depsO; rw [List.mem_map]; exact ⟨e, by rw [List.mem_filter]; exact ⟨by simpa using he, hb⟩, rfl⟩)
  simpa using this
def goesUp (md : Region.Mode) (ops : Array Oper) : Bool := (List.range ops.size).all fun i => ((ops[i]?).map fun o => (depsO md o).all fun d => decide (d < i)).getD true
theorem goesUp_spec (h : goesUp md ops = true) {i : Nat} {o : Oper} (ho : ops[i]? = some o) : ∀ d ∈ depsO md o, d < i := by
 have h0 : i < ops.size := by
  rcases Nat.lt_or_ge i ops.size with h | h
  ·exact h
  ·rw [Array.getElem?_eq_none h] at ho; cases ho
 unfold goesUp at h
 rw [List.all_eq_true] at h
 have h1 := h i (List.mem_range.2 h0)
 rw [ho] at h1
 simp only [Option.map_some, Option.getD_some, List.all_eq_true, decide_eq_true_eq] at h1
 exact h1
theorem ready_nil (h : goesUp md ops = true) {listed : Array Bool} (hs : listed.size = ops.size) (hr : Region.ready md ops listed = []) : ∀ i, i < ops.size → listed.getD i true = true := by
 intro i
 induction i using Nat.strongRecOn with
 | _ i ih =>
  intro hi
  cases hc : listed.getD i true with
  | true => rfl
  | false =>
   have ho : ops[i]? = some ops[i] := Array.getElem?_eq_getElem hi
   have hm := mem_ready_of (md := md) ho hc (fun d hd => by
    have hlt := goesUp_spec h ho d hd
    have h1 := ih d hlt (by omega)
    have h2 : d < listed.size := by omega
    simp only [Array.getD, h2, dif_pos] at h1 ⊢
    exact h1)
   rw [hr] at hm
   cases hm
/-- what is known of the operations that are listed -/
structure At (A : (Nat → Value) → Act) (J : World → Prop) (Φ : Nat → Value → World → Prop) (n : Nat) (listed : Array Bool) (a : Act) (w : World) : Prop where
 size : listed.size = n
 ex : ∃ f, a = A f ∧ J w ∧ ∀ i, listed.getD i false = true → Φ i (f i) w
/-- an operation's step -/
def Step1 (P : Program) (md : Region.Mode) (ops : Array Oper) (Q : Exit → Act → World → Prop) (A : (Nat → Value) → Act) (J : World → Prop) (Le : World → World → Prop) (Φ : Nat → Value → World → Prop) (i : Nat) (o : Oper) : Prop :=
 ∀ (f : Nat → Value) (w : World), J w → (∀ d ∈ depsO md o, Φ d (f d) w) → ∀ K : Act → World → Prop, Shut (∀ v w', J w' → Le w w' → Φ i v w' → K (A (updV f i v)) w') →
  if Region.wanted o (yielded ops (A f).tmps) = true then Oper.wp P o (A f) w K Q else K ((A f).put o.dst undef) w
def Steps (P : Program) (md : Region.Mode) (ops : Array Oper) (Q : Exit → Act → World → Prop) (A : (Nat → Value) → Act) (J : World → Prop) (Le : World → World → Prop) (Φ : Nat → Value → World → Prop) : Nat → List Oper → Prop
 | _, [] => True
 | i, o :: os => Step1 P md ops Q A J Le Φ i o ∧ Steps P md ops Q A J Le Φ (i + 1) os
variable {A : (Nat → Value) → Act} {J : World → Prop} {Le : World → World → Prop} {Φ : Nat → Value → World → Prop}
theorem Steps.get : ∀ {l : List Oper} {b i : Nat} {o : Oper}, Steps P md ops Q A J Le Φ b l → l[i]? = some o → Step1 P md ops Q A J Le Φ (b + i) o
 | [], _, _, _, _, h => by simp at h
 | _ :: _, _, 0, _, hs, h => by simp at h; subst h; exact hs.1
 | _ :: os, b, i + 1, o, hs, h => by
  have := Steps.get (l := os) (b := b + 1) (i := i) hs.2 (by simpa using h)
  rw [Nat.add_right_comm, Nat.add_assoc] at this
  exact this
theorem inv_any (hup : goesUp md ops = true) (hle : ∀ j u w w', J w → Le w w' → Φ j u w → Φ j u w') (hs : Steps P md ops Q A J Le Φ 0 ops.toList)
  (fin : ∀ f w, J w → (∀ i, i < ops.size → Φ i (f i) w) → Q .normal (A f) w) :
  ∀ (fuel : Nat) (listed : Array Bool) (a : Act) (w : World), (listed.toList.countP (· == false)) ≤ fuel → At A J Φ ops.size listed a w → wpAny P md ops Q fuel listed a w := by
 have hend : ∀ (listed : Array Bool) (a : Act) (w : World), At A J Φ ops.size listed a w → Region.ready md ops listed = [] → Q .normal a w := by
  intro listed a w hat hr
  obtain ⟨hsz, f, rfl, hJ, hf⟩ := hat
  refine fin f w hJ fun i hi => hf i ?_
  have h1 := ready_nil hup hsz hr i hi
  have h2 : i < listed.size := by omega
  simp only [Array.getD, h2, dif_pos] at h1 ⊢
  exact h1
 intro fuel
 induction fuel with
 | zero =>
  intro listed a w hc hat
  have hr : Region.ready md ops listed = [] := by
   cases hr : Region.ready md ops listed with
   | nil => rfl
   | cons i is =>
    have hi : i ∈ Region.ready md ops listed := by rw [hr]; exact List.mem_cons_self
    obtain ⟨hu, _⟩ := ready_parts hi
    have h0 : i < listed.size := by
     rcases Nat.lt_or_ge i listed.size with h | h
     ·exact h
     ·simp [Array.getD, Nat.not_lt.2 h] at hu
    have h1 : listed.toList.countP (· == false) = 0 := by omega
    rw [List.countP_eq_zero] at h1
    have h2 := h1 listed[i] (by simp)
    simp only [Array.getD, h0, dif_pos] at hu
    simp at h2
    have hu' : listed[i] = false := hu
    rw [hu'] at h2
    cases h2
  exact ⟨hr, hend listed a w hat hr⟩
 | succ fuel ih =>
  intro listed a w hc hat
  refine ⟨fun hr => hend listed a w hat hr, fun i hi => ?_⟩
  obtain ⟨hsz, f, rfl, hJ, hf⟩ := hat
  obtain ⟨hu, o, ho, hd⟩ := ready_parts hi
  have h0 : i < listed.size := by
   rcases Nat.lt_or_ge i listed.size with h | h
   ·exact h
   ·simp [Array.getD, Nat.not_lt.2 h] at hu
  have hcnt : (listed.setIfInBounds i true).toList.countP (· == false) ≤ fuel := by
   have e : (listed.setIfInBounds i true).toList = listed.toList.set i true := by simp
   rw [e]
   have hu' : listed.toList[i]'(by simpa using h0) = false := by
    simp only [Array.getD, h0, dif_pos] at hu
    simpa using hu
   have h2 : listed.toList.countP (· == false) = (listed.toList.set i true).countP (· == false) + 1 := by
    have h3 := List.countP_set (p := (· == false)) (l := listed.toList) (i := i) (a := true) (by simpa using h0)
    rw [hu'] at h3
    have h4 : 0 < listed.toList.countP (· == false) := List.countP_pos_iff.2 ⟨false, by rw [← hu']; exact List.getElem_mem _, rfl⟩
    simp only [beq_self_eq_true, if_true] at h3
    have h5 : ((true == false) = true) = False := by simp
    simp only [h5, if_false, Nat.add_zero] at h3
    omega
   omega
  refine wpOp_step ho fun K hK => ?_
  have hst := hs.get (i := i) (by simpa using ho)
  rw [Nat.zero_add] at hst
  refine hst f w hJ (fun d hdm => hf d (hd d hdm)) K (fun v w' hJ' hle' hv => hK _ _ (ih _ _ _ hcnt ⟨by simpa using hsz, updV f i v, rfl, hJ', fun j hj => ?_⟩))
  unfold updV
  split
  ·rename_i e; subst e; exact hv
  ·rename_i e
   refine hle j _ w w' hJ hle' (hf j ?_)
   have hne : i ≠ j := fun h => e h.symm
   simpa [Array.getD_eq_getD_getElem?, Array.getElem?_setIfInBounds_ne hne] using hj
theorem region_inv {id : Nat} {a : Act} {w : World} (A : (Nat → Value) → Act) (J : World → Prop) (Le : World → World → Prop) (Φ : Nat → Value → World → Prop) (f0 : Nat → Value) (ha : a = A f0)
  (hm : P.follows .mixedOrders = true) (hup : goesUp .any ops = true) (hle : ∀ j u w w', J w → Le w w' → Φ j u w → Φ j u w') (hJ : J w.drew)
  (hs : Steps P .any ops Q A J Le Φ 0 ops.toList) (fin : ∀ f w, J w → (∀ i, i < ops.size → Φ i (f i) w) → Q .normal (A f) w) : (Code.region id ops true).wp P Q a w := by
 subst ha
 refine wp_region_any hm (inv_any hup hle hs fin _ _ _ _ ?_ ⟨by simp, f0, rfl, hJ, fun i hi => ?_⟩)
 ·refine Nat.le_trans List.countP_le_length (by simp)
 ·exfalso
  rcases Nat.lt_or_ge i ops.size with h | h
  ·simp [Array.getD, h] at hi
  ·simp [Array.getD, Nat.not_lt.2 h] at hi
end
section
variable {P : Program} {ops : Array Oper} {Q : Exit → Act → World → Prop} {md : Region.Mode} {A : (Nat → Value) → Act} {J : World → Prop} {Le : World → World → Prop} {Φ : Nat → Value → World → Prop}
def AllIn (Φ : Nat → Value → World → Prop) (f : Nat → Value) (w : World) : List Nat → Prop
 | [] => True
 | d :: ds => Φ d (f d) w ∧ AllIn Φ f w ds
theorem AllIn.mk {f : Nat → Value} {w : World} : ∀ {ds : List Nat}, (∀ d ∈ ds, Φ d (f d) w) → AllIn Φ f w ds
 | [], _ => trivial
 | d :: ds, h => ⟨h d List.mem_cons_self, AllIn.mk fun e he => h e (List.mem_cons_of_mem _ he)⟩
def Tab : List (Nat × (Value → World → Prop)) → Nat → Value → World → Prop
 | [], _, _, _ => True
 | (k, φ) :: t, j, u, w => if k = j then φ u w else Tab t j u w
def TabMono (J : World → Prop) (Le : World → World → Prop) : List (Nat × (Value → World → Prop)) → Prop
 | [] => True
 | (_, φ) :: t => (∀ u w w', J w → Le w w' → φ u w → φ u w') ∧ TabMono J Le t
theorem Tab.mono : ∀ {t : List (Nat × (Value → World → Prop))}, TabMono J Le t → ∀ j u w w', J w → Le w w' → Tab t j u w → Tab t j u w'
 | [], _, _, _, _, _, _, _, _ => trivial
 | (k, φ) :: t, hm, j, u, w, w', hJ, hle, h => by
  unfold Tab at h ⊢
  split
  ·rename_i e; rw [if_pos e] at h; exact hm.1 u w w' hJ hle h
  ·rename_i e; rw [if_neg e] at h; exact Tab.mono hm.2 j u w w' hJ hle h
def From (P : Program) (md : Region.Mode) (ops : Array Oper) (Q : Exit → Act → World → Prop) (A : (Nat → Value) → Act) (J : World → Prop) (Le : World → World → Prop) (Φ : Nat → Value → World → Prop) (i : Nat) : Prop :=
 ∀ j, i ≤ j → ∀ o, ops[j]? = some o → Step1 P md ops Q A J Le Φ j o
theorem From.nil {i : Nat} (h : decide (ops.size ≤ i) = true) : From P md ops Q A J Le Φ i := by
 intro j hj o ho
 have h1 := of_decide_eq_true h
 rw [Array.getElem?_eq_none (by omega)] at ho
 cases ho
theorem From.cons {i : Nat} {o : Oper} (ds : List Nat) (ho : ops[i]? = some o) (hds : (depsO md o == ds) = true)
  (h : ∀ (f : Nat → Value) (w : World), J w → AllIn Φ f w ds → ∀ K : Act → World → Prop, Shut (∀ a' v w', a' = A (updV f i v) → J w' → Le w w' → Φ i v w' → K a' w') →
   if Region.wanted o (yielded ops (A f).tmps) = true then Oper.wp P o (A f) w K Q else K ((A f).put o.dst undef) w)
  (hs : From P md ops Q A J Le Φ (i + 1)) : From P md ops Q A J Le Φ i := by
 intro j hj o' ho'
 by_cases e : i = j
 ·subst e
  rw [ho] at ho'
  cases ho'
  intro f w hJ hd K hK
  exact h f w hJ (AllIn.mk fun d hm => hd d (by rw [eq_of_beq hds]; exact hm)) K (fun a' v w' he h1 h2 h3 => he ▸ hK v w' h1 h2 h3)
 ·exact hs j (by omega) o' ho'
theorem From.steps (h : From P md ops Q A J Le Φ 0) : Steps P md ops Q A J Le Φ 0 ops.toList := by
 suffices ∀ (l : List Oper) (b : Nat), (∀ i o, l[i]? = some o → ops[b + i]? = some o) → Steps P md ops Q A J Le Φ b l from this _ 0 (fun i o hi => by simpa using hi)
 intro l
 induction l with
 | nil => intro _ _; trivial
 | cons o os ih =>
  intro b hb
  refine ⟨h b (Nat.zero_le _) o (by have := hb 0 o rfl; simpa using this), ih (b + 1) fun i o' hi => ?_⟩
  have := hb (i + 1) o' (by simpa using hi)
  rw [Nat.add_right_comm, Nat.add_assoc]
  exact this
def puts : List (Nat × Nat) → (Nat → Value) → Array Value → Array Value
 | [], _, a => a
 | (d, i) :: l, f, a => puts l f (a.setIfInBounds d (f i))
def firsts (dl : List (Nat × Nat)) (a : Array Value) (j : Nat) : Value :=
 match dl.find? (fun p => p.2 == j) with
 | some p => a.getD p.1 undef
 | none => undef
theorem puts_same {f : Nat → Value} {a : Array Value} : ∀ {l : List (Nat × Nat)}, (∀ p ∈ l, f p.2 = a.getD p.1 undef) → puts l f a = a
 | [], _ => rfl
 | (d, i) :: l, h => by
  have h1 := h (d, i) List.mem_cons_self
  have e : a.setIfInBounds d (f i) = a := by
   rcases Nat.lt_or_ge d a.size with hd | hd
   ·apply Array.ext
    ·simp
    ·intro k h2 h3
     rw [Array.getElem_setIfInBounds]
     split
     ·rename_i e; subst e
      rw [h1]
      simp [Array.getD, h3]
     ·rfl
   ·exact Array.setIfInBounds_eq_of_size_le hd
  unfold puts
  rw [e]
  exact puts_same fun p hp => h p (List.mem_cons_of_mem _ hp)
theorem find_apart : ∀ {dl : List (Nat × Nat)}, (dl.map (·.2)).Nodup → ∀ p ∈ dl, dl.find? (fun q => q.2 == p.2) = some p
 | [], _, _, hp => by cases hp
 | q :: l, hn, p, hp => by
  rw [List.map_cons, List.nodup_cons] at hn
  rcases List.mem_cons.1 hp with rfl | hp
  ·simp
  ·have hne : q.2 ≠ p.2 := fun e => hn.1 (e ▸ List.mem_map_of_mem hp)
   rw [List.find?_cons_of_neg (by simpa using hne)]
   exact find_apart hn.2 p hp
theorem region_tab {id n : Nat} {a : Act} {w : World} (dl : List (Nat × Nat)) (J : World → Prop) (Le : World → World → Prop) (t : List (Nat × (Value → World → Prop))) {A : (Nat → Value) → Act}
  (hA : ∀ f, ({ tmps := puts dl f a.tmps, defers := a.defers } : Act) = A f) (hdl : decide ((dl.map (·.2)).Nodup) = true)
  (hm : P.follows .mixedOrders = true) (hup : goesUp .any ops = true) (hn : ops.size = n) (hle : TabMono J Le t) (hJ : J w.drew)
  (hs : From P .any ops Q A J Le (Tab t) 0) (fin : ∀ f w, J w → (∀ i, i < n → Tab t i (f i) w) → Q .normal (A f) w) : (Code.region id ops true).wp P Q a w := by
 subst hn
 refine region_inv A J Le (Tab t) (firsts dl a.tmps) ?_ hm hup (Tab.mono hle) hJ hs.steps fin
 rw [← hA]
 have e : puts dl (firsts dl a.tmps) a.tmps = a.tmps := puts_same fun p hp => by
  unfold firsts
  rw [find_apart (of_decide_eq_true hdl) p hp]
 rw [e]
end
end Go.Proofs.YthdiiiopjkaifaaGreatDoor.Inv

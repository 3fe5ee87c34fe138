/-
Package http: a reader's fields.
All values of a name: what head.All comes to.
-/
import Derived.Test.YthdiiiopjkaifaaGreatDoorZdHttpB
import Derived.Test.YthdiiiopjkaifaaGreatDoorZdFlds
import Derived.Deep.RegionLaw
import Derived.Test.YthdiiiopjkaifaaGreatDoorZdPall3
section
namespace Go.Proofs.YthdiiiopjkaifaaGreatDoor.Pl
open Go.RowKit Go.Proofs.YthdiiiopjkaifaaGreatDoor.Pall Go.Proofs.YthdiiiopjkaifaaGreatDoorW.PrintWords Go.Proofs.YthdiiiopjkaifaaGreatDoorW.PrintLast
set_option linter.unusedVariables false
set_option linter.unusedSimpArgs false
theorem Rd.lt {W : World} {b : Nat} {m p : ByteArray} {fv bv lv : Value} (h : Rd W b m p fv bv lv) : b < W.heap.size := (Array.getElem?_eq_some_iff.1 h).1
theorem Rd.below {W W' : World} {b : Nat} {m p : ByteArray} {fv bv lv : Value} (h : Rd W b m p fv bv lv) (hb : Below W.heap.size W W') : Rd W' b m p fv bv lv := (hb.block _ h.lt).trans h
theorem Rd.grown {W W' : World} {b : Nat} {m p : ByteArray} {fv bv lv : Value} {row : Option Nat} (h : Rd W b m p fv bv lv) (hg : W.grownBy W' row) (hne : some b ≠ row) : Rd W' b m p fv bv lv := (hg.block _ h.lt hne).trans h
theorem Rd.alloc {W : World} {b : Nat} {m p : ByteArray} {fv bv lv : Value} (h : Rd W b m p fv bv lv) (o : Obj) : Rd (W.alloc o) b m p fv bv lv := h.below ((Below.refl _ _).alloc (Nat.le_refl _) _)
theorem Rd.setF {W : World} {b : Nat} {m p : ByteArray} {fv bv lv : Value} (h : Rd W b m p fv bv lv) (u : Value) : Rd (W.setCell ⟨b, 2, none⟩ u) b m p u bv lv := heap_setCell_same W b 2 _ _ u h
set_option maxRecDepth 100000 in
set_option maxHeartbeats 1000000 in
theorem fields_long (m p : ByteArray) (fv bv : Value) (A : Option Addr) (n c b : Nat) (w : World) (hr : Rd w b m p fv bv (.slice A n c)) (hn : 41 < n) (hn2 : n ≤ 140737488355328) :
  Calls Tryz.prog 103 #[.pointer (some ⟨b, 0, none⟩)] w fun e w' => e = .panicked (wrongV 3) ∧ Below b w w' := by
 obtain ⟨k0, k1, k2, k3, k4⟩ := hr.cell
 go_enter Tryz.func103, Tryz.ntmps103
 go_wp2_with (go_at_call 101; rw [decide_eq_false (by omega)]; refine (need_no 3 _).mono ?_; rintro e w1 ⟨rfl, hsame⟩; rw [hsame]; clear hsame w1)
 exact ⟨rfl, rfl, Below.refl _ _⟩
set_option maxRecDepth 100000 in
set_option maxHeartbeats 1000000 in
theorem fields_none (m p : ByteArray) (fv bv : Value) (g c b : Nat) (w : World) (hr : Rd w b m p fv bv (.slice (some ⟨g, 0, none⟩) 1 c)) (hc : 1 ≤ c) :
  Calls Tryz.prog 103 #[.pointer (some ⟨b, 0, none⟩)] w fun e w' => e = .returned (.tuple #[]) ∧ w' = w := by
 obtain ⟨k0, k1, k2, k3, k4⟩ := hr.cell
 clear hr
 go_enter Tryz.func103, Tryz.ntmps103
 go_wp2_with (go_at_call 101; refine (need_yes 3 _).mono ?_; rintro e w1 ⟨rfl, hsame⟩; rw [hsame]; clear hsame w1)
 all_goals
  go_loopw [20] (fun i w' => i = .int .i64 0 ∧ w' = w) (fun _ _ => 0)
  case atStart => exact ⟨rfl, rfl⟩
  case round =>
   obtain ⟨rfl, rfl⟩ := hrel
   go_wp2
   go_end0
   exact ⟨rfl, rfl⟩
/-- between two rounds -/
def FldI (w : World) (b : Nat) (m p : ByteArray) (bv lv : Value) (rest : List ByteArray) (i : Value) (W : World) : Prop :=
 ∃ (j : Nat) (v : Value), i = .int .i64 j ∧ j ≤ rest.length ∧ Below b w W ∧ Rd W b m p v bv lv ∧ Kd.R k76 76 W (b + 1) (fun _ => True) v ((rest.take j).map fldS) ∧ fldsE (rest.take j) = 0
set_option maxRecDepth 100000 in
set_option maxHeartbeats 4000000 in
theorem fields_some (m p : ByteArray) (bv : Value) (g c b : Nat) (rest : List ByteArray) (w : World) (hS : ∀ W, Below b w W → Sh W) (hr : Rd w b m p (.slice none 0 0) bv (.slice (some ⟨g, 0, none⟩) (rest.length + 1) c)) (hc : rest.length + 1 ≤ c) (hg : g < b)
  (hl : ∀ j, j < rest.length → w.cell? ⟨g, 1 + j, none⟩ = some (.string (rest.getD j ByteArray.empty))) (hn : rest.length ≤ 40) (hn0 : 0 < rest.length) :
  Calls Tryz.prog 103 #[.pointer (some ⟨b, 0, none⟩)] w fun e w' => Below b w w' ∧
   ((fldsE rest ≠ 0 ∧ e = .panicked (wrongV (fldsE rest))) ∨ (fldsE rest = 0 ∧ e = .returned (.tuple #[]) ∧ ∃ v, Rd w' b m p v bv (.slice (some ⟨g, 0, none⟩) (rest.length + 1) c) ∧ Kd.R k76 76 w' (b + 1) (fun _ => True) v (rest.map fldS))) := by
 obtain ⟨k0, k1, k2, k3, k4⟩ := hr.cell
 have hlt := hr.lt
 have hu := Tryz.underlying76
 have hc1 : ¬ c = 1 := by omega
 have HR := hid hr
 have HS := hid hS
 have HL := hid hl
 clear hr hS hl
 go_enter Tryz.func103, Tryz.ntmps103
 go_wp2_with (go_at_call 101; rw [decide_eq_true (by omega)]; refine (need_yes 3 _).mono ?_; rintro e w1 ⟨rfl, hsame⟩; rw [hsame]; clear hsame w1)
 go_loopw [20] (fun i W => FldI w b m p bv (.slice (some ⟨g, 0, none⟩) (rest.length + 1) c) rest i W) (fun i _ => rest.length - (intOf i).toNat)
 case atStart => exact ⟨0, _, rfl, Nat.zero_le _, Below.refl _ _, HR.out, Kd.R_nil _ _ _ _ _, rfl⟩
 case round =>
  obtain ⟨j, v, rfl, hj, hB, hr, hrow, hok⟩ := hrel
  by_cases hjl : j < rest.length
  ·have cx : wr.cell? ⟨g, 1 + j, none⟩ = some (.string (rest.getD j ByteArray.empty)) := (hB.cell (p := ⟨g, 1 + j, none⟩) hg).trans (HL.out j hjl)
   have HT := hid (take_at hjl)
   have HRE := hid (rest_at hjl)
   have HB := hid hB
   have HR := hid hr
   have HROW := hid hrow
   have HOK := hid hok
   have hwlt := hr.lt
   generalize rest.getD j ByteArray.empty = x at *
   have HE := hid (show (fieldS x).2.2 = (fieldS x).2.2 from rfl)
   have HF := hid (field_any x wr (HS.out _ hB))
   have hfs := hid (show fldS x = ⟨(fieldS x).1, (fieldS x).2.1⟩ from rfl)
   clear hB hr hrow hok HL HS k0 k1 k2 k3 k4
   generalize hfx : fieldS x = fx at *
   obtain ⟨f1, f2, f3⟩ := fx
   by_cases herr : f3 = 0
   ·subst herr
    go_upto_region 6 with first
     | (go_at_call 147; refine HF.out.mono ?_; rintro e w1 ⟨rfl, hb1⟩)
     | (go_at_call 101; refine (need_yes _ _).mono ?_; rintro e w2 ⟨rfl, hsame⟩; rw [hsame]; clear hsame w2)
    have hW1 : Below wr.heap.size wr (w1.alloc (.cells #[.string f1, .string f2] 76)) := hb1.alloc hb1.size _
    have hq0 : (w1.alloc (.cells #[.string f1, .string f2] 76)).heap[w1.heap.size]? = some (.cells #[.string f1, .string f2] 76) := by show (w1.heap.push _)[w1.heap.size]? = _; simp
    have hq : w1.heap.size < (w1.alloc (.cells #[.string f1, .string f2] 76)).heap.size := by simp
    have hR1 := HR.out.below hW1
    have hRow1 := Kd.R_below HROW.out hW1
    have hB1 := HB.out.trans (hW1.mono (Nat.le_of_lt hwlt))
    generalize w1.alloc (.cells #[.string f1, .string f2] 76) = W1 at *
    obtain ⟨A, cc, rfl, hcc, _⟩ := Kd.R_reads hRow1
    have p0 := (blk_cell hq0 0).trans (show _ = some (Value.string f1) from rfl)
    have p1 := (blk_cell hq0 1).trans (show _ = some (Value.string f2) from rfl)
    obtain ⟨k0, k1, k2, k3, k4⟩ := hR1.cell
    have f2' := blk_frozen hR1 2
    have HR1 := hid hR1
    have HROW1 := hid hRow1
    have HB1 := hid hB1
    have hlt1 : b < W1.heap.size := hR1.lt
    have hfl : ((rest.take j).map fldS).length = j := by rw [List.length_map, List.length_take]; omega
    have HM := hid (show (rest.take (j + 1)).map fldS = (rest.take j).map fldS ++ [⟨f1, f2⟩] by rw [HT.out, List.map_append, List.map_singleton, hfs.out])
    have HO2 := hid (show fldsE (rest.take (j + 1)) = 0 by rw [HT.out]; exact fldsE_snoc_ok _ _ HOK.out (by rw [hfx]))
    clear HT HRE hfs hfx HOK
    generalize (rest.take j).map fldS = fs at *
    subst hfl
    generalize w1.heap.size = q at *
    clear hR1 hRow1 hB1 hW1 HF HE cx hb1 HROW HR hq0
    go_region_law (refine Kd.R_append_step k76 (W := W1.drew) (w0 := W1.drew) (b + 1) (by rfl) (.tmp 38) (.tmp 40) 22 76 (.agg #[.string ⟨#[]⟩, .string ⟨#[]⟩]) 32 rfl Tryz.underlying22 info76 rfl (by decide) (by omega) _ fs ⟨f1, f2⟩ [.string f1, .string f2] (fun _ => True) (fun _ => False) (by simp [Act.eval, Act.put]) (by simp [Act.eval, Act.put]) (k76_mkM W1.drew (b + 1) _ ⟨f1, f2⟩) (fun _ hk => hk.elim) (fun _ _ => trivial) (Kd.R_drew HROW1.out) (Below.refl _ _) hlt1 (by omega) ?_; intro v1 w2 hrow2 hb2 hg2 _; have hsl := Kd.R_reads hrow2; obtain ⟨a2, c2, rfl, _, _⟩ := hsl; have hR2 := Rd.grown (W := W1.drew) HR1.out hg2 (own_ne HROW1.out); obtain ⟨r0, r1, r2, r3, r4⟩ := hR2.cell; have f2w := blk_frozen hR2 2; have HR2 := hid hR2; have HROW2 := hid hrow2; have HB2 := hid ((HB1.out.drew).trans (hb2.mono (Nat.le_succ b))); clear hR2 hrow2 hg2 hb2)
    all_goals
     go_wp2
     go_roundw
     case rel => exact ⟨fs.length + 1, _, by go_num, hjl, HB2.out.setCell (p := ⟨b, 2, none⟩) (Nat.le_refl _) _, HR2.out.setF _, by rw [HM.out]; have hR := R_past (i := 2) HROW2.out (.slice a2 (fs.length + 1) c2); rw [List.length_append, List.length_singleton] at hR; exact hR, HO2.out⟩
     case measure => first | omega | (simp; omega) | (simp [intOf]; omega) | trace_state
   ·go_wp2_with first
     | (go_at_call 147; refine HF.out.mono ?_; rintro e w1 ⟨rfl, hb1⟩)
     | (go_at_call 101; rw [show (f3 == 0) = false from by simpa using herr]; refine (need_no _ _).mono ?_; rintro e w2 ⟨rfl, hsame⟩; rw [hsame]; clear hsame w2)
    exact ⟨rfl, HB.out.trans (((hb1.alloc hb1.size _)).mono (Nat.le_of_lt hwlt)), .inl (by rw [HRE.out, fldsE_bad _ _ _ HOK.out (by rw [hfx]; exact herr), hfx]; exact ⟨herr, rfl⟩)⟩
  ·obtain rfl : j = rest.length := by omega
   rw [List.take_length] at hrow hok
   have HROW := hid hrow
   have HRR := hid hr
   clear hrow hr k0 k1 k2 k3 k4
   go_wp2
   go_end0
   exact ⟨hB, .inr ⟨hok, rfl, _, HRR.out, HROW.out⟩⟩
end Go.Proofs.YthdiiiopjkaifaaGreatDoor.Pl
end
section
namespace Go.Proofs.YthdiiiopjkaifaaGreatDoor.Pall
open Go.RowKit Go.Proofs.YthdiiiopjkaifaaGreatDoorW.PrintWords Go.Proofs.YthdiiiopjkaifaaGreatDoorW.PrintLast Go.Proofs.YthdiiiopjkaifaaGreatDoor.Pl
set_option linter.unusedVariables false
set_option linter.unusedSimpArgs false
abbrev Pr := S76
def allS (l : List Pr) (n : ByteArray) : List ByteArray := (l.filter fun p => sameS p.f0 n).map (·.f1)
theorem allS_len (l : List Pr) (n : ByteArray) : (allS l n).length ≤ l.length := by
 unfold allS; rw [List.length_map]; exact List.length_filter_le _ _
theorem allS_yes {p : Pr} {l : List Pr} {n : ByteArray} (h : sameS p.f0 n = true) : allS (p :: l) n = p.f1 :: allS l n := by
 simp [allS, List.filter_cons, h]
theorem allS_no {p : Pr} {l : List Pr} {n : ByteArray} (h : ¬ sameS p.f0 n = true) : allS (p :: l) n = allS l n := by
 simp [allS, List.filter_cons, h]
theorem rdP (l : List Pr) (i : Nat) : rd_T76 l (i : Int) = l.getD i z76 := by unfold rd_T76; rw [Int.toNat_natCast]
theorem drop_get {α : Type} (l : List α) (d : α) {i : Nat} (h : i < l.length) : l.drop i = l.getD i d :: l.drop (i + 1) := by
 rw [List.drop_eq_getElem_cons h, List.getD, List.getElem?_eq_getElem h]; rfl
theorem getD_mem {α : Type} (l : List α) (d : α) {i : Nat} (h : i < l.length) : l.getD i d ∈ l := by
 rw [List.getD, List.getElem?_eq_getElem h]; exact List.getElem_mem h
theorem headAll_loop (l : List Pr) (n : ByteArray) (hl : l.length < 8796093022208) (hs : ∀ p ∈ l, p.f0.size ≤ 140737488351232) (hn : n.size ≤ 140737488351232) : ∀ d i (out : List ByteArray), l.length - i = d → i ≤ l.length → out.length ≤ i →
  Ev (fun k => head_All.l0 k n out l (l.length : Int) (i : Nat)) (out ++ allS (l.drop i) n) := by
 intro d
 induction d with
 | zero =>
  intro i out hd hi ho
  obtain rfl : i = l.length := by omega
  refine Ev.step (f := fun _ => some out) (fun k => ?_) ?_
  ·simp only [head_All.l0]; rw [if_neg (by omega)]
  ·rw [List.drop_length]; simp only [allS, List.filter_nil, List.map_nil, List.append_nil]; exact Ev.now _
 | succ d ih =>
  intro i out hd hi ho
  have hlt : i < l.length := by omega
  have hm := hs _ (getD_mem l z76 hlt)
  rw [drop_get l z76 hlt]
  refine Ev.step (f := fun k => if sameS (l.getD i z76).f0 n = true then head_All.l0 k n (out ++ [(l.getD i z76).f1]) l (l.length : Int) ((i + 1 : Nat) : Int) else head_All.l0 k n out l (l.length : Int) ((i + 1 : Nat) : Int)) (fun k => ?_) ?_
  ·simp only [head_All.l0]
   rw [if_pos (by omega), if_pos (by omega), if_pos (by omega), rdP, headSame _ _ hm hn, Option.bind_some, wrap_id (by omega) (by omega)]
   simp only [if_pos (show out.length < 8796093022208 by omega)]
   rfl
  ·by_cases h : sameS (l.getD i z76).f0 n = true
   ·simp only [if_pos h]
    have := ih (i + 1) (out ++ [(l.getD i z76).f1]) (by omega) (by omega) (by rw [List.length_append]; simp; omega)
    have e : out ++ allS (l.getD i z76 :: l.drop (i + 1)) n = out ++ [(l.getD i z76).f1] ++ allS (l.drop (i + 1)) n := by
     rw [allS_yes h]; simp
    rw [e]; exact this
   ·simp only [if_neg h]
    have := ih (i + 1) out (by omega) (by omega) (by omega)
    have e : allS (l.getD i z76 :: l.drop (i + 1)) n = allS (l.drop (i + 1)) n := allS_no h
    rw [e]; exact this
theorem headAll_ev (l : List Pr) (n : ByteArray) (hl : l.length < 8796093022208) (hs : ∀ p ∈ l, p.f0.size ≤ 140737488351232) (hn : n.size ≤ 140737488351232) : Ev (fun k => head_All.f k l n) (allS l n) := by
 have h := headAll_loop l n hl hs hn _ 0 [] rfl (by omega) (by simp)
 rw [List.nil_append, List.drop_zero] at h; exact h
theorem all_any (l : List Pr) (n : ByteArray) (A : Option Addr) (c : Nat) (w : World) (hC : Kd.C k76 w A l.length l) (hc : l.length ≤ c) (hl : l.length < 8796093022208) (hs : ∀ p ∈ l, p.f0.size ≤ 140737488351232) (hn : n.size ≤ 140737488351232) :
  Calls Tryz.prog 79 #[.slice A l.length c, .string n] w fun e w' => ∃ A' c', e = .returned (.slice A' (allS l n).length c') ∧ (allS l n).length ≤ c' ∧ Kd.C Kd.string w' A' (allS l n).length (allS l n) ∧ Below w.heap.size w w' := by
 obtain ⟨k, hk⟩ := headAll_ev l n hl hs hn
 refine (head_All.calls k A c l n _ w hC hc (hk k (Nat.le_refl k))).mono ?_
 rintro e w' ⟨v, rfl, hR, hb⟩
 obtain ⟨A', c', rfl, h1, h2⟩ := Kd.R_reads hR
 exact ⟨A', c', rfl, h1, h2, hb⟩
end Go.Proofs.YthdiiiopjkaifaaGreatDoor.Pall
end

/-
  HeadSame: for every choices the law returns true.
-/
import Derived.Test.YtgajaaagpihlkaaDoorRowB
import Derived.Test.YtgajaaagpihlkaaDoorPl08
import Derived.Test.YtgajaaagpihlkaaDoorTie
import Derived.Test.YtgajaaagpihlkaaDoorCards
import Derived.Outline
namespace Go.Proofs.YtgajaaagpihlkaaDoor.headSame
open Go.RowKit Go.Proofs.YtgajaaagpihlkaaDoorW.PrintWords Go.Proofs.YtgajaaagpihlkaaDoor.Pall Go.Proofs.YtgajaaagpihlkaaDoor.Pl
set_option linter.unusedVariables false
set_option linter.unusedSimpArgs false

/-- a row of bytes of the call's own: what each is -/
structure ByteRow (w0 : World) (b : Nat) (W : World) (n : Nat) (f : Nat → UInt8) : Prop where
  cell : ∀ j, j < n → W.cell? ⟨b, j, none⟩ = some (.int .u8 (f j).toNat)
  free : ∀ j, j < n → W.frozen? ⟨b, j, none⟩ = false
  below : Below w0.heap.size w0 W
  old : w0.heap.size ≤ b
  inside : b < W.heap.size
theorem ByteRow.start (w0 w : World) (s : ByteArray) (h : Below w0.heap.size w0 w) : ByteRow w0 w.heap.size (Lib.bytesWorld w 5 s) s.size (fun j => s.data.toList.getD j 0) where
  cell j hj := Lib.bytesWorld_cell w 5 s j hj
  free j hj := by
    unfold World.frozen?
    rw [Lib.bytesWorld_at_new]
    have : s.size ≤ (Lib.bytesCells w 5 s).size := by unfold Lib.bytesCells; rw [Array.size_append, Array.size_map]; exact Nat.le_add_right _ _
    simp; omega
  below := h.trans ((below_bytes w 5 s).mono h.size)
  old := h.size
  inside := by rw [Lib.bytesWorld_size]; omega
theorem ByteRow.put {w0 W : World} {b n : Nat} {f : Nat → UInt8} (h : ByteRow w0 b W n f) {k : Nat} (hk : k < n) (v : UInt8) (x : Int) (hx : x = (v.toNat : Int)) :
    ByteRow w0 b (W.setCell ⟨b, k, none⟩ (.int .u8 x)) n (fun j => if j = k then v else f j) where
  cell j hj := by
    subst hx
    by_cases e : j = k
    · subst e; rw [World.cell?_setCell_same W _ _ (h.cell j hj), if_pos rfl]
    · rw [World.cell?_setCell_other (h := by intro e2; apply e; injection e2 with _ e3; exact e3.symm), h.cell j hj, if_neg e]
  free j hj := by rw [World.frozen?_setCell]; exact h.free j hj
  below := h.below.setCell h.old _
  old := h.old
  inside := by simp; exact h.inside
theorem ByteRow.congr {w0 W : World} {b n : Nat} {f g : Nat → UInt8} (h : ByteRow w0 b W n f) (e : ∀ j, j < n → f j = g j) : ByteRow w0 b W n g where
  cell j hj := by rw [h.cell j hj, e j hj]
  free := h.free
  below := h.below
  old := h.old
  inside := h.inside
theorem ByteRow.later {w0 W W' : World} {b n : Nat} {f : Nat → UInt8} (h : ByteRow w0 b W n f) (hb : Below W.heap.size W W') : ByteRow w0 b W' n f where
  cell j hj := (hb.cell (p := ⟨b, j, none⟩) h.inside).trans (h.cell j hj)
  free j hj := (hb.frozen (p := ⟨b, j, none⟩) h.inside).trans (h.free j hj)
  below := h.below.trans (hb.mono h.below.size)
  old := h.old
  inside := Nat.lt_of_lt_of_le h.inside hb.size
/-- as a text -/
theorem ByteRow.text {w0 W : World} {b n : Nat} {f : Nat → UInt8} (h : ByteRow w0 b W n f) (cap : Nat) (l : List UInt8) (hl : l.length = n) (hf : ∀ j, j < n → f j = l.getD j 0) :
    (convert 22 9 (.slice (some ⟨b, 0, none⟩) n cap)).run Tryd.prog W = .ok (.string (mkB l)) W := by
  have h2 := run_convert_bytes_arg (P := Tryd.prog) W 22 5 Tryd.underlying22 Tryd.underlying5 b 0 n cap (l.map fun c => (c.toNat : Int)) (by rw [List.length_map, hl]) (fun i hi => by
    rw [Nat.zero_add, h.cell i hi, hf i hi]
    have : i < l.length := by omega
    simp [List.getD, this]) 9 Tryd.underlying9
  rw [h2]
  congr 2
  exact ba_ext (by rw [strOfNums_data, mkB_list, List.map_map]; exact (List.map_congr_left (fun a _ => by simp)).trans (List.map_id _))

theorem getD_mem' {α : Type} (l : List α) (d : α) {i : Nat} (h : i < l.length) : l.getD i d ∈ l := by
  rw [List.getD, List.getElem?_eq_getElem h]; exact List.getElem_mem h
/-- a letter that may be made great -/
def upB (g : Bool) (c : UInt8) : UInt8 := if g = true then UInt8.ofNat (c.toNat - 32) else c
/-- behind k rounds -/
def upTo (l : List UInt8) (g : List Bool) (k j : Nat) : UInt8 := if j < k then upB (g.getD j false) (l.getD j 0) else l.getD j 0
def upAll (l : List UInt8) (g : List Bool) : List UInt8 := (List.range l.length).map (upTo l g (min l.length g.length))
theorem upTo_step {l : List UInt8} {g : List Bool} {k j : Nat} : upTo l g (k + 1) j = if j = k then upB (g.getD k false) (l.getD k 0) else upTo l g k j := by
  unfold upTo
  by_cases e : j = k
  · subst e; rw [if_pos (Nat.lt_succ_self _), if_pos rfl]
  · rw [if_neg e]
    by_cases h : j < k
    · rw [if_pos (by omega), if_pos h]
    · rw [if_neg (by omega), if_neg h]
theorem up_small (g : Bool) (c : UInt8) (h : letter8 c = true) : smallB (upB g c) = c ∧ smallB c = c ∧ tokB (upB g c) = true := by
  have h2 := u8_all (fun c => !letter8 c || (decide (smallB (upB true c) = c) && decide (smallB c = c) && tokB (upB true c) && tokB c)) (by decide +kernel) c
  rw [h] at h2
  simp only [Bool.not_true, Bool.false_or, Bool.and_eq_true, decide_eq_true_eq] at h2
  cases g with
  | true => exact ⟨h2.1.1.1, h2.1.1.2, h2.1.2⟩
  | false => exact ⟨h2.1.1.2, h2.1.1.2, h2.2⟩
theorem upTo_small {l : List UInt8} (hl : l.all letter8 = true) (g : List Bool) (k : Nat) {j : Nat} (hj : j < l.length) : smallB (upTo l g k j) = l.getD j 0 ∧ smallB (l.getD j 0) = l.getD j 0 ∧ tokB (upTo l g k j) = true := by
  have hm : letter8 (l.getD j 0) = true := by
    rw [List.getD, List.getElem?_eq_getElem hj]; exact List.all_eq_true.1 hl _ (List.getElem_mem hj)
  unfold upTo
  by_cases h : j < k
  · rw [if_pos h]; exact up_small _ _ hm
  · rw [if_neg h]; exact ⟨(up_small false _ hm).2.1, (up_small false _ hm).2.1, (up_small false _ hm).2.2⟩
theorem upAll_small {l : List UInt8} (hl : l.all letter8 = true) (g : List Bool) : smallL (upAll l g) = smallL l := by
  apply List.ext_getElem
  · simp [smallL, upAll]
  · intro j h1 h2
    have hj : j < l.length := by simpa [smallL] using h2
    have h := upTo_small hl g (min l.length g.length) hj
    have e : l.getD j 0 = l[j] := by rw [List.getD, List.getElem?_eq_getElem hj]; rfl
    simp only [smallL, upAll, List.getElem_map, List.getElem_range]
    rw [h.1, ← e, h.2.1]
theorem upAll_len (l : List UInt8) (g : List Bool) : (upAll l g).length = l.length := by simp [upAll]
theorem upAll_tok {l : List UInt8} (hl : l.all letter8 = true) (hn : l ≠ []) (g : List Bool) : tokL (upAll l g) = true := by
  unfold tokL
  have h1 : (upAll l g).all tokB = true := by
    rw [List.all_eq_true]
    intro x hx
    obtain ⟨j, hj, rfl⟩ := List.mem_map.1 hx
    exact (upTo_small hl g _ (List.mem_range.1 hj)).2.2
  have h2 : (upAll l g).isEmpty = false := by
    cases h : upAll l g with
    | nil => have := upAll_len l g; rw [h] at this; cases l with
      | nil => exact absurd rfl hn
      | cons _ _ => simp at this
    | cons _ _ => rfl
  rw [h1, h2]; rfl
/-- the text of the law -/
def xS (c : List Int) : ByteArray := ⟨#[120]⟩ ++ wordS c
theorem xS_list (c : List Int) : (xS c).data.toList = 120 :: (wordS c).data.toList := by simp [xS]
theorem xS_letters (c : List Int) : (xS c).data.toList.all letter8 = true := by
  rw [xS_list, List.all_cons, wordS_letters]; rfl
theorem xS_size (c : List Int) : 1 ≤ (xS c).size ∧ (xS c).size ≤ 31 := by
  have h : (xS c).size = (xS c).data.toList.length := rfl
  have := wordS_size c
  have h2 : (wordS c).data.toList.length = (wordS c).size := rfl
  rw [h, xS_list, List.length_cons]; omega
theorem same_up {l : List UInt8} (hl : l.all letter8 = true) (g : List Bool) : sameS (mkB l) (mkB (upAll l g)) = true ∧ sameS (mkB (upAll l g)) (mkB l) = true ∧ sameS (mkB l) (mkB l) = true := by
  unfold sameS; rw [mkB_list, mkB_list, upAll_small hl]; simp
theorem same_longer (l : List UInt8) (g : List Bool) : sameS (mkB l) (mkB (upAll l g) ++ ⟨#[120]⟩) = false := by
  unfold sameS
  rw [beq_eq_false_iff_ne]; intro h
  have := congrArg List.length h
  simp [smallL, mkB_list, upAll_len, mkB] at this
/-- with another sign at a place -/
def dashAt (l : List UInt8) (g : List Bool) (p : Nat) : List UInt8 := (List.range l.length).map fun j => if j = p then 45 else upTo l g (min l.length g.length) j
theorem same_dash {l : List UInt8} (hl : l.all letter8 = true) (g : List Bool) {p : Nat} (hp : p < l.length) : sameS (mkB l) (mkB (dashAt l g p)) = false := by
  unfold sameS
  rw [beq_eq_false_iff_ne]; intro h
  have h2 : (smallL (mkB l).data.toList)[p]? = (smallL (mkB (dashAt l g p)).data.toList)[p]? := by rw [h]
  rw [mkB_list, mkB_list] at h2
  simp only [smallL, dashAt, List.getElem?_map, List.getElem?_range hp, Option.map_some] at h2
  rw [List.getElem?_eq_getElem hp, Option.map_some] at h2
  injection h2 with h2
  simp only [if_true] at h2
  have hm := List.all_eq_true.1 hl _ (List.getElem_mem hp)
  rw [(up_small false _ hm).2.1] at h2
  rw [h2] at hm
  revert hm; decide

theorem dash_at (l : List UInt8) (g : List Bool) (k : Nat) (a : UInt8) (hk : min l.length g.length = k) : ∀ j, j < l.length → (if j = a.toNat % l.length then (45 : UInt8) else upTo l g k j) = (dashAt l g (a.toNat % l.length)).getD j 0 := by
  intro j hj
  unfold dashAt; rw [hk]; simp [List.getD, hj]
set_option maxRecDepth 100000 in
set_option maxHeartbeats 2000000 in
theorem core (A0 : Option Addr) (c0 : Nat) (l0 : List Int) {W : World} (hr0 : Kd.C (Kd.int .u8) W A0 l0.length l0) (hc0 : l0.length ≤ c0) (hw0 : ∀ x ∈ l0, (Lit.int .u8 x).wf = true) (y0 : l0.length ≤ 140737488351232)
    (A1 : Option Addr) (c1 : Nat) (g : List Bool) (hr1 : Kd.C Kd.bool W A1 g.length g) (hc1 : g.length ≤ c1) (y1 : g.length ≤ 140737488351232) (a : UInt8) (hS : Sh W) :
    Calls Tryd.prog 3 #[.slice A0 l0.length c0, .slice A1 g.length c1, .int .u8 a.toNat] W fun e W' => e = .returned (.bool true) ∧ Below W.heap.size W W' := by
  have HW0 := hid (u8s_of_wf hw0)
  have hsn : (wordS l0).size ≤ 30 := wordS_size l0
  have hxs := xS_size l0
  have hxl := xS_letters l0
  clear hw0
  go_enter Tryd.func3, Tryd.ntmps3
  go_wp2_with fail
  refine (word_any A0 c0 l0 _ hr0 hc0 HW0.out (by omega)).mono ?_
  rintro e w1 ⟨rfl, hb1⟩
  have hcv := fun W : World => Lib.run_convert_string_bytes (P := Tryd.prog) W 9 22 5 ((⟨#[120]⟩ : ByteArray) ++ wordS l0) Tryd.underlying9 Tryd.underlying22 Tryd.underlying5
  go_wp2_with fail
  clear hcv
  have HR := hid (ByteRow.start W w1 (xS l0) hb1)
  rw [show ((⟨#[120]⟩ : ByteArray) ++ wordS l0) = xS l0 from rfl]
  have hsz : (xS l0).size = 1 + (wordS l0).size := by unfold xS; rw [ByteArray.size_append]; rfl
  clear hsn HW0
  generalize xS l0 = s at *
  generalize wordS l0 = wd at *
  generalize Lib.bytesWorld w1 5 s = W1 at HR ⊢
  generalize grownCap w1 (1 + wd.size) 0 5 = cp at *
  generalize 1 + wd.size = n at *
  subst hsz
  generalize hbb : w1.heap.size = b at *
  clear hbb hb1
  have HR : Hid (ByteRow W b W1 s.size (upTo s.data.toList g 0)) := hid (HR.out.congr (fun j hj => by unfold upTo; rw [if_neg (by omega)]))
  have HL := hid hxl
  clear hxl
  go_loopw [9] (fun i X => ∃ k : Nat, k ≤ s.size ∧ k ≤ g.length ∧ i = .int .i64 k ∧ ByteRow W b X s.size (upTo s.data.toList g k)) (fun i _ => s.size - (RowKit.intOf i).toNat)
  case atStart => exact ⟨0, Nat.zero_le _, Nat.zero_le _, rfl, HR.out⟩
  case round =>
    clear HR
    obtain ⟨k, hk, hkg, rfl, hR⟩ := hrel
    have HR := hid hR
    clear hR
    by_cases hlt : k < s.size
    · by_cases hlg : k < g.length
      · obtain ⟨ad, rfl, hgc⟩ := Kd.at_bool (Kd.C_below hr1 HR.out.below) (k : Int) (by omega) (by omega)
        have hgv : rdOf false g (k : Int) = g.getD k false := by unfold rdOf; rw [Int.toNat_natCast]
        rw [hgv, Int.toNat_natCast] at hgc
        clear hgv
        have hcell := HR.out.cell k hlt
        have hfree := HR.out.free k hlt
        have hlow : upTo s.data.toList g k k = s.data.toList.getD k 0 := by unfold upTo; rw [if_neg (by omega)]
        rw [hlow] at hcell
        have hm : letter8 (s.data.toList.getD k 0) = true := List.all_eq_true.1 HL.out _ (getD_mem' s.data.toList 0 hlt)
        have hrange : 97 ≤ ((s.data.toList.getD k 0).toNat : Int) ∧ ((s.data.toList.getD k 0).toNat : Int) ≤ 122 := by
          have := of_decide_eq_true hm; omega
        obtain ⟨hc97, hc122⟩ := hrange
        have HUP : Hid (∀ q : Bool, g.getD k false = q → ∀ j, j < s.size → (if j = k then upB q (s.data.toList.getD k 0) else upTo s.data.toList g k j) = upTo s.data.toList g (k + 1) j) := hid (fun q hq j _ => by rw [upTo_step, hq])
        clear hlow hm
        cases hq : g.getD k false with
        | true =>
          rw [hq] at hgc
          have hval : ((s.data.toList.getD k 0).toNat : Int) - 32 = ((upB true (s.data.toList.getD k 0)).toNat : Int) := by
            have := (s.data.toList.getD k 0).toNat_lt
            unfold upB; rw [if_pos rfl, UInt8.toNat_ofNat']; omega
          have HP := hid ((HR.out.put hlt (upB true (s.data.toList.getD k 0)) _ hval).congr (HUP.out true hq))
          clear HUP hq hval
          generalize s.data.toList.getD k 0 = c at *
          go_wp2
          go_roundw
          case rel => exact ⟨k + 1, by omega, by omega, by go_num, HP.out⟩
          case measure => simp [RowKit.intOf]; omega
        | false =>
          rw [hq] at hgc
          have HP := hid (HR.out.congr (fun j hj => (show upTo s.data.toList g k j = upTo s.data.toList g (k + 1) j by
            rw [← HUP.out false hq j hj]
            by_cases e : j = k
            · subst e; rw [if_pos rfl]; unfold upTo upB; rw [if_neg (by omega), if_neg (by decide)]
            · rw [if_neg e])))
          clear HUP hq
          go_wp2
          go_roundw
          case rel => exact ⟨k + 1, by omega, by omega, by go_num, HP.out⟩
          case measure => simp [RowKit.intOf]; omega
      · have hng : ¬ k < g.length := hlg
        have hmin : min s.size g.length = k := by omega
        have hlen : s.data.toList.length = s.size := rfl
        have hUP : ∀ j, j < s.size → upTo s.data.toList g k j = (upAll s.data.toList g).getD j 0 := fun j hj => by
          unfold upAll; rw [hlen, hmin]; simp [List.getD, hj]
        have ht1 := HR.out.text cp (upAll s.data.toList g) (upAll_len _ _) hUP
        have HD := hid (dash_at s.data.toList g k a (by rw [hlen]; exact hmin))
        have hp : a.toNat % s.size < s.size := Nat.mod_lt _ (by omega)
        have hcell := HR.out.cell (a.toNat % s.size) hp
        have hfree := HR.out.free (a.toNat % s.size) hp
        have HP := hid (HR.out.put hp 45 45 rfl)
        have HSU := hid (same_up HL.out g)
        have HSL := hid (same_longer s.data.toList g)
        have HSD := hid (same_dash HL.out g (p := a.toNat % s.size) hp)
        have HTK := hid (show tokL (mkB (upAll s.data.toList g)).data.toList = true from upAll_tok HL.out (by intro h; rw [h] at hlen; simp at hlen; omega) g)
        have hms : mkB s.data.toList = s := mkB_self s
        rw [hms] at HSU HSL HSD
        have hus : (mkB (upAll s.data.toList g)).size ≤ 140737488351232 := by rw [mkB_size, upAll_len]; omega
        have hds : (mkB (dashAt s.data.toList g (a.toNat % s.size))).size ≤ 140737488351232 := by rw [mkB_size]; simp [dashAt]; omega
        have husz : (mkB (upAll s.data.toList g)).size = s.size := by rw [mkB_size, upAll_len]; rfl
        have h255 := a.toNat_lt
        clear hUP hms hlen HR
        generalize mkB (upAll s.data.toList g) = t at *
        generalize hx : upTo s.data.toList g k (a.toNat % s.size) = old at *
        clear hx
        go_wp2_with fail
        refine (known08_any _ (hS.of_below HP.out.below)).mono ?_
        rintro e w3 ⟨rfl, hb3⟩
        have HP := hid (HP.out.later hb3)
        clear hb3 hcell hfree ht1
        go_wp2_with fail
        refine (same_any s t _ (by omega) (by omega)).mono ?_
        rintro e w4 ⟨rfl, hb4⟩
        rw [HSU.out.1]
        have HP := hid (HP.out.later hb4)
        clear hb4
        go_wp2_with fail
        refine (same_any t s _ (by omega) (by omega)).mono ?_
        rintro e w5 ⟨rfl, hb5⟩
        rw [HSU.out.2.1]
        have HP := hid (HP.out.later hb5)
        clear hb5
        go_wp2_with fail
        refine (same_any s s _ (by omega) (by omega)).mono ?_
        rintro e w6 ⟨rfl, hb6⟩
        rw [HSU.out.2.2]
        have HP := hid (HP.out.later hb6)
        clear hb6
        go_wp2_with fail
        refine (same_any s (t ++ (⟨#[120]⟩ : ByteArray)) _ (by omega) (by rw [ByteArray.size_append]; show t.size + 1 ≤ _; omega)).mono ?_
        rintro e w7 ⟨rfl, hb7⟩
        rw [HSL.out]
        have HP := hid (HP.out.later hb7)
        clear hb7
        have hct := HP.out.text cp (dashAt s.data.toList g (a.toNat % s.size)) (by simp [dashAt]) HD.out
        generalize mkB (dashAt s.data.toList g (a.toNat % s.size)) = t2 at *
        go_wp2_with fail
        refine (same_any s t2 _ (by omega) hds).mono ?_
        rintro e w8 ⟨rfl, hb8⟩
        rw [HSD.out]
        have HP := hid (HP.out.later hb8)
        clear hb8 hct
        go_wp2_with fail
        refine (token_any t _).mono ?_
        rintro e w9 ⟨rfl, hb9⟩
        rw [HTK.out]
        have HP := hid (HP.out.later hb9)
        clear hb9
        go_wp2
        go_ret
        exact ⟨rfl, HP.out.below⟩
    · have hns : ¬ k < s.size := hlt
      have hmin : min s.size g.length = k := by omega
      have hlen : s.data.toList.length = s.size := rfl
      have hUP : ∀ j, j < s.size → upTo s.data.toList g k j = (upAll s.data.toList g).getD j 0 := fun j hj => by
        unfold upAll; rw [hlen, hmin]; simp [List.getD, hj]
      have ht1 := HR.out.text cp (upAll s.data.toList g) (upAll_len _ _) hUP
      have HD := hid (dash_at s.data.toList g k a (by rw [hlen]; exact hmin))
      have hp : a.toNat % s.size < s.size := Nat.mod_lt _ (by omega)
      have hcell := HR.out.cell (a.toNat % s.size) hp
      have hfree := HR.out.free (a.toNat % s.size) hp
      have HP := hid (HR.out.put hp 45 45 rfl)
      have HSU := hid (same_up HL.out g)
      have HSL := hid (same_longer s.data.toList g)
      have HSD := hid (same_dash HL.out g (p := a.toNat % s.size) hp)
      have HTK := hid (show tokL (mkB (upAll s.data.toList g)).data.toList = true from upAll_tok HL.out (by intro h; rw [h] at hlen; simp at hlen; omega) g)
      have hms : mkB s.data.toList = s := mkB_self s
      rw [hms] at HSU HSL HSD
      have hus : (mkB (upAll s.data.toList g)).size ≤ 140737488351232 := by rw [mkB_size, upAll_len]; omega
      have hds : (mkB (dashAt s.data.toList g (a.toNat % s.size))).size ≤ 140737488351232 := by rw [mkB_size]; simp [dashAt]; omega
      have husz : (mkB (upAll s.data.toList g)).size = s.size := by rw [mkB_size, upAll_len]; rfl
      have h255 := a.toNat_lt
      clear hUP hms hlen HR
      generalize mkB (upAll s.data.toList g) = t at *
      generalize hx : upTo s.data.toList g k (a.toNat % s.size) = old at *
      clear hx
      go_wp2_with fail
      refine (known08_any _ (hS.of_below HP.out.below)).mono ?_
      rintro e w3 ⟨rfl, hb3⟩
      have HP := hid (HP.out.later hb3)
      clear hb3 hcell hfree ht1
      go_wp2_with fail
      refine (same_any s t _ (by omega) (by omega)).mono ?_
      rintro e w4 ⟨rfl, hb4⟩
      rw [HSU.out.1]
      have HP := hid (HP.out.later hb4)
      clear hb4
      go_wp2_with fail
      refine (same_any t s _ (by omega) (by omega)).mono ?_
      rintro e w5 ⟨rfl, hb5⟩
      rw [HSU.out.2.1]
      have HP := hid (HP.out.later hb5)
      clear hb5
      go_wp2_with fail
      refine (same_any s s _ (by omega) (by omega)).mono ?_
      rintro e w6 ⟨rfl, hb6⟩
      rw [HSU.out.2.2]
      have HP := hid (HP.out.later hb6)
      clear hb6
      go_wp2_with fail
      refine (same_any s (t ++ (⟨#[120]⟩ : ByteArray)) _ (by omega) (by rw [ByteArray.size_append]; show t.size + 1 ≤ _; omega)).mono ?_
      rintro e w7 ⟨rfl, hb7⟩
      rw [HSL.out]
      have HP := hid (HP.out.later hb7)
      clear hb7
      have hct := HP.out.text cp (dashAt s.data.toList g (a.toNat % s.size)) (by simp [dashAt]) HD.out
      generalize mkB (dashAt s.data.toList g (a.toNat % s.size)) = t2 at *
      go_wp2_with fail
      refine (same_any s t2 _ (by omega) hds).mono ?_
      rintro e w8 ⟨rfl, hb8⟩
      rw [HSD.out]
      have HP := hid (HP.out.later hb8)
      clear hb8 hct
      go_wp2_with fail
      refine (token_any t _).mono ?_
      rintro e w9 ⟨rfl, hb9⟩
      rw [HTK.out]
      have HP := hid (HP.out.later hb9)
      clear hb9
      go_wp2
      go_ret
      exact ⟨rfl, HP.out.below⟩
theorem walk (A0 : Option Addr) (c0 : Nat) (l0 : List Int) {W : World} (hr0 : Kd.C (Kd.int .u8) W A0 l0.length l0) (hc0 : l0.length ≤ c0) (hw0 : ∀ x ∈ l0, (Lit.int .u8 x).wf = true) (y0 : l0.length ≤ 140737488351232)
    (A1 : Option Addr) (c1 : Nat) (g : List Bool) (hr1 : Kd.C Kd.bool W A1 g.length g) (hc1 : g.length ≤ c1) (y1 : g.length ≤ 140737488351232) (a2 : Int) (w2 : (Lit.int .u8 a2).wf = true) (W2 : World) (e : W2 = W) (hS : Sh W) :
    Calls Tryd.prog 3 #[.slice A0 l0.length c0, .slice A1 g.length c1, .int .u8 a2] W fun e W' => e = .returned (.bool true) ∧ Below W.heap.size W W' := by
  obtain ⟨a, rfl⟩ := u8_of_wf w2
  exact core A0 c0 l0 hr0 hc0 hw0 y0 A1 c1 g hr1 hc1 y1 a hS
end Go.Proofs.YtgajaaagpihlkaaDoor.headSame
namespace Go.Proofs.YtgajaaagpihlkaaDoor.headSame
open Go.ChangeShapes Go.WideShapes Go.ChangeAt Go.RowKit Go.Proofs.YtgajaaagpihlkaaDoorW Go.Proofs.YtgajaaagpihlkaaDoorW.PrintWords Go.Proofs.YtgajaaagpihlkaaDoor.Pall
open Go.ChangeMaps (open_string shut_string)
set_option linter.unusedVariables false
theorem own : ownKnob Tryd.prog.godebug = none := by kernel_rfl
theorem laidOut : laidOutB Tryd.prog = true := by kernel_rfl
set_option maxRecDepth 100000 in
theorem lifted (os : Os) (started : os.Started) (H : Type) (enc : TypeId × Value → H) :
    ReturnsInHanded {} Tryd.checked os 3 .any (fun w args => (Rows.headSameSpec.pre enc Tryd.prog Tryd.f3 [] false w args ∧ laidMetH Tryd.prog Rows.headSameRow.laid w) ∧ sizedMet enc Tryd.prog Tryd.f3 (OpenSpec.ofChange Rows.headSameSpec) false w args)
      (Rows.headSameSpec.post enc Tryd.prog Tryd.f3 false true false false) := by
  refine law_lifted (C := Tryd.checked) (rt := 4) (L := Rows.headSameRow.laid) own started (by kernel_rfl) Tryd.func3 laidOut (by kernel_rfl) rfl rfl (by rfl) Tryd.underlying4 ?_ (ChangeSpec.witness_shaped (enc := enc) (C := Tryd.checked) (os := os) (X := fun w _ => laidMetH Tryd.prog Rows.headSameRow.laid w) false (World.laidAll Tryd.prog os Rows.headSameRow.laid) #[.slice none 0 0, .slice none 0 0, .int .u8 0] 8 (World.laidAll_os _ _ _)
    (World.shaped_of_ZipB (by kernel_rfl) (by kernel_rfl)) (by kernel_rfl) (by kernel_rfl) (by kernel_rfl) (by rw [MakeChecks.laidMetH_plain _ _ _ (by kernel_rfl)]; exact laidMet_laidAll _ (by kernel_rfl) (by kernel_rfl))) ?_
  · intro ds hds
    have hds : ds.length = 3 := hds
    match ds, hds with
    | [_, _, _], _ => rfl
  intro W base args ds ps hval0 hA0 hsz0 hL hsh
  have hS : Sh W := cell_of_shapedOpen_int' hsh
  have hval : ∀ (j : Nat) t v, Tryd.f3.params[j]? = some t → args[j]? = some v → Value.okWide Tryd.prog W .any base t v := hval0
  have hA : DataW.TrodAll enc Tryd.prog W 0 (fun _ => true) true Tryd.f3.params.toList args.toList ds ps := hA0
  have hsz : (DataW.weightsEach Tryd.prog Tryd.f3.params.toList ds).all (· ≤ reachBytes) = true := hsz0
  rw [Tryd.params3] at hA hval hsz
  obtain ⟨v0, vs0, d0, ds0, p0, q0, hargs, rfl, rfl, h0, r0⟩ := trodAll_cons hA
  obtain ⟨v1, vs1, d1, ds1, p1, q1, rfl, rfl, rfl, h1, r1⟩ := trodAll_cons r0
  obtain ⟨v2, vs2, d2, ds2, p2, q2, rfl, rfl, rfl, h2, r2⟩ := trodAll_cons r1
  obtain ⟨rfl, rfl, rfl⟩ := trodAll_nil r2
  obtain rfl : args = #[v0, v1, v2] := by cases args; simp_all
  obtain ⟨A0, len0, cap0, rfl⟩ := okWide_slice Tryd.underlying22 (hval 0 22 v0 rfl rfl)
  obtain ⟨z0, w0⟩ := ints_row Tryd.underlying22 Tryd.underlying5 (by kernel_rfl) h0
  have y0 : len0 * 1 ≤ 140737488351232 := PrintWords.sized_ints hsz (j := 0) (t := 22) rfl rfl Tryd.underlying22 Tryd.underlying5 (by kernel_rfl) (by kernel_rfl) h0
  obtain ⟨l0, rfl, hr0, hm0, hw0, hc0⟩ := ReadsInt.ofRowC w0
  obtain ⟨A1, len1, cap1, rfl⟩ := okWide_slice Tryd.underlying23 (hval 1 23 v1 rfl rfl)
  obtain ⟨l1, rfl, hr1, hc1⟩ := bools_row Tryd.underlying23 Tryd.underlying4 (by kernel_rfl) h1
  have y1 : l1.length ≤ 140737488351232 := by have := slice_weight hsz (j := 1) (t := 23) rfl rfl Tryd.underlying23 h1; rw [show Tryd.prog.bytesOf 4 = 1 by kernel_rfl] at this; omega
  obtain ⟨a2, rfl, rfl, rfl, w2⟩ := open_int Tryd.underlying5 (hval 2 5 v2 rfl rfl) h2
  exact walk A0 cap0 l0 (Kd.C_of_reads (d := (0 : Int)) (h1 := fun _ => rfl) hr0) hc0 hw0 (by omega) A1 cap1 l1 hr1 hc1 y1 a2 w2 W rfl hS
theorem over : Rows.headSameRow.holds Tryd.pinned (OpenSpec.ofChange Rows.headSameSpec) :=
  OpenClaim.holds_of_wide 3 Tryd.f3 rfl rfl rfl rfl rfl rfl rfl ⟨rfl, rfl, rfl, rfl, rfl⟩ rfl rfl rfl rfl rfl (by kernel_rfl) Tryd.func3 (by kernel_rfl)
    (of_decide_eq_true (by kernel_rfl)) (by unfold Func.isWrapper; rw [if_neg (of_decide_eq_false (by kernel_rfl))]; exact ⟨rfl, rfl⟩)
    (fun os started H enc _ => lifted os started H enc)
theorem said : Rows.HeadSameSaid := over
theorem card : Rows.HeadSameCardSaid :=
  Claim7.holds_tied_plain_at .later [] [.data, .pinned] true (true, "354fb149afdaf3c4257d8e9b9bc27b1df5f32269821a08f6267663514def154d") false said (fun _ h => by cases h) (by kernel_rfl) (fun _ h => by cases h) headSame_row_tie rfl ⟨rfl, rfl⟩ (by kernel_rfl) rfl
    (fun f fn hf hfn => by
      obtain rfl : f = 3 := Option.some.inj ((show Tryd.prog.funcNamed "wicketman/wicketmanlaw08.HeadSame" = some 3 by kernel_rfl).symm.trans hf) |>.symm
      obtain rfl : fn = Tryd.f3 := (Option.some.inj (Tryd.func3.symm.trans hfn)).symm
      exact ⟨by kernel_rfl, fun j t ht => by
        rw [Tryd.params3] at ht
        have hm : t ∈ [22, 23, 5] := by simpa using Array.mem_of_getElem? ht
        have hall : ([22, 23, 5].all fun u => !Tryd.prog.wantsStandIn u) = true := by kernel_rfl
        exact (show Tryd.prog.wantsStandIn t = false by simpa using List.all_eq_true.1 hall t hm)⟩)
    (by kernel_rfl)
#print axioms card
end Go.Proofs.YtgajaaagpihlkaaDoor.headSame
namespace Go.Proofs.YtgajaaagpihlkaaDoor
/-- The card, under a short name, for the claim. -/
theorem headSame_card : Rows.HeadSameCardSaid := headSame.card
end Go.Proofs.YtgajaaagpihlkaaDoor


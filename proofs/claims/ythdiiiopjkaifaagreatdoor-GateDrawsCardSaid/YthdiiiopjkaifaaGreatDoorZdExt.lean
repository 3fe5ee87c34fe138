/-
 The leaf functions of package head, and of the library below them, each by its contract: what each comes to, as a plain function, in the form that the printed texts call.
-/
import Derived.Test.YthdiiiopjkaifaaGreatDoorProg
import Derived.Test.YthdiiiopjkaifaaGreatDoorZdShelf
import Derived.Below
import Derived.Deep.Draws
import Derived.Deep.AppendLies
import Derived.Maps.AppendAt
import Derived.OwnWalk
import Derived.Laws.BytesArg
import Derived.Laws.MakeOwn
import Derived.Laws.OwnMore
import Derived.Deep.OwnRows
import Derived.Tactics
import Derived.Lib.ConvBytes
import Derived.Laws.Slices
import Derived.WalkKit
import Derived.KernelRfl
import Derived.RowKit3
import Derived.Deep.LoopGhost
import Derived.Deep.QuietTactic
import Derived.BigQuiet
import Derived.WideLaws
import Derived.Deep.DeepCutAuto
import Derived.Deep.CutBlock
import Derived.Deep.RegionHeld3
import Derived.Laws.Rows
import Derived.Lib.AppendStr
import Derived.ArgAppend
import Derived.Laws.IdiomCopy
import Derived.RowKit
import Derived.OrdersHeld
import Derived.Laws.BitsLemmas
import Derived.Laws.StructEq
import Derived.Test.YthdiiiopjkaifaaGreatDoorZdWN
import Derived.Test.YthdiiiopjkaifaaGreatDoorZdWWords
import Derived.Test.YthdiiiopjkaifaaGreatDoorZdWMore
import Derived.Test.YthdiiiopjkaifaaGreatDoorZdWLast
import Derived.Test.YthdiiiopjkaifaaGreatDoorZdGateA
import Derived.Lib.OthersKept
import Derived.Laws.RangeAny
import Derived.LoopTactic
import Derived.Lib.AppendIntMem
import Derived.Shelf.Strings.SlTrimAscii
namespace Go.Proofs.YthdiiiopjkaifaaGreatDoor.Pall
open Go.RowKit Go.Proofs.YthdiiiopjkaifaaGreatDoorW.PrintWords Go.Proofs.YthdiiiopjkaifaaGreatDoorW.PrintLast
set_option linter.unusedVariables false
set_option linter.unusedSimpArgs false
theorem bA {w W : World} (h : Below w.heap.size w W) (o : Obj) : Below w.heap.size w (W.alloc o) := below_alloc h o
theorem bN {B : Nat} {w W : World} (h : Below B w W) (n : Nat) : Below B w (W.drewN n) := pw_below_drewN h n
theorem bD {base : Nat} {w W : World} (h : Below base w W) : Below base w W.drew := below_drew1 h
theorem aK {p : Prop} (h : p) : Aside0 p := Aside0.mk h
abbrev BA := ByteArray
/-- What the library's functions below read: the searches' one variable holds some number; the numerals' table is as it was laid. -/
def Sh (w : World) : Prop := ∃ m, w.cell? ⟨1, 0, none⟩ = some (.int .i64 m)
theorem Sh.of_below {w w' : World} (h : Sh w) (hb : Below w.heap.size w w') : Sh w' := by
 obtain ⟨m, hm⟩ := h
 exact ⟨m, (hb.cell (World.block_lt_of_cell? w _ hm)).trans hm⟩
theorem Sh.maxLen {w : World} (h : Sh w) : ∃ m, w.cell? ⟨1, 0, none⟩ = some (.int .i64 m) := h
def Tb (w : World) : Prop := Lib.TabIs Tryz.prog w "internal/strconv.uint64pow10" .u64 Lib.pow10Tab
theorem Tb.of_below {w w' : World} (h : Tb w) (hb : Below w.heap.size w w') : Tb w' := Lib.tabBelow_of_tabIs h w' hb
theorem ret_bool {a b : Bool} (h : a = b) : Ending.returned (.bool a) = .returned (.bool b) := by rw [h]
def letterZ (r : Int) : Bool := decide (97 ≤ r ∧ r ≤ 122) || decide (65 ≤ r ∧ r ≤ 90) || decide (48 ≤ r ∧ r ≤ 57)
set_option maxHeartbeats 400000 in
theorem letter_any (r : Int) (w : World) : Calls Tryz.prog 171 #[.int .i32 r] w fun e w' => e = .returned (.bool (letterZ r)) ∧ w' = w := by
 go_enter Tryz.func171, Tryz.ntmps171
 go_wp2
 all_goals (go_ret; exact ⟨ret_bool (by rw [Bool.eq_iff_iff]; simp [letterZ]; omega), rfl⟩)
def signsB : ByteArray := ⟨#[33, 35, 36, 37, 38, 39, 42, 43, 45, 46, 94, 95, 96, 124, 126]⟩
/-- may a byte be in a token? -/
def tokB (c : UInt8) : Bool := letterZ c.toNat || signsB.data.toList.contains c
def tokL (l : List UInt8) : Bool := l.all tokB && !l.isEmpty
theorem indexByte_mem : ∀ (l : List UInt8) (c : UInt8), Lib.indexByte l c = -1 ∧ l.contains c = false ∨ 0 ≤ Lib.indexByte l c ∧ l.contains c = true
 | [], c => .inl ⟨rfl, rfl⟩
 | b :: l, c => by
  unfold Lib.indexByte
  by_cases h : b = c
  ·subst h; right; simp
  ·have h' : (b == c) = false := by simpa using h
   have h2 : (c == b) = false := by simpa using Ne.symm h
   rcases indexByte_mem l c with ⟨e, m⟩ | ⟨e, m⟩
   ·left; exact ⟨by simp [h', e], by rw [List.contains_cons, h2, m]; rfl⟩
   ·right
    have : ¬ (Lib.indexByte l c == -1) = true := by simp; omega
    simp only [h', this, List.contains_cons, h2, Bool.false_or]
    exact ⟨by simp; omega, m⟩
/-- where a byte stands among the signs -/
def sgnAt (c : UInt8) : Int := Lib.indexByte signsB.data.toList c
theorem sgn_yes {c : UInt8} (h : signsB.data.toList.contains c = true) : 0 ≤ sgnAt c := by
 rcases indexByte_mem signsB.data.toList c with ⟨_, m⟩ | ⟨e, _⟩
 ·rw [m] at h; cases h
 ·exact e
theorem sgn_no {c : UInt8} (h : signsB.data.toList.contains c = false) : sgnAt c < 0 := by
 rcases indexByte_mem signsB.data.toList c with ⟨e, m⟩ | ⟨_, m⟩
 ·unfold sgnAt; omega
 ·rw [m] at h; cases h
theorem sgn_any (c : UInt8) (w : World) : Calls Tryz.prog 172 #[.string ⟨#[33, 35, 36, 37, 38, 39, 42, 43, 45, 46, 94, 95, 96, 124, 126]⟩, .int .u8 c.toNat] w fun e w' => e = .returned (.int .i64 (sgnAt c)) ∧ w' = w := by
 have h := Tryz.strings_IndexByte signsB (c.toNat : Int) w
 rw [show ((c.toNat : Int)).toNat.toUInt8 = c by simp] at h
 exact h
theorem width_pos (s : ByteArray) (pos : Nat) (h : pos < s.size) : 1 ≤ (Utf8.decode s pos).2 := by
 by_cases ha : (s[pos]'h).toNat < 128
 ·rw [decode_ascii s pos h ha]; exact Nat.le_refl _
 ·exact (decode_high s pos h (by omega)).2
theorem data_at (s : ByteArray) (pos : Nat) (h : pos < s.size) : s.data.toList.getD pos 0 = s[pos]'h := by
 simp [List.getD, h]; rfl
theorem below_iter (w : World) (s : ByteArray) (p : Nat) : Below w.heap.size w (w.iter s p) := (Below.refl _ _).alloc (Nat.le_refl _) _
theorem u8_all (p : UInt8 → Bool) (h : ((List.range 256).all fun n => p (UInt8.ofNat n)) = true) (c : UInt8) : p c = true := by
 have := List.all_eq_true.1 h c.toNat (List.mem_range.2 c.toNat_lt)
 simpa using this
theorem letterZ_hi (r : Int) (h : 123 ≤ r) : letterZ r = false := by simp [letterZ]; omega
theorem tokB_no (c : UInt8) (h1 : letterZ c.toNat = false) (h2 : ¬ (c.toNat : Int) < 127) : tokB c = false := by
 have := u8_all (fun c => letterZ c.toNat || decide ((c.toNat : Int) < 127) || !tokB c) (by decide +kernel) c
 simpa [h1, h2] using this
/-- what one byte, and what stands behind it, come to -/
theorem tokL_no (s : ByteArray) (pos : Nat) (h : pos < s.size) (hb : tokB (s[pos]'h) = false) : tokL s.data.toList = false := by
 have hm : (s[pos]'h) ∈ s.data.toList := by
  show s.data[pos] ∈ s.data.toList
  simp
 have : s.data.toList.all tokB = false := by
  rw [List.all_eq_false]; exact ⟨_, hm, by simp [hb]⟩
 simp [tokL, this]
theorem tokL_yes (s : ByteArray) (h : ∀ j, j < s.size → tokB (s.data.toList.getD j 0) = true) : tokL s.data.toList = !s.data.toList.isEmpty := by
 have : s.data.toList.all tokB = true := by
  rw [List.all_eq_true]
  intro x hx
  obtain ⟨j, hj, e⟩ := List.getElem_of_mem hx
  have := h j (by simpa using hj)
  rw [List.getD, List.getElem?_eq_getElem hj, Option.getD_some, e] at this
  exact this
 simp [tokL, this]
/-- the bytes ahead are a token's -/
def TokTo (s : ByteArray) (pos : Nat) : Prop := ∀ j, j < pos → tokB (s.data.toList.getD j 0) = true
theorem TokTo.step {s : ByteArray} {pos : Nat} (h : TokTo s pos) (hp : pos < s.size) (hb : tokB (s[pos]'hp) = true) : TokTo s (pos + 1) := by
 intro j hj
 by_cases e : j = pos
 ·subst e; rw [data_at s j hp]; exact hb
 ·exact h j (by omega)
set_option maxRecDepth 100000 in
set_option maxHeartbeats 1000000 in
theorem token_any (s : ByteArray) (w : World) : Calls Tryz.prog 121 #[.string s] w fun e w' => e = .returned (.bool (tokL s.data.toList)) ∧ Below w.heap.size w w' := by
 go_enter Tryz.func121, Tryz.ntmps121
 go_wp2
 go_loopw [] (fun w' => ∃ (pos : Nat), w' = w.iter s pos ∧ pos ≤ s.size ∧ TokTo s pos) (fun w' => s.size - w'.iterPos w.heap.size)
 case atStart => exact ⟨0, rfl, Nat.zero_le _, fun j hj => by omega⟩
 case round =>
  obtain ⟨pos, rfl, hle, hT⟩ := hrel
  by_cases hp : pos < s.size
  ·have hnx : ∀ ty, (Instr.next (.pointer (some ⟨w.heap.size, 0, none⟩)) true ty).run Tryz.prog (w.iter s pos) = _ := fun ty => run_next_any w s pos ty hp
   by_cases ha : (s[pos]'hp).toNat < 128
   ·have hd := decode_ascii s pos hp ha
    rw [hd] at hnx
    dsimp only at hnx
    have hb : tokB (s[pos]'hp) = (letterZ ((s[pos]'hp).toNat : Int) || signsB.data.toList.contains (s[pos]'hp)) := rfl
    have hb0 : (s[pos]'hp).toNat < 128 := ha
    have HT := hid hT
    clear hT hd
    by_cases hl : letterZ ((s[pos]'hp).toNat : Int) = true
    ·have HT2 := hid (HT.out.step hp (by rw [hb, hl]; rfl))
     have HL := hid hl
     clear hb hl HT
     go_wp2_with (go_at_call 171; refine (letter_any _ _).mono ?_; rintro e w' ⟨rfl, rfl⟩; rw [HL.out])
     go_roundw
     case rel => exact ⟨pos + 1, rfl, by omega, HT2.out⟩
     case measure => simp; omega
    ·have hl' : letterZ ((s[pos]'hp).toNat : Int) = false := by simpa using hl
     by_cases h7 : ((s[pos]'hp).toNat : Int) < 127
     ·by_cases hm : signsB.data.toList.contains (s[pos]'hp) = true
      ·have HT2 := hid (HT.out.step hp (by rw [hb, hm]; simp))
       have hn := sgn_yes hm
       have HL := hid hl'
       clear hb hl hl' HT hm
       go_wp2_with (first | (go_at_call 171; refine (letter_any _ _).mono ?_; rintro e w' ⟨rfl, rfl⟩; rw [HL.out]) | (go_at_call 172; refine (sgn_any _ _).mono ?_; rintro e w' ⟨rfl, rfl⟩))
       go_roundw
       case rel => exact ⟨pos + 1, rfl, by omega, HT2.out⟩
       case measure => simp; omega
      ·have hm' : signsB.data.toList.contains (s[pos]'hp) = false := by simpa using hm
       have HF := hid (tokL_no s pos hp (by rw [hb, hl', hm']; rfl))
       have hn := sgn_no hm'
       have HL := hid hl'
       clear hb hl hl' HT hm hm'
       go_wp2_with (first | (go_at_call 171; refine (letter_any _ _).mono ?_; rintro e w' ⟨rfl, rfl⟩; rw [HL.out]) | (go_at_call 172; refine (sgn_any _ _).mono ?_; rintro e w' ⟨rfl, rfl⟩))
       go_ret
       exact ⟨ret_bool HF.out.symm, below_iter _ _ _⟩
     ·have HF := hid (tokL_no s pos hp (tokB_no _ hl' h7))
      have HL := hid hl'
      clear hb hl hl' HT
      go_wp2_with (go_at_call 171; refine (letter_any _ _).mono ?_; rintro e w' ⟨rfl, rfl⟩; rw [HL.out])
      go_ret
      exact ⟨ret_bool HF.out.symm, below_iter _ _ _⟩
   ·obtain ⟨hr, hwd⟩ := decode_high s pos hp (by omega)
    have hno : tokB (s[pos]'hp) = false := by
     have := u8_all (fun c => decide (c.toNat < 128) || !tokB c) (by decide +kernel) (s[pos]'hp)
     simpa [ha] using this
    have HF := hid (tokL_no s pos hp hno)
    generalize (Utf8.decode s pos).1 = r at hnx hr
    generalize (Utf8.decode s pos).2 = wd at hnx hwd
    have HL := hid (letterZ_hi r (by omega))
    have hr2 : 127 ≤ (r : Int) := by omega
    clear hno hT ha hr
    go_wp2_with (go_at_call 171; refine (letter_any _ _).mono ?_; rintro e w' ⟨rfl, rfl⟩; rw [HL.out])
    go_ret
    exact ⟨ret_bool HF.out.symm, below_iter _ _ _⟩
  ·obtain rfl : pos = s.size := by omega
   have hnx : ∀ ty, (Instr.next (.pointer (some ⟨w.heap.size, 0, none⟩)) true ty).run Tryz.prog (w.iter s s.size) = _ := fun ty => run_next_end w s s.size ty hp
   have HF := hid (tokL_yes s hT)
   clear hT
   go_wp2
   go_ret
   exact ⟨ret_bool (a := !s.toList.isEmpty) (by rw [HF.out, ByteArray.toList_eq]), below_iter _ _ _⟩
theorem below_bytes (w : World) (e : TypeId) (s : ByteArray) : Below w.heap.size w (Lib.bytesWorld w e s) where
 os := by simp [Lib.bytesWorld, World.freeze, World.alloc, World.drew, -World.alloc_eq, -World.drew_eq]
 tape := by simp [Lib.bytesWorld, World.freeze, World.alloc, World.drew, -World.alloc_eq, -World.drew_eq]
 output := by simp [Lib.bytesWorld, World.freeze, World.alloc, World.drew, -World.alloc_eq, -World.drew_eq]
 size := by rw [Lib.bytesWorld_size]; omega
 block k hk := Lib.bytesWorld_at_old w e s k hk
/-- a text's bytes, as numbers -/
def btsOf (s : ByteArray) : List Int := s.data.toList.map fun c => (c.toNat : Int)
theorem btsOf_len (s : ByteArray) : (btsOf s).length = s.size := by unfold btsOf; rw [List.length_map]; rfl
theorem conv_reads (w : World) (e : TypeId) (s : ByteArray) (hs : s.size ≤ 140737488351232) : Kd.C (Kd.int .u8) (Lib.bytesWorld w e s) (some ⟨w.heap.size, 0, none⟩) (btsOf s).length (btsOf s) :=
 Kd.C_of_reads (d := (0 : Int)) (h1 := fun _ => rfl) ⟨rfl, by rw [btsOf_len]; omega, fun _ => ⟨_, rfl, fun i h' => by
  rw [btsOf_len] at h'
  have h2 : i < s.data.toList.length := h'
  rw [show (⟨w.heap.size, 0, none⟩ : Addr).add i = ⟨w.heap.size, i, none⟩ from by unfold Addr.add; split <;> simp_all, Lib.bytesWorld_cell w e s i h']
  congr 1
  unfold btsOf
  rw [List.getD, List.getD, List.getElem?_map, List.getElem?_eq_getElem h2]
  rfl⟩⟩
def blankB : ByteArray := ⟨#[32, 9]⟩
def blkAt (c : UInt8) : Int := Lib.indexByte blankB.data.toList c
theorem blk_any (c : UInt8) (w : World) : Calls Tryz.prog 172 #[.string ⟨#[32, 9]⟩, .int .u8 c.toNat] w fun e w' => e = .returned (.int .i64 (blkAt c)) ∧ w' = w := by
 have h := Tryz.strings_IndexByte blankB (c.toNat : Int) w
 rw [show ((c.toNat : Int)).toNat.toUInt8 = c by simp] at h
 exact h
/-- may a byte be in a value? -/
def valB (c : UInt8) : Bool := (decide (33 ≤ c.toNat) || c == 32 || c == 9) && c != 127
def trimL (l : List UInt8) : List UInt8 := Lib.trimS l [32, 9]
def valL (l : List UInt8) : Bool := l.all valB && (l == trimL l)
theorem trim_any (s : ByteArray) (w : World) (hs : s.size ≤ 9223372036854775807) :
  Calls Tryz.prog 199 #[.string s, .string ⟨#[32, 9]⟩] w fun e w' => e = .returned (.string ⟨(trimL s.data.toList).toArray⟩) ∧ Below w.heap.size w w' :=
 Any.strings_Trim_laid Tryz.lays160 (by kernel_rfl) s ⟨#[32, 9]⟩ w hs (by decide) (ascii_of_all (by decide))
theorem blk_yes {c : UInt8} (h : decide (33 ≤ c.toNat) = false) (hv : valB c = true) : 0 ≤ blkAt c := by
 have := u8_all (fun c => decide (33 ≤ c.toNat) || !valB c || decide (0 ≤ blkAt c)) (by decide +kernel) c
 simpa [h, hv] using this
theorem blk_no {c : UInt8} (h : decide (33 ≤ c.toNat) = false) (hv : valB c = false) : blkAt c < 0 := by
 have := u8_all (fun c => decide (33 ≤ c.toNat) || valB c || decide (blkAt c < 0)) (by decide +kernel) c
 simpa [h, hv] using this
theorem valB_hi {c : UInt8} (h : decide (33 ≤ c.toNat) = true) : valB c = !((c.toNat : Int) == 127) := by
 have := u8_all (fun c => !decide (33 ≤ c.toNat) || (valB c == !((c.toNat : Int) == 127))) (by decide +kernel) c
 simpa [h] using this
/-- the bytes ahead may be in a value -/
def ValTo (s : ByteArray) (pos : Nat) : Prop := ∀ j, j < pos → valB (s.data.toList.getD j 0) = true
theorem ValTo.step {s : ByteArray} {pos : Nat} (h : ValTo s pos) (hb : valB (s.data.toList.getD pos 0) = true) : ValTo s (pos + 1) := by
 intro j hj
 by_cases e : j = pos
 ·subst e; exact hb
 ·exact h j (by omega)
theorem valL_no (s : ByteArray) (pos : Nat) (h : pos < s.size) (hb : valB (s.data.toList.getD pos 0) = false) : valL s.data.toList = false := by
 rw [data_at s pos h] at hb
 have hm : (s[pos]'h) ∈ s.data.toList := by
  show s.data[pos] ∈ s.data.toList
  simp
 have : s.data.toList.all valB = false := by
  rw [List.all_eq_false]; exact ⟨_, hm, by simp [hb]⟩
 simp [valL, this]
theorem valL_yes (s : ByteArray) (h : ValTo s s.size) : valL s.data.toList = (s.data.toList == trimL s.data.toList) := by
 have : s.data.toList.all valB = true := by
  rw [List.all_eq_true]
  intro x hx
  obtain ⟨j, hj, e⟩ := List.getElem_of_mem hx
  have := h j (by simpa using hj)
  rw [List.getD, List.getElem?_eq_getElem hj, Option.getD_some, e] at this
  exact this
 simp [valL, this]
set_option maxRecDepth 100000 in
set_option maxHeartbeats 1000000 in
theorem value_any (s : ByteArray) (w : World) (hs : s.size ≤ 140737488351232) : Calls Tryz.prog 200 #[.string s] w fun e w' => e = .returned (.bool (valL s.data.toList)) ∧ Below w.heap.size w w' := by
 have hcv : ∀ W : World, (convert 9 23 (.string s)).run Tryz.prog W = _ := fun W => Lib.run_convert_string_bytes W 9 23 5 s Tryz.underlying9 Tryz.underlying23 Tryz.underlying5
 have hsz : s.size ≤ 9223372036854775807 := by omega
 have HCELL := hid (Lib.bytesWorld_cell w 5 s)
 have HB := hid (below_bytes w 5 s)
 go_enter Tryz.func200, Tryz.ntmps200
 go_wp2
 clear hcv
 generalize Lib.bytesWorld w 5 s = W1 at HCELL HB ⊢
 generalize grownCap w s.size 0 5 = cp at *
 go_loop [8] (fun i => ∃ k : Nat, k ≤ s.size ∧ i = .int .i64 k ∧ ValTo s k) (fun i => s.size - (RowKit.intOf i).toNat)
 case atStart => exact ⟨0, Nat.zero_le _, rfl, fun j hj => by omega⟩
 case round =>
  obtain ⟨k, hk, rfl, hT⟩ := hrel
  by_cases hlt : k < s.size
  ·have hcell := HCELL.out k hlt
   have HT := hid hT
   clear hT
   by_cases hv : valB (s.data.toList.getD k 0) = true
   ·have HT2 := hid (HT.out.step hv)
    clear HT
    by_cases h33 : decide (33 ≤ (s.data.toList.getD k 0).toNat) = true
    ·have h7 := valB_hi h33
     rw [hv] at h7
     have h7' : (((s.data.toList.getD k 0).toNat : Int) == 127) = false := by simpa using h7.symm
     have h33' : ¬ ((s.data.toList.getD k 0).toNat : Int) < 33 := by have := of_decide_eq_true h33; omega
     clear h7 h33 hv
     generalize s.data.toList.getD k 0 = c at *
     go_wp2
     go_round
     case rel => exact ⟨k + 1, by omega, by go_num, HT2.out⟩
     case measure => simp [RowKit.intOf]; omega
    ·have h33 : decide (33 ≤ (s.data.toList.getD k 0).toNat) = false := by simpa using h33
     have hb := blk_yes h33 hv
     have h7' : (((s.data.toList.getD k 0).toNat : Int) == 127) = false := beq_eq_false_iff_ne.2 (by have := of_decide_eq_false h33; omega)
     have h33' : ((s.data.toList.getD k 0).toNat : Int) < 33 := by have := of_decide_eq_false h33; omega
     clear h33 hv
     generalize s.data.toList.getD k 0 = c at *
     go_wp2_with (go_at_call 172; refine (blk_any _ _).mono ?_; rintro e w' ⟨rfl, rfl⟩)
     go_round
     case rel => exact ⟨k + 1, by omega, by go_num, HT2.out⟩
     case measure => simp [RowKit.intOf]; omega
   ·have hv : valB (s.data.toList.getD k 0) = false := by simpa using hv
    have HF := hid (valL_no s k hlt hv)
    clear HT
    by_cases h33 : decide (33 ≤ (s.data.toList.getD k 0).toNat) = true
    ·have h7 := valB_hi h33
     rw [hv] at h7
     have h7' : (((s.data.toList.getD k 0).toNat : Int) == 127) = true := by simpa using h7.symm
     have h33' : ¬ ((s.data.toList.getD k 0).toNat : Int) < 33 := by have := of_decide_eq_true h33; omega
     clear h7 h33 hv
     generalize s.data.toList.getD k 0 = c at *
     go_wp2
     go_ret
     exact ⟨ret_bool HF.out.symm, HB.out⟩
    ·have h33 : decide (33 ≤ (s.data.toList.getD k 0).toNat) = false := by simpa using h33
     have hb := blk_no h33 hv
     have h33' : ((s.data.toList.getD k 0).toNat : Int) < 33 := by have := of_decide_eq_false h33; omega
     clear h33 hv
     generalize s.data.toList.getD k 0 = c at *
     go_wp2_with (go_at_call 172; refine (blk_any _ _).mono ?_; rintro e w' ⟨rfl, rfl⟩)
     go_ret
     exact ⟨ret_bool HF.out.symm, HB.out⟩
  ·obtain rfl : k = s.size := by omega
   have HF := hid (valL_yes s hT)
   clear hT
   go_wp2_with (go_at_call 199; refine (trim_any _ _ hsz).mono ?_; rintro e w' ⟨rfl, hB⟩)
   go_ret
   exact ⟨ret_bool (a := s.toList == trimL s.data.toList) (by rw [HF.out, ByteArray.toList_eq]), HB.out.trans (hB.mono HB.out.size)⟩
theorem ret_str {a b : ByteArray} (h : a = b) : Ending.returned (.string a) = .returned (.string b) := by rw [h]
/-- a letter, small -/
def smallB (c : UInt8) : UInt8 := if 65 ≤ c.toNat ∧ c.toNat ≤ 90 then UInt8.ofNat (c.toNat + 32) else c
def smallL (l : List UInt8) : List UInt8 := l.map smallB
/-- a row's bytes behind k rounds -/
def smallTo (l : List UInt8) (k j : Nat) : UInt8 := if j < k then smallB (l.getD j 0) else l.getD j 0
structure SmallRow (w0 W : World) (s : ByteArray) (k : Nat) : Prop where
 cell : ∀ j, j < s.size → W.cell? ⟨w0.heap.size, j, none⟩ = some (.int .u8 (smallTo s.data.toList k j).toNat)
 free : ∀ j, j < s.size → W.frozen? ⟨w0.heap.size, j, none⟩ = false
 below : Below w0.heap.size w0 W
theorem small_start (w : World) (s : ByteArray) : SmallRow w (Lib.bytesWorld w 5 s) s 0 where
 cell j hj := by rw [Lib.bytesWorld_cell w 5 s j hj]; simp [smallTo]
 free j hj := by
  unfold World.frozen?
  rw [Lib.bytesWorld_at_new]
  have : s.size ≤ (Lib.bytesCells w 5 s).size := by unfold Lib.bytesCells; rw [Array.size_append, Array.size_map]; exact Nat.le_add_right _ _
  simp; omega
 below := below_bytes w 5 s
theorem smallTo_same {l : List UInt8} {k j : Nat} (h : j ≠ k) : smallTo l (k + 1) j = smallTo l k j := by
 unfold smallTo; by_cases h1 : j < k
 ·rw [if_pos h1, if_pos (by omega)]
 ·rw [if_neg h1, if_neg (by omega)]
theorem SmallRow.keep {w0 W : World} {s : ByteArray} {k : Nat} (h : SmallRow w0 W s k) (hn : smallB (s.data.toList.getD k 0) = s.data.toList.getD k 0) : SmallRow w0 W s (k + 1) where
 cell j hj := by
  rw [h.cell j hj]
  by_cases e : j = k
  ·subst e; unfold smallTo; rw [if_neg (Nat.lt_irrefl _), if_pos (Nat.lt_succ_self _), hn]
  ·rw [smallTo_same e]
 free := h.free
 below := h.below
theorem SmallRow.put {w0 W : World} {s : ByteArray} {k : Nat} (h : SmallRow w0 W s k) (hk : k < s.size) : SmallRow w0 (W.setCell ⟨w0.heap.size, k, none⟩ (.int .u8 (smallB (s.data.toList.getD k 0)).toNat)) s (k + 1) where
 cell j hj := by
  by_cases e : j = k
  ·subst e; rw [World.cell?_setCell_same W _ _ (h.cell j hj)]; simp [smallTo]
  ·rw [World.cell?_setCell_other (h := by intro e2; apply e; injection e2 with _ e3; exact e3.symm), h.cell j hj, smallTo_same e]
 free j hj := by rw [World.frozen?_setCell]; exact h.free j hj
 below := h.below.setCell (Nat.le_refl _) _
theorem smallB_up {c : UInt8} (h1 : 65 ≤ (c.toNat : Int)) (h2 : (c.toNat : Int) ≤ 90) : ((smallB c).toNat : Int) = c.toNat + 97 - 65 := by
 have hc := c.toNat_lt
 unfold smallB; rw [if_pos ⟨by omega, by omega⟩, UInt8.toNat_ofNat']; omega
theorem smallB_not {c : UInt8} (h : ¬ (65 ≤ (c.toNat : Int) ∧ (c.toNat : Int) ≤ 90)) : smallB c = c := by
 unfold smallB; rw [if_neg]; omega
theorem small_end (s : ByteArray) : strOfNums ((s.data.toList.map fun c => ((smallB c).toNat : Int))) = ⟨(smallL s.data.toList).toArray⟩ := by
 unfold strOfNums smallL
 congr 2
 rw [List.map_map]
 apply List.map_congr_left
 intro a _; simp
set_option maxRecDepth 100000 in
set_option maxHeartbeats 1000000 in
theorem small_any (s : ByteArray) (w : World) (hs : s.size ≤ 140737488351232) : Calls Tryz.prog 175 #[.string s] w fun e w' => e = .returned (.string ⟨(smallL s.data.toList).toArray⟩) ∧ Below w.heap.size w w' := by
 have hcv : ∀ W : World, (convert 9 23 (.string s)).run Tryz.prog W = _ := fun W => Lib.run_convert_string_bytes W 9 23 5 s Tryz.underlying9 Tryz.underlying23 Tryz.underlying5
 have HS := hid (small_start w s)
 have HE := hid (small_end s)
 go_enter Tryz.func175, Tryz.ntmps175
 go_wp2
 clear hcv
 generalize Lib.bytesWorld w 5 s = W1 at HS ⊢
 generalize grownCap w s.size 0 5 = cp at *
 go_loopw [10] (fun i W => ∃ k : Nat, k ≤ s.size ∧ i = .int .i64 k ∧ SmallRow w W s k) (fun i _ => s.size - (RowKit.intOf i).toNat)
 case atStart => exact ⟨0, Nat.zero_le _, rfl, HS.out⟩
 case round =>
  obtain ⟨k, hk, rfl, hR⟩ := hrel
  clear HS
  have HR := hid hR
  clear hR
  by_cases hlt : k < s.size
  ·have hcell := HR.out.cell k hlt
   have hfree := HR.out.free k hlt
   rw [show smallTo s.data.toList k k = s.data.toList.getD k 0 by simp [smallTo]] at hcell
   by_cases hc : 65 ≤ ((s.data.toList.getD k 0).toNat : Int) ∧ ((s.data.toList.getD k 0).toNat : Int) ≤ 90
   ·have HR2 := HR.out.put hlt
    obtain ⟨h1, h2⟩ := hc
    rw [smallB_up h1 h2] at HR2
    have HR2 := hid HR2
    clear HR
    have h3 := (s.data.toList.getD k 0).toNat_lt
    generalize s.data.toList.getD k 0 = c at *
    go_wp2
    go_roundw
    case rel => exact ⟨k + 1, by omega, by go_num, HR2.out⟩
    case measure => simp [RowKit.intOf]; omega
   ·have HR2 := hid (HR.out.keep (smallB_not hc))
    clear HR
    generalize s.data.toList.getD k 0 = c at *
    by_cases h65 : 65 ≤ (c.toNat : Int)
    ·have h90 : ¬ (c.toNat : Int) ≤ 90 := by omega
     clear hc
     go_wp2
     go_roundw
     case rel => exact ⟨k + 1, by omega, by go_num, HR2.out⟩
     case measure => simp [RowKit.intOf]; omega
    ·clear hc
     go_wp2
     go_roundw
     case rel => exact ⟨k + 1, by omega, by go_num, HR2.out⟩
     case measure => simp [RowKit.intOf]; omega
  ·obtain rfl : k = s.size := by omega
   have hcv := run_convert_bytes_arg (P := Tryz.prog) wr 23 5 Tryz.underlying23 Tryz.underlying5 w.heap.size 0 s.size cp (s.data.toList.map fun c => ((smallB c).toNat : Int)) (by rw [List.length_map]; rfl) (fun i hi => by
    rw [Nat.zero_add, HR.out.cell i hi]
    simp [smallTo, hi, List.getD]) 9 Tryz.underlying9
   go_wp2
   go_ret
   exact ⟨ret_str HE.out, HR.out.below⟩
def strings_Trim.f (a0 a1 : ByteArray) : Option ByteArray :=
 if a0.size ≤ 9223372036854775807 ∧ a1.size < 4294967281 ∧ (a1.data.toList.all fun b => decide (b.toNat < 128)) = true then some ⟨(Lib.trimS a0.data.toList a1.data.toList).toArray⟩ else none
theorem strings_Trim.calls (a0 a1 r : ByteArray) (w : World) (h : strings_Trim.f a0 a1 = some r) :
  Calls Tryz.prog 199 #[.string a0, .string a1] w fun e w' => e = .returned (.string r) ∧ Below w.heap.size w w' := by
 unfold strings_Trim.f at h
 split at h
 ·rename_i hc
  obtain rfl := Option.some.inj h
  exact Any.strings_Trim_laid Tryz.lays160 (by kernel_rfl) a0 a1 w hc.1 hc.2.1 (ascii_of_all hc.2.2)
 ·cases h
def strings_Cut.f (a0 a1 : ByteArray) : Option (ByteArray × ByteArray × Bool) :=
 if a0.size < 4294967281 then some (⟨(Lib.cut a0.data.toList a1.data.toList).1.toArray⟩, ⟨(Lib.cut a0.data.toList a1.data.toList).2.1.toArray⟩, (Lib.cut a0.data.toList a1.data.toList).2.2) else none
theorem strings_Cut.calls (a0 a1 r1 r2 : ByteArray) (r3 : Bool) (w : World) (hS : Sh w) (h : strings_Cut.f a0 a1 = some (r1, r2, r3)) :
  Calls Tryz.prog 144 #[.string a0, .string a1] w fun e w' => e = .returned (.tuple #[.string r1, .string r2, .bool r3]) ∧ Below w.heap.size w w' := by
 unfold strings_Cut.f at h
 split at h
 ·rename_i hc
  obtain ⟨m, hm⟩ := hS.maxLen
  have h := Option.some.inj h
  injection h with h1 h; injection h with h2 h3
  subst h1; subst h2; subst h3
  refine (Tryz.strings_Cut a0 a1 m w hc hm).mono ?_
  rintro e w' ⟨he, n, rfl⟩
  exact ⟨he, pw_below_drewN (Below.refl _ _) n⟩
 ·cases h
def head_Token.f (a0 : ByteArray) : Option Bool := some (tokL a0.data.toList)
theorem head_Token.calls (a0 : ByteArray) (r : Bool) (w : World) (h : head_Token.f a0 = some r) :
  Calls Tryz.prog 121 #[.string a0] w fun e w' => e = .returned (.bool r) ∧ Below w.heap.size w w' := by
 obtain rfl := Option.some.inj h; exact token_any a0 w
def head_Value.f (a0 : ByteArray) : Option Bool := if a0.size ≤ 140737488351232 then some (valL a0.data.toList) else none
theorem head_Value.calls (a0 : ByteArray) (r : Bool) (w : World) (h : head_Value.f a0 = some r) :
  Calls Tryz.prog 200 #[.string a0] w fun e w' => e = .returned (.bool r) ∧ Below w.heap.size w w' := by
 unfold head_Value.f at h
 split at h
 ·rename_i hc; obtain rfl := Option.some.inj h; exact value_any a0 w hc
 ·cases h
def head_small.f (a0 : ByteArray) : Option ByteArray := if a0.size ≤ 140737488351232 then some ⟨(smallL a0.data.toList).toArray⟩ else none
theorem head_small.calls (a0 r : ByteArray) (w : World) (h : head_small.f a0 = some r) :
  Calls Tryz.prog 175 #[.string a0] w fun e w' => e = .returned (.string r) ∧ Below w.heap.size w w' := by
 unfold head_small.f at h
 split at h
 ·rename_i hc; obtain rfl := Option.some.inj h; exact small_any a0 w hc
 ·cases h
theorem bcell {W w1 : World} (hb : Below W.heap.size W w1) : (∀ b o, b < W.heap.size → w1.cell? ⟨b, o, none⟩ = W.cell? ⟨b, o, none⟩) ∧ (∀ b o, b < W.heap.size → w1.frozen? ⟨b, o, none⟩ = W.frozen? ⟨b, o, none⟩) :=
 ⟨fun b o h => hb.cell (p := ⟨b, o, none⟩) h, fun b o h => hb.frozen (p := ⟨b, o, none⟩) h⟩
theorem ret_str_int {a b : ByteArray} {k : IntKind} {m n : Int} (h : a = b) (h2 : m = n) : Ending.returned (.tuple #[.string a, .int k m]) = .returned (.tuple #[.string b, .int k n]) := by rw [h, h2]
/-- a field as a line; the error -/
def printS (n v : ByteArray) : ByteArray × Int :=
 if (tokL n.data.toList && valL v.data.toList) = false then (⟨#[]⟩, 12) else if 2000 < (n ++ ⟨#[58, 32]⟩ ++ v).size then (⟨#[]⟩, 3) else (n ++ ⟨#[58, 32]⟩ ++ v, 0)
theorem printS_size (n v : ByteArray) : (n ++ ⟨#[58, 32]⟩ ++ v).size = n.size + 2 + v.size := by rw [ByteArray.size_append, ByteArray.size_append]; rfl
theorem printS_no (n v : ByteArray) (h : (tokL n.data.toList && valL v.data.toList) = false) : printS n v = (⟨#[]⟩, 12) := by unfold printS; rw [if_pos h]
theorem printS_long (n v : ByteArray) (ht : tokL n.data.toList = true) (hv : valL v.data.toList = true) (h : (2000 : Int) < n.size + 2 + v.size) : printS n v = (⟨#[]⟩, 3) := by
 unfold printS; rw [ht, hv, if_neg (by decide), if_pos (by rw [printS_size]; omega)]
theorem printS_yes (n v : ByteArray) (ht : tokL n.data.toList = true) (hv : valL v.data.toList = true) (h : ¬ (2000 : Int) < n.size + 2 + v.size) : printS n v = (n ++ ⟨#[58, 32]⟩ ++ v, 0) := by
 unfold printS; rw [ht, hv, if_neg (by decide), if_neg (by rw [printS_size]; omega)]
set_option maxRecDepth 100000 in
set_option maxHeartbeats 1000000 in
theorem print_any (n v : ByteArray) (w : World) (hn : n.size ≤ 140737488351232) (hv : v.size ≤ 140737488351232) :
  Calls Tryz.prog 152 #[.agg #[.string n, .string v]] w fun e w' => e = .returned (.tuple #[.string (printS n v).1, .int .u16 (printS n v).2]) ∧ Below w.heap.size w w' := by
 have hu := Tryz.underlying76
 have h1 : n.size + 2 ≤ 9223372036854775807 := by omega
 have h2 : (n ++ ⟨#[58, 32]⟩).size + v.size ≤ 9223372036854775807 := by rw [ByteArray.size_append]; show n.size + 2 + v.size ≤ _; omega
 have hB0 := hid (below_alloc (Below.refl w.heap.size w) (.cells #[.string n, .string v] 76))
 by_cases ht : tokL n.data.toList = true
 ·by_cases hl : valL v.data.toList = true
  ·by_cases h20 : (2000 : Int) < n.size + 2 + v.size
   all_goals
    have HF := by first | exact hid (printS_long n v ht hl h20) | exact hid (printS_yes n v ht hl h20)
    have HT := hid ht
    have HL := hid hl
    clear ht hl
    go_enter Tryz.func152, Tryz.ntmps152
    go_wp2_with fail
    refine (token_any _ _).mono ?_
    rintro e w1 ⟨rfl, hb1⟩
    rw [HT.out]
    have hc1 := (bcell hb1).1 w.heap.size 1 (by simp)
    have hz := hb1.size
    simp at hz
    go_wp2_with fail
    refine (value_any _ _ hv).mono ?_
    rintro e w2 ⟨rfl, hb2⟩
    rw [HL.out]
    go_wp2
    go_ret2
    exact ⟨ret_str_int (congrArg Prod.fst HF.out).symm (congrArg Prod.snd HF.out).symm, (hB0.out.trans (hb1.mono (by simp))).trans (hb2.mono (by omega))⟩
  ·have hl : valL v.data.toList = false := by simpa using hl
   have HF := hid (printS_no n v (by rw [hl]; simp))
   have HT := hid ht
   have HL := hid hl
   clear ht hl
   go_enter Tryz.func152, Tryz.ntmps152
   go_wp2_with fail
   refine (token_any _ _).mono ?_
   rintro e w1 ⟨rfl, hb1⟩
   rw [HT.out]
   have hc1 := (bcell hb1).1 w.heap.size 1 (by simp)
   have hz := hb1.size
   simp at hz
   go_wp2_with fail
   refine (value_any _ _ hv).mono ?_
   rintro e w2 ⟨rfl, hb2⟩
   rw [HL.out]
   go_wp2
   go_ret2
   exact ⟨ret_str_int (congrArg Prod.fst HF.out).symm (congrArg Prod.snd HF.out).symm, (hB0.out.trans (hb1.mono (by simp))).trans (hb2.mono (by omega))⟩
 ·have ht : tokL n.data.toList = false := by simpa using ht
  have HF := hid (printS_no n v (by rw [ht]; simp))
  have HT := hid ht
  clear ht
  go_enter Tryz.func152, Tryz.ntmps152
  go_wp2_with fail
  refine (token_any _ _).mono ?_
  rintro e w1 ⟨rfl, hb1⟩
  rw [HT.out]
  go_wp2
  go_ret2
  exact ⟨ret_str_int (congrArg Prod.fst HF.out).symm (congrArg Prod.snd HF.out).symm, hB0.out.trans (hb1.mono (by simp))⟩
def strings_HasPrefix.f (a0 a1 : ByteArray) : Option Bool := some (Lib.hasPrefix a0.data.toList a1.data.toList)
theorem strings_HasPrefix.calls (a0 a1 : ByteArray) (r : Bool) (w : World) (h : strings_HasPrefix.f a0 a1 = some r) :
  Calls Tryz.prog 117 #[.string a0, .string a1] w fun e w' => e = .returned (.bool r) ∧ Drawn0 w w' :=
 (Tryz.strings_HasPrefix a0 a1 w).mono fun e w' ⟨he, hw⟩ => by
  obtain rfl := Option.some.inj h
  exact ⟨he, hw ▸ Drawn0.refl _⟩
def strings_HasSuffix.f (a0 a1 : ByteArray) : Option Bool := if a0.size ≤ 9223372036854775807 then some (Lib.hasSuffix a0.data.toList a1.data.toList) else none
theorem strings_HasSuffix.calls (a0 a1 : ByteArray) (r : Bool) (w : World) (h : strings_HasSuffix.f a0 a1 = some r) :
  Calls Tryz.prog 221 #[.string a0, .string a1] w fun e w' => e = .returned (.bool r) ∧ Drawn0 w w' := by
 unfold strings_HasSuffix.f at h
 split at h
 ·rename_i hc
  refine (Tryz.strings_HasSuffix a0 a1 w hc).mono fun e w' ⟨he, hw⟩ => ?_
  obtain rfl := Option.some.inj h
  exact ⟨he, hw ▸ Drawn0.refl _⟩
 ·cases h
def strconv_Itoa.f (a0 : Int) : Option ByteArray := if -9223372036854775808 ≤ a0 ∧ a0 ≤ 9223372036854775807 then some ⟨(Lib.itoa a0).toArray⟩ else none
theorem strconv_Itoa.calls (a0 : Int) (r : ByteArray) (w : World) (hT : Tb w) (h : strconv_Itoa.f a0 = some r) :
  Calls Tryz.prog 112 #[.int .i64 a0] w fun e w' => e = .returned (.string r) ∧ Below w.heap.size w w' := by
 unfold strconv_Itoa.f at h
 split at h
 ·rename_i hc
  obtain rfl := Option.some.inj h
  refine (Tryz.strconv_Itoa a0 hc.1 hc.2 w hT).mono ?_
  rintro e w' ⟨he, k, os, rfl⟩
  exact ⟨he, Lib.below_grow _ _ (Nat.le_refl _) _ _⟩
 ·cases h
def AllTo (p : UInt8 → Bool) (s : ByteArray) (pos : Nat) : Prop := ∀ j, j < pos → p (s.data.toList.getD j 0) = true
theorem AllTo.step {p : UInt8 → Bool} {s : ByteArray} {pos : Nat} (h : AllTo p s pos) (hp : pos < s.size) (hb : p (s[pos]'hp) = true) : AllTo p s (pos + 1) := by
 intro j hj
 by_cases e : j = pos
 ·subst e; rw [data_at s j hp]; exact hb
 ·exact h j (by omega)
theorem all_no (p : UInt8 → Bool) (s : ByteArray) (pos : Nat) (h : pos < s.size) (hb : p (s[pos]'h) = false) : s.data.toList.all p = false := by
 rw [List.all_eq_false]
 exact ⟨s[pos]'h, by rw [← data_at s pos h, List.getD, List.getElem?_eq_getElem (show pos < s.data.toList.length from h)]; exact List.getElem_mem _, by rw [hb]; simp⟩
theorem all_yes (p : UInt8 → Bool) (s : ByteArray) (h : AllTo p s s.size) : s.data.toList.all p = true := by
 rw [List.all_eq_true]
 intro x hx
 obtain ⟨j, hj, rfl⟩ := List.getElem_of_mem hx
 have := h j hj
 rwa [List.getD, List.getElem?_eq_getElem hj] at this
/-- every byte ahead of pos is one of these -/
def octsB : ByteArray := ⟨#[34, 44, 59, 92]⟩
def octAt (c : UInt8) : Int := Lib.indexByte octsB.data.toList c
theorem oct_any (c : UInt8) (w : World) : Calls Tryz.prog 172 #[.string ⟨#[34, 44, 59, 92]⟩, .int .u8 c.toNat] w fun e w' => e = .returned (.int .i64 (octAt c)) ∧ w' = w := by
 have h := Tryz.strings_IndexByte octsB (c.toNat : Int) w
 rw [show ((c.toNat : Int)).toNat.toUInt8 = c by simp] at h
 exact h
/-- may a byte be in a cookie's value? -/
def octB (c : UInt8) : Bool := decide (33 ≤ c.toNat) && decide (c.toNat ≤ 126) && !octsB.data.toList.contains c
def octL (l : List UInt8) : Bool := l.all octB
theorem oct_yes {c : UInt8} (h : octsB.data.toList.contains c = true) : 0 ≤ octAt c := by
 rcases indexByte_mem octsB.data.toList c with ⟨_, h2⟩ | ⟨h1, _⟩
 ·rw [h] at h2; cases h2
 ·exact h1
theorem oct_no {c : UInt8} (h : octsB.data.toList.contains c = false) : octAt c < 0 := by
 rcases indexByte_mem octsB.data.toList c with ⟨h1, _⟩ | ⟨_, h2⟩
 ·show Lib.indexByte _ _ < 0; omega
 ·rw [h] at h2; cases h2
theorem octets_any (s : ByteArray) (w : World) : Calls Tryz.prog 122 #[.string s] w fun e w' => e = .returned (.bool (octL s.data.toList)) ∧ Below w.heap.size w w' := by
 go_enter Tryz.func122, Tryz.ntmps122
 go_wp2
 go_loopw [] (fun w' => ∃ (pos : Nat), w' = w.iter s pos ∧ pos ≤ s.size ∧ AllTo octB s pos) (fun w' => s.size - w'.iterPos w.heap.size)
 case atStart => exact ⟨0, rfl, Nat.zero_le _, fun j hj => by omega⟩
 case round =>
  obtain ⟨pos, rfl, hle, hT⟩ := hrel
  by_cases hp : pos < s.size
  ·have hnx : ∀ ty, (Instr.next (.pointer (some ⟨w.heap.size, 0, none⟩)) true ty).run Tryz.prog (w.iter s pos) = _ := fun ty => run_next_any w s pos ty hp
   by_cases ha : (s[pos]'hp).toNat < 128
   ·have hd := decode_ascii s pos hp ha
    rw [hd] at hnx
    dsimp only at hnx
    have hb0 : (s[pos]'hp).toNat < 128 := ha
    have HT := hid hT
    clear hT hd
    by_cases h33 : ((s[pos]'hp).toNat : Int) < 33
    ·have HF := hid (all_no octB s pos hp (by unfold octB; rw [decide_eq_false (by omega)]; rfl))
     clear HT
     go_wp2
     go_ret
     exact ⟨ret_bool HF.out.symm, below_iter _ _ _⟩
    ·by_cases h126 : ((s[pos]'hp).toNat : Int) > 126
     ·have HF := hid (all_no octB s pos hp (by unfold octB; rw [decide_eq_false (p := (s[pos]'hp).toNat ≤ 126) (by omega)]; simp))
      clear HT
      go_wp2
      go_ret
      exact ⟨ret_bool HF.out.symm, below_iter _ _ _⟩
     ·by_cases hm : octsB.data.toList.contains (s[pos]'hp) = true
      ·have HF := hid (all_no octB s pos hp (by unfold octB; rw [hm]; simp))
       have hn := oct_yes hm
       clear HT hm
       go_wp2_with (go_at_call 172; refine (oct_any _ _).mono ?_; rintro e w' ⟨rfl, rfl⟩)
       go_ret
       exact ⟨ret_bool HF.out.symm, below_iter _ _ _⟩
      ·have hm' : octsB.data.toList.contains (s[pos]'hp) = false := by simpa using hm
       have HT2 := hid (HT.out.step hp (by unfold octB; rw [hm', decide_eq_true (by omega), decide_eq_true (by omega)]; rfl))
       have hn := oct_no hm'
       clear HT hm hm'
       go_wp2_with (go_at_call 172; refine (oct_any _ _).mono ?_; rintro e w' ⟨rfl, rfl⟩)
       go_roundw
       case rel => exact ⟨pos + 1, rfl, by omega, HT2.out⟩
       case measure => simp; omega
   ·obtain ⟨hr, hwd⟩ := decode_high s pos hp (by omega)
    have HF := hid (all_no octB s pos hp (by unfold octB; rw [decide_eq_false (p := (s[pos]'hp).toNat ≤ 126) (by omega)]; simp))
    generalize (Utf8.decode s pos).1 = r at hnx hr
    generalize (Utf8.decode s pos).2 = wd at hnx hwd
    have hr2 : 127 ≤ (r : Int) := by omega
    clear hT ha hr
    go_wp2
    go_ret
    exact ⟨ret_bool HF.out.symm, below_iter _ _ _⟩
  ·obtain rfl : pos = s.size := by omega
   have hnx : ∀ ty, (Instr.next (.pointer (some ⟨w.heap.size, 0, none⟩)) true ty).run Tryz.prog (w.iter s s.size) = _ := fun ty => run_next_end w s s.size ty hp
   have HF := hid (all_yes octB s hT)
   clear hT
   go_wp2
   go_ret
   exact ⟨ret_bool HF.out.symm, below_iter _ _ _⟩
def cookie_octets.f (a0 : ByteArray) : Option Bool := some (octL a0.data.toList)
theorem cookie_octets.calls (a0 : ByteArray) (r : Bool) (w : World) (h : cookie_octets.f a0 = some r) :
  Calls Tryz.prog 122 #[.string a0] w fun e w' => e = .returned (.bool r) ∧ Below w.heap.size w w' := by
 obtain rfl := Option.some.inj h; exact octets_any a0 w
def digB (c : UInt8) : Bool := decide (48 ≤ c.toNat) && decide (c.toNat ≤ 57)
def decV (l : List UInt8) : Int := l.foldl (fun n c => 10 * n + ((c.toNat : Int) - 48)) 0
def decS (s : ByteArray) (most : Int) : Int × Bool :=
 if s.size = 0 ∨ 9 < s.size then (0, false) else if s.data.toList.all digB = true then (if decV s.data.toList > most then (0, false) else (decV s.data.toList, true)) else (0, false)
theorem decV_snoc (l : List UInt8) (c : UInt8) : decV (l ++ [c]) = 10 * decV l + ((c.toNat : Int) - 48) := by unfold decV; rw [List.foldl_append]; rfl
theorem decV_step (s : ByteArray) (pos : Nat) (hp : pos < s.size) : decV (s.data.toList.take (pos + 1)) = 10 * decV (s.data.toList.take pos) + (((s[pos]'hp).toNat : Int) - 48) := by
 rw [List.take_add_one, show s.data.toList[pos]? = some (s[pos]'hp) from by
  rw [List.getElem?_eq_getElem (show pos < s.data.toList.length from hp)]; congr 1]
 exact decV_snoc _ _
theorem decV_bound : ∀ (s : ByteArray) (pos : Nat), pos ≤ s.size → AllTo digB s pos → 0 ≤ decV (s.data.toList.take pos) ∧ decV (s.data.toList.take pos) < 10 ^ pos
 | s, 0, _, _ => by simp [decV]
 | s, pos + 1, hp, h => by
  obtain ⟨h1, h2⟩ := decV_bound s pos (by omega) (fun j hj => h j (by omega))
  have hb := h pos (by omega)
  rw [data_at s pos (by omega)] at hb
  rw [decV_step s pos (by omega)]
  unfold digB at hb
  simp only [Bool.and_eq_true, decide_eq_true_eq] at hb
  rw [Int.pow_succ]
  generalize decV (s.data.toList.take pos) = v at *
  generalize (10 : Int) ^ pos = q at *
  omega
theorem decV_small (s : ByteArray) (pos : Nat) (hp : pos ≤ s.size) (h9 : s.size ≤ 9) (h : AllTo digB s pos) : 0 ≤ decV (s.data.toList.take pos) ∧ decV (s.data.toList.take pos) ≤ 999999999 := by
 obtain ⟨h1, h2⟩ := decV_bound s pos hp h
 have h3 : (10 : Int) ^ pos ≤ 10 ^ 9 := by
  have : (10 : Nat) ^ pos ≤ 10 ^ 9 := Nat.pow_le_pow_right (by omega) (by omega)
  exact_mod_cast this
 omega
theorem ret_int_bool {a b : Int} {c d : Bool} (h : (a, c) = (b, d)) : Ending.returned (.tuple #[.int .i64 a, .bool c]) = .returned (.tuple #[.int .i64 b, .bool d]) := by
 injection h with h1 h2; rw [h1, h2]
theorem decimal_any (s : ByteArray) (most : Int) (w : World) : Calls Tryz.prog 149 #[.string s, .int .i64 most] w fun e w' => e = .returned (.tuple #[.int .i64 (decS s most).1, .bool (decS s most).2]) ∧ Below w.heap.size w w' := by
 have hnil : s.toList.isEmpty = decide (s.size = 0) := by
  rw [ByteArray.toList_eq, Bool.eq_iff_iff, decide_eq_true_eq, List.isEmpty_iff]
  constructor
  ·intro h; have : s.data.toList.length = 0 := by rw [h]; rfl
   exact this
  ·intro h; exact List.length_eq_zero_iff.1 h
 by_cases h0 : s.size = 0 ∨ 9 < s.size
 ·have HF := hid (show decS s most = (0, false) by unfold decS; rw [if_pos h0])
  go_enter Tryz.func149, Tryz.ntmps149
  rcases h0 with h0 | h0
  ·have he : s.toList.isEmpty = true := by rw [hnil, decide_eq_true h0]
   clear hnil
   go_wp2
   go_ret2
   exact ⟨ret_int_bool HF.out.symm, Below.refl _ _⟩
  ·have he : s.toList.isEmpty = false := by rw [hnil, decide_eq_false (by omega)]
   clear hnil
   go_wp2
   go_ret2
   exact ⟨ret_int_bool HF.out.symm, Below.refl _ _⟩
 have he : s.toList.isEmpty = false := by rw [hnil, decide_eq_false (by omega)]
 have h9 : s.size ≤ 9 := by omega
 have HF := hid (show decS s most = (if s.data.toList.all digB = true then (if decV s.data.toList > most then (0, false) else (decV s.data.toList, true)) else (0, false)) by unfold decS; rw [if_neg h0])
 clear h0 hnil
 go_enter Tryz.func149, Tryz.ntmps149
 go_wp2_with fail
 go_loopw [6] (fun n w' => ∃ (pos : Nat), n = .int .i64 (decV (s.data.toList.take pos)) ∧ w' = w.iter s pos ∧ pos ≤ s.size ∧ AllTo digB s pos) (fun _ w' => s.size - w'.iterPos w.heap.size)
 case atStart => exact ⟨0, rfl, rfl, Nat.zero_le _, fun j hj => by omega⟩
 case round =>
  obtain ⟨pos, rfl, rfl, hle, hT⟩ := hrel
  obtain ⟨hv0, hv1⟩ := decV_small s pos hle h9 hT
  by_cases hp : pos < s.size
  ·have hnx : ∀ ty, (Instr.next (.pointer (some ⟨w.heap.size, 0, none⟩)) true ty).run Tryz.prog (w.iter s pos) = _ := fun ty => run_next_any w s pos ty hp
   by_cases ha : (s[pos]'hp).toNat < 128
   ·have hd := decode_ascii s pos hp ha
    rw [hd] at hnx
    dsimp only at hnx
    have hb0 : (s[pos]'hp).toNat < 128 := ha
    have HT := hid hT
    clear hT hd
    by_cases h48 : ((s[pos]'hp).toNat : Int) < 48
    ·have hno := all_no digB s pos hp (by unfold digB; rw [decide_eq_false (by omega)]; rfl)
     have HF := hid (show decS s most = (0, false) by rw [HF.out, hno]; rfl)
     clear HT hno
     go_wp2
     go_ret2
     exact ⟨ret_int_bool HF.out.symm, below_iter _ _ _⟩
    ·by_cases h57 : ((s[pos]'hp).toNat : Int) > 57
     ·have hno := all_no digB s pos hp (by unfold digB; rw [decide_eq_false (p := (s[pos]'hp).toNat ≤ 57) (by omega)]; simp)
      have HF := hid (show decS s most = (0, false) by rw [HF.out, hno]; rfl)
      clear HT hno
      go_wp2
      go_ret2
      exact ⟨ret_int_bool HF.out.symm, below_iter _ _ _⟩
     ·have HT2 := hid (HT.out.step hp (by unfold digB; rw [decide_eq_true (by omega), decide_eq_true (by omega)]; rfl))
      have HV := hid (decV_step s pos hp)
      clear HT
      generalize decV (s.data.toList.take pos) = v at *
      go_wp2
      go_roundw
      case rel => exact ⟨pos + 1, by rw [HV.out], rfl, by omega, HT2.out⟩
      case measure => simp; omega
   ·obtain ⟨hr, hwd⟩ := decode_high s pos hp (by omega)
    have hno := all_no digB s pos hp (by unfold digB; rw [decide_eq_false (p := (s[pos]'hp).toNat ≤ 57) (by omega)]; simp)
    have HF := hid (show decS s most = (0, false) by rw [HF.out, hno]; rfl)
    generalize (Utf8.decode s pos).1 = r at hnx hr
    generalize (Utf8.decode s pos).2 = wd at hnx hwd
    have hr2 : 127 ≤ (r : Int) := by omega
    clear hT ha hr hno
    go_wp2
    go_ret2
    exact ⟨ret_int_bool HF.out.symm, below_iter _ _ _⟩
  ·obtain rfl : pos = s.size := by omega
   have hnx : ∀ ty, (Instr.next (.pointer (some ⟨w.heap.size, 0, none⟩)) true ty).run Tryz.prog (w.iter s s.size) = _ := fun ty => run_next_end w s s.size ty hp
   have hall := all_yes digB s hT
   have htk : s.data.toList.take s.size = s.data.toList := List.take_of_length_le (Nat.le_of_eq rfl)
   rw [htk] at hv0 hv1 ⊢
   by_cases hm : decV s.data.toList > most
   ·have HZ := hid (show decS s most = (0, false) by rw [HF.out, hall, if_pos rfl, if_pos hm])
    clear hT hall htk HF
    generalize decV s.data.toList = v at *
    go_wp2
    go_ret2
    exact ⟨ret_int_bool HZ.out.symm, below_iter _ _ _⟩
   ·have HZ := hid (show decS s most = (decV s.data.toList, true) by rw [HF.out, hall, if_pos rfl, if_neg hm])
    clear hT hall htk HF
    generalize decV s.data.toList = v at *
    go_wp2
    go_ret2
    exact ⟨ret_int_bool HZ.out.symm, below_iter _ _ _⟩
end Go.Proofs.YthdiiiopjkaifaaGreatDoor.Pall

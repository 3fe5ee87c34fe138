/-
resp.Print, as a walk.
resp.Reason and resp.Print: their contracts in the printed form.
(*strings.Builder).copyCheck and WriteString in a dump whose written panic the loader refuses: the shelf's own walks of them, turned to this dump.
-/
import Derived.Test.YthdiiiopjkaifaaGreatDoorZdRpa
import Derived.Test.YthdiiiopjkaifaaGreatDoorProg
import Derived.Below
import Derived.Deep.Draws
import Derived.Deep.AppendLies
import Derived.Maps.AppendAt
import Derived.OwnWalk
import Derived.Laws.BytesArg
import Derived.Laws.MakeOwn
import Derived.Laws.OwnMore
import Derived.Deep.OwnRows
import Derived.Tactics
import Derived.Lib.ConvBytes
import Derived.Laws.Slices
import Derived.WalkKit
import Derived.KernelRfl
import Derived.RowKit3
import Derived.Deep.LoopGhost
import Derived.Deep.QuietTactic
import Derived.BigQuiet
import Derived.WideLaws
import Derived.Deep.DeepCutAuto
import Derived.Deep.CutBlock
import Derived.Deep.RegionHeld3
import Derived.Laws.Rows
import Derived.Lib.AppendStr
import Derived.ArgAppend
import Derived.Laws.IdiomCopy
import Derived.RowKit
import Derived.OrdersHeld
import Derived.Laws.BitsLemmas
import Derived.Laws.StructEq
import Derived.Test.YthdiiiopjkaifaaGreatDoorZdWN
import Derived.Test.YthdiiiopjkaifaaGreatDoorZdWWords
import Derived.Test.YthdiiiopjkaifaaGreatDoorZdWMore
import Derived.Test.YthdiiiopjkaifaaGreatDoorZdWLast
import Derived.Test.YthdiiiopjkaifaaGreatDoorZdGateA
import Derived.Lib.Builder
import Derived.ProofKit
import Derived.Tactics2
import Derived.Shelf.Strings.Builder1
section
namespace Go.Proofs.YthdiiiopjkaifaaGreatDoor.Pl
open Go.RowKit Go.Proofs.YthdiiiopjkaifaaGreatDoor.Pall Go.Proofs.YthdiiiopjkaifaaGreatDoorW.PrintWords Go.Proofs.YthdiiiopjkaifaaGreatDoorW.PrintLast
set_option linter.unusedVariables false
set_option linter.unusedSimpArgs false
theorem rdPr (l : List S76) (i : Nat) : rd_T76 l (i : Int) = l.getD i z76 := by unfold rd_T76; rw [Int.toNat_natCast]
theorem getD_memP {α : Type} (l : List α) (d : α) {i : Nat} (h : i < l.length) : l.getD i d ∈ l := by
 rw [List.getD, List.getElem?_eq_getElem h]; exact List.getElem_mem h
theorem fsErr_at (fs : List S76) (j : Nat) (h0 : fsErr (fs.take j) = 0) (hj : j < fs.length) :
  fsErr (fs.take (j + 1)) = (printS (fs.getD j z76).f0 (fs.getD j z76).f1).2 ∧ ((printS (fs.getD j z76).f0 (fs.getD j z76).f1).2 ≠ 0 → fsErr fs = (printS (fs.getD j z76).f0 (fs.getD j z76).f1).2) := by
 induction fs generalizing j with
 | nil => simp at hj
 | cons p l ih =>
  cases j with
  | zero =>
   refine ⟨?_, fun h => ?_⟩
   ·show fsErr [p] = _
    unfold fsErr
    rw [show (p :: l).getD 0 z76 = p from rfl]
    by_cases h : (printS p.f0 p.f1).2 = 0
    ·rw [if_pos h, h]; rfl
    ·rw [if_neg h]
   ·rw [show (p :: l).getD 0 z76 = p from rfl] at h ⊢
    unfold fsErr; rw [if_neg h]
  | succ j =>
   rw [List.take_succ_cons] at h0
   have hp : (printS p.f0 p.f1).2 = 0 := by
    by_cases h : (printS p.f0 p.f1).2 = 0
    ·exact h
    ·unfold fsErr at h0; rw [if_neg h] at h0; exact absurd h0 h
   have h1 : fsErr (l.take j) = 0 := by unfold fsErr at h0; rw [if_pos hp] at h0; exact h0
   have h2 := ih j h1 (by simpa using hj)
   rw [show (p :: l).getD (j + 1) z76 = l.getD j z76 from rfl, List.take_succ_cons]
   refine ⟨?_, fun h => ?_⟩
   ·show (if (printS p.f0 p.f1).2 = 0 then fsErr (l.take (j + 1)) else _) = _
    rw [if_pos hp]; exact h2.1
   ·show (if (printS p.f0 p.f1).2 = 0 then fsErr l else _) = _
    rw [if_pos hp]; exact h2.2 h
theorem take_next (fs : List S76) (j : Nat) (hj : j < fs.length) : fs.take (j + 1) = fs.take j ++ [fs.getD j z76] := by
 rw [List.take_succ_eq_append_getElem hj, List.getD, List.getElem?_eq_getElem hj]; rfl
set_option maxRecDepth 100000 in
set_option maxHeartbeats 4000000 in
theorem rprint_go (st : Int) (fs : List S76) (body : List Int) (A1 : Option Addr) (c1 : Nat) (A2 : Option Addr) (c2 : Nat) (w : World) (hC1 : Kd.C k76 w A1 fs.length fs) (hc1 : fs.length ≤ c1) (hC2 : Kd.C (Kd.int .u8) w A2 body.length body) (hc2 : body.length ≤ c2) (hT : Tb w)
  (hs : ∀ p ∈ fs, p.f0.size ≤ 140737488351232 ∧ p.f1.size ≤ 140737488351232) (hr : reasonS st ≠ ⟨#[]⟩) (hb : body.length ≤ 4000) (hf : fs.length ≤ 40) (r : List Int × Int) (hre : r = if fsErr fs ≠ 0 then ([], fsErr fs) else (numsL (hdT st ++ fsTxt fs ++ lenT body.length) ++ body, 0)) :
  Calls Tryz.prog 105 #[.agg #[.int .i64 st, .slice A1 fs.length c1, .slice A2 body.length c2]] w (PrGot w r) := by
 have hu := Tryz.underlying71
 have hu43 := Tryz.underlying76
 have hmf : ∀ (fn : Fn) (first cap : Array Value) (w : World), (Instr.makeFunc fn first cap).run Tryz.prog w = .ok (.func fn first cap) w := fun _ _ _ _ => rfl
 have HX0 := hid (Bx.new w #[.int .i64 st, .slice A1 fs.length c1, .slice A2 body.length c2])
 have HR := hid (fun W => reason_any st W)
 have HI := hid (fun (W : World) (h : Below w.heap.size w W) => itoa_any st W (hT.of_below h) (by have := reason_st hr; omega) (by have := reason_st hr; omega))
 have HJ := hid (fun (W : World) (h : Below w.heap.size w W) => itoa_any (body.length : Int) W (hT.of_below h) (by omega) (by omega))
 have hz2 : (reasonS st).toList.isEmpty = false := by
  rw [ByteArray.toList_eq]
  cases hd : (reasonS st).data.toList with
  | nil => exact absurd (ba_ext hd) hr
  | cons a l => rfl
 have HHL := hid (hdT_len st hr)
 obtain ⟨it, hit⟩ : ∃ it : ByteArray, it = ⟨(Lib.itoa st).toArray⟩ := ⟨_, rfl⟩
 obtain ⟨jt, hjt⟩ : ∃ jt : ByteArray, jt = ⟨(Lib.itoa (body.length : Int)).toArray⟩ := ⟨_, rfl⟩
 have HHD := hid (show hdT st = ((⟨#[72, 84, 84, 80, 47, 49, 46, 49, 32]⟩ : ByteArray) ++ it ++ ⟨#[32]⟩ ++ reasonS st ++ ⟨#[13, 10]⟩).data.toList from by rw [hit]; simp [hdT])
 have HLT := hid (show lenT body.length = ((⟨#[67, 111, 110, 116, 101, 110, 116, 45, 76, 101, 110, 103, 116, 104, 58, 32]⟩ : ByteArray) ++ jt ++ ⟨#[13, 10]⟩ ++ ⟨#[13, 10]⟩).data.toList from by rw [hjt]; simp [lenT])
 have zi : it.size ≤ 21 := by rw [hit]; exact itoa_len st (by have := reason_st hr; omega) (by have := reason_st hr; omega)
 have zj : jt.size ≤ 21 := by rw [hjt]; exact itoa_len (body.length : Int) (by omega) (by omega)
 have zr := reason_len st
 rw [← hit] at HI
 rw [← hjt] at HJ
 have s1 : 9 + it.size ≤ 9223372036854775807 := by omega
 have s2 : ((⟨#[72, 84, 84, 80, 47, 49, 46, 49, 32]⟩ : ByteArray) ++ it).size + 1 ≤ 9223372036854775807 := by rw [ByteArray.size_append]; show 9 + it.size + 1 ≤ _; omega
 have s3 : ((⟨#[72, 84, 84, 80, 47, 49, 46, 49, 32]⟩ : ByteArray) ++ it ++ ⟨#[32]⟩).size + (reasonS st).size ≤ 9223372036854775807 := by rw [ByteArray.size_append, ByteArray.size_append]; show 9 + it.size + 1 + _ ≤ _; omega
 have s4 : ((⟨#[72, 84, 84, 80, 47, 49, 46, 49, 32]⟩ : ByteArray) ++ it ++ ⟨#[32]⟩ ++ reasonS st).size + 2 ≤ 9223372036854775807 := by rw [ByteArray.size_append, ByteArray.size_append, ByteArray.size_append]; show 9 + it.size + 1 + _ + 2 ≤ _; omega
 have HZ := hid (show ([] : List UInt8).length + ((⟨#[72, 84, 84, 80, 47, 49, 46, 49, 32]⟩ : ByteArray) ++ it ++ ⟨#[32]⟩ ++ reasonS st ++ ⟨#[13, 10]⟩).size ≤ 140737488355328 by rw [ByteArray.size_append, ByteArray.size_append, ByteArray.size_append, ByteArray.size_append]; show 0 + (9 + it.size + 1 + _ + 2) ≤ _; omega)
 clear hit hjt
 have HRE := hid hre
 clear hre
 have HC1 := hid hC1
 have HC2 := hid hC2
 have HS := hid hs
 have n4 : ¬ (4000 : Int) < (body.length : Int) := by omega
 have n40 : ¬ (40 : Int) < (fs.length : Int) := by omega
 generalize reasonS st = rs at *
 clear hC1 hC2 hT hs hr
 go_enter Tryz.func105, Tryz.ntmps105
 go_upto_region 8 with (go_at_call 72; refine (HR.out _).mono ?_; rintro e w1 ⟨rfl, hb⟩; have HX := hid (HX0.out.below hb); have hx := HX.out.cells; obtain ⟨x0, x1, x2⟩ := hx; clear hb)
 have HF0 := hid (Bf.new HX.out).drew
 have hx := HF0.out.bx.cells
 obtain ⟨x0, x1, x2⟩ := hx
 clear HX HX0
 rename_i K hK
 have REST : ∀ {u0 u2 u3 u10 u11 u12 u13 u14 u15 u16 u17 u18 u19 u20 u21 u22 u23 u24 u25 u26 u27 u28 u29 u30 u31 u32 u33 u34 u35 u36 : Value} {w4 : World}, Bf w w4 #[.int .i64 st, .slice A1 fs.length c1, .slice A2 body.length c2] w1.heap.size (hdT st) → Exit.then K (bodyPost Tryz.prog Tryz.f105 (PrGot w r)) Exit.normal { tmps := #[u0, .pointer (some ⟨w.heap.size, 0, none⟩), u2, u3, .pointer (some ⟨w1.heap.size, 0, none⟩), .func (Fn.func 151) #[.pointer (some ⟨w1.heap.size, 0, none⟩)] #[], undef, undef, undef, undef, u10, u11, u12, u13, u14, u15, u16, u17, u18, u19, u20, u21, u22, u23, u24, u25, u26, u27, u28, u29, u30, u31, u32, u33, u34, u35, u36, undef, undef, undef, undef, undef, undef, undef, undef, undef, undef, undef, undef, undef, undef, undef, undef, undef, undef, undef, undef, undef, undef, undef, undef, undef, undef, undef, undef, undef, undef, undef, undef, undef], defers := [] } w4 := by
  clear HF0 x0 x1 x2 HI HR
  intro u0 u2 u3 u10 u11 u12 u13 u14 u15 u16 u17 u18 u19 u20 u21 u22 u23 u24 u25 u26 u27 u28 u29 u30 u31 u32 u33 u34 u35 u36 w4 hf
  have HF := hid hf
  have hx := HF.out.bx.cells
  obtain ⟨x0, x1, x2⟩ := hx
  clear hf
  go_wp2
  go_loopw [40] (fun i W => ∃ j : Nat, j ≤ fs.length ∧ i = .int .i64 (j : Int) ∧ Hid (Bf w W #[.int .i64 st, .slice A1 fs.length c1, .slice A2 body.length c2] w1.heap.size (hdT st ++ fsTxt (fs.take j))) ∧ Hid (fsErr (fs.take j) = 0)) (fun i _ => fs.length - (intOf i).toNat)
  case atStart => exact ⟨0, Nat.zero_le _, rfl, hid (by simpa [fsTxt] using HF.out), hid rfl⟩
  case round =>
   obtain ⟨j, hj, rfl, HF, HE⟩ := hrel
   have hx := HF.out.bx.cells
   obtain ⟨x0, x1, x2⟩ := hx
   by_cases hlt : j < fs.length
   ·obtain ⟨ad, hA, a0, a1⟩ := at_T76 HC1.out (j : Int) (by omega) (by omega)
    subst hA
    rw [rdPr] at a0 a1
    rw [Int.toNat_natCast] at a0 a1
    have a0 := (HF.out.bx.bel.cell (World.block_lt_of_cell? _ _ a0)).trans a0
    have a1 := (HF.out.bx.bel.cell (World.block_lt_of_cell? _ _ a1)).trans a1
    have HPP := hid (HS.out _ (getD_memP fs z76 hlt))
    have HEA := hid (fsErr_at fs j HE.out hlt)
    have HTX := hid (show fsTxt (fs.take (j + 1)) = fsTxt (fs.take j) ++ ((printS (fs.getD j z76).f0 (fs.getD j z76).f1).1.data.toList ++ [13, 10]) by rw [take_next fs j hlt, fsTxt_app])
    have HTL := hid (fsTxt_len (fs.take j))
    have hl3 : (j : Int) < (fs.length : Int) := by omega
    generalize fs.getD j z76 = p at *
    have HPL := hid (printS_len p.f0 p.f1)
    have HPR := hid (fun W => print_any p.f0 p.f1 W HPP.out.1 HPP.out.2)
    generalize printS p.f0 p.f1 = ps at *
    obtain ⟨line, er⟩ := ps
    dsimp only at HEA HTX HPL HPR
    have HZ := hid (show (hdT st ++ fsTxt (fs.take j)).length + (line ++ (⟨#[13, 10]⟩ : ByteArray)).size ≤ 140737488355328 by
     have e1 := HHL.out
     have e2 := HTL.out
     have e3 : line.size ≤ 2000 := HPL.out
     rw [List.length_take] at e2
     rw [List.length_append, ByteArray.size_append]
     show _ + (_ + 2) ≤ _
     omega)
    have hl2 : line.size + 2 ≤ 9223372036854775807 := by have e3 : line.size ≤ 2000 := HPL.out; omega
    by_cases he : er = 0
    ·subst he
     go_wp2_with (first
      | (go_at_call 152; refine (HPR.out _).mono ?_; rintro e W2 ⟨rfl, hb⟩; have HF2 := hid (HF.out.below (((Below.refl _ _).alloc (Nat.le_refl _) _).trans (hb.mono (by simp)))); clear hb)
      | (go_at_call 151; refine (Bf.put HF2.out _ HZ.out).mono ?_; rintro e W3 ⟨rfl, hf⟩; have HF3 := hid hf; clear hf))
     go_roundw
     case rel =>
      refine ⟨j + 1, by omega, by go_num, ?_, hid HEA.out.1⟩
      have h := HF3.out
      rw [List.append_assoc] at h
      rw [HTX.out]
      exact hid (by simpa using h)
     case measure => first | omega | (simp [intOf]; done) | (simp [intOf]; omega)
    ·have he2 : (er == 0) = false := by simpa using he
     have hr := HRE.out
     rw [HEA.out.2 he, if_pos he] at hr
     subst hr
     go_wp2_with (go_at_call 152; refine (HPR.out _).mono ?_; rintro e W2 ⟨rfl, hb⟩; have HF2 := hid (HF.out.below (((Below.refl _ _).alloc (Nat.le_refl _) _).trans (hb.mono (by simp)))); clear hb)
     go_ret2
     exact ⟨_, rfl, Kd.R_nil _ _ _ _ _, HF2.out.bx.bel⟩
   ·obtain rfl : j = fs.length := by omega
    rw [List.take_length] at HF HE
    have hr := HRE.out
    rw [if_neg (by rw [HE.out]; simp)] at hr
    subst hr
    have HZ := hid (show (hdT st ++ fsTxt fs).length + ((⟨#[67, 111, 110, 116, 101, 110, 116, 45, 76, 101, 110, 103, 116, 104, 58, 32]⟩ : ByteArray) ++ jt ++ ⟨#[13, 10]⟩ ++ ⟨#[13, 10]⟩).size ≤ 200000 by
     have e1 := HHL.out
     have e2 := fsTxt_len fs
     rw [List.length_append, ByteArray.size_append, ByteArray.size_append, ByteArray.size_append]
     show _ + (16 + jt.size + 2 + 2) ≤ _
     omega)
    have HZ2 := hid (show (hdT st ++ fsTxt fs ++ lenT body.length).length + body.length ≤ 140737488355328 by
     have e1 := HHL.out
     have e2 := fsTxt_len fs
     have e3 : (lenT body.length).length = 16 + jt.size + 2 + 2 := by
      rw [HLT.out, Array.length_toList]; show ByteArray.size _ = _
      rw [ByteArray.size_append, ByteArray.size_append, ByteArray.size_append]; rfl
     rw [List.length_append, List.length_append, e3]
     omega)
    go_wp2_with (first
     | (go_at_call 112; refine (HJ.out _ HF.out.bx.bel).mono ?_; rintro e W2 ⟨rfl, hb⟩; have HF2 := hid (HF.out.below hb); have hx := HF2.out.bx.cells; obtain ⟨y0, y1, y2⟩ := hx; clear hb)
     | (go_at_call 151; refine (Bf.put HF2.out _ (Nat.le_trans HZ.out (by decide))).mono ?_; rintro e W3 ⟨rfl, hf⟩; rw [← HLT.out] at hf; have HF3 := hid hf; have hx := HF3.out.bx.cells; obtain ⟨z0, z1, z2⟩ := hx; clear hf)
     | (go_at_call 153; refine (HF3.out.write A2 c2 body HC2.out HZ2.out).mono ?_; rintro e W4 ⟨⟨v, rfl⟩, hw⟩; have HW := hid hw; clear hw)
     | (go_at_call 154; refine (Tryz.Buffer_Bytes _ _ _ _ HW.out.2.1).mono ?_; rintro e W5 ⟨v5, rfl, hown, n5, rfl⟩; have HO := hid hown; clear hown))
    go_ret2
    have ho := HO.out
    refine ⟨_, rfl, Kd.R_lower (Kd.R_of_own (h1 := fun _ => rfl) ?_ (fun _ _ => trivial)) HW.out.2.2, bN HW.out.1 _⟩
    simpa [encs] using ho
 go_region_with (first
  | (go_at_call 112; refine (HI.out _ HF0.out.bx.bel).mono ?_; rintro e w2 ⟨rfl, hb⟩; have HF1 := hid (HF0.out.below hb); have hx := HF1.out.bx.cells; obtain ⟨y0, y1, y2⟩ := hx; clear hb)
  | (go_at_call 72; refine (HR.out _).mono ?_; rintro e w3 ⟨rfl, hb⟩; have HF2 := hid (HF1.out.below hb); have hx := HF2.out.bx.cells; obtain ⟨z0, z1, z2⟩ := hx; clear hb)
  | (go_at_call 151; refine (Bf.put HF2.out _ HZ.out).mono ?_; rintro e w4 ⟨rfl, hf⟩; rw [List.nil_append, ← HHD.out] at hf; have HF3 := hid hf; have hx := HF3.out.bx.cells; obtain ⟨v0, v1, v2⟩ := hx; clear hf))
 all_goals exact REST HF3.out
end Go.Proofs.YthdiiiopjkaifaaGreatDoor.Pl
end
section
namespace Go.Proofs.YthdiiiopjkaifaaGreatDoor.Pall
open Go.RowKit Go.Proofs.YthdiiiopjkaifaaGreatDoorW.PrintWords Go.Proofs.YthdiiiopjkaifaaGreatDoorW.PrintLast Go.Proofs.YthdiiiopjkaifaaGreatDoor.Pl
set_option linter.unusedVariables false
def smallF (l : List S76) : Bool := l.all fun p => decide (p.f0.size ≤ 140737488351232 ∧ p.f1.size ≤ 140737488351232)
def resp_Print.f (a0_0 : Int) (l0_1 : List S76) (l0_2 : List Int) : Option (List Int × Int) := if smallF l0_1 then some (prS a0_0 l0_1 l0_2) else none
theorem resp_Print.calls (a0_0 : Int) (A0_1 : Option Addr) (c0_1 : Nat) (l0_1 : List S76) (A0_2 : Option Addr) (c0_2 : Nat) (l0_2 : List Int) (r1 : List Int) (r2 : Int) (w : World) (hr0_1 : Kd.C k76 w A0_1 l0_1.length l0_1) (hc0_1 : l0_1.length ≤ c0_1) (hr0_2 : Kd.C (Kd.int .u8) w A0_2 l0_2.length l0_2) (hc0_2 : l0_2.length ≤ c0_2) (hT : Tb w) (h : resp_Print.f a0_0 l0_1 l0_2 = some (r1, r2)) :
  Calls Tryz.prog 105 #[.agg #[.int .i64 a0_0, .slice A0_1 l0_1.length c0_1, .slice A0_2 l0_2.length c0_2]] w fun e w' => ∃ v0_ : Value, e = .returned (.tuple #[v0_, .int .u16 r2]) ∧ Kd.R (Kd.int .u8) 5 w' w.heap.size (fun _ => True) v0_ r1 ∧ Below w.heap.size w w' := by
 unfold resp_Print.f at h
 split at h
 ·rename_i hsm
  have h := Option.some.inj h
  have hs : ∀ p ∈ l0_1, p.f0.size ≤ 140737488351232 ∧ p.f1.size ≤ 140737488351232 := fun p hp => of_decide_eq_true (List.all_eq_true.1 hsm p hp)
  have key : Calls Tryz.prog 105 #[.agg #[.int .i64 a0_0, .slice A0_1 l0_1.length c0_1, .slice A0_2 l0_2.length c0_2]] w (PrGot w (prS a0_0 l0_1 l0_2)) := by
   by_cases h1 : reasonS a0_0 = ⟨#[]⟩
   ·have := rprint_bad a0_0 A0_1 l0_1.length c0_1 A0_2 l0_2.length c0_2 w (.inl h1)
    unfold prS
    rw [if_pos h1] at this ⊢
    exact this
   ·by_cases h2 : 4000 < l0_2.length ∨ 40 < l0_1.length
    ·have := rprint_bad a0_0 A0_1 l0_1.length c0_1 A0_2 l0_2.length c0_2 w (.inr h2)
     unfold prS
     rw [if_neg h1] at this ⊢
     rw [if_pos h2]
     exact this
    ·unfold prS
     rw [if_neg h1, if_neg h2]
     exact rprint_go a0_0 l0_1 l0_2 A0_1 c0_1 A0_2 c0_2 w hr0_1 hc0_1 hr0_2 hc0_2 hT hs h1 (by omega) (by omega) _ rfl
  rw [h] at key
  exact key
 ·cases h
end Go.Proofs.YthdiiiopjkaifaaGreatDoor.Pall
end
section
namespace Go.Proofs.YthdiiiopjkaifaaGreatDoor.Pl
open Go Go.RowKit Go.Proofs.YthdiiiopjkaifaaGreatDoor.MapS Go.Proofs.YthdiiiopjkaifaaGreatDoorW.PrintWords Go.Proofs.YthdiiiopjkaifaaGreatDoorW.PrintLast
set_option linter.unusedVariables false
set_option linter.unusedSimpArgs false
theorem sizeBuilder : (Tryz.prog.info? 131).map (·.size) = some 2 := by kernel_rfl
theorem liesBuilder : liesAt Tryz.prog Tryz.prog.depth 131 (2 / Tryz.prog.cellsOf 131) 0 131 1 = true := by kernel_rfl
set_option maxRecDepth 100000 in
set_option maxHeartbeats 1000000 in
theorem copyCheck_old (b : Nat) (w : World) (h0 : w.cell? ⟨b, 0, none⟩ = some (.pointer (some ⟨b, 0, none⟩))) :
  Calls Tryz.prog 115 #[.pointer (some ⟨b, 0, none⟩)] w fun e w' => e = .returned (.tuple #[]) ∧ w' = w := by
 obtain ⟨j, hj, _⟩ := Option.map_eq_some_iff.1 sizeBuilder
 have hu := Tryz.underlying129
 go_enter Tryz.func115, Tryz.ntmps115
 go_wp2
 rw [Lib.run_neq_ptr_same w _ Tryz.underlying129 hj]
 go_wp2
 go_end0
 exact ⟨rfl, rfl⟩
set_option maxRecDepth 100000 in
set_option maxHeartbeats 1000000 in
theorem copyCheck_new (b : Nat) (w : World) (h0 : w.cell? ⟨b, 0, none⟩ = some (.pointer none)) (hsh : w.shape? b = some (131, 2)) (hfz : w.frozen? ⟨b, 0, none⟩ = false) :
  Calls Tryz.prog 115 #[.pointer (some ⟨b, 0, none⟩)] w fun e w' => e = .returned (.tuple #[]) ∧ w' = w.setCell ⟨b, 0, none⟩ (.pointer (some ⟨b, 0, none⟩)) := by
 obtain ⟨j, hj, hjs⟩ := Option.map_eq_some_iff.1 sizeBuilder
 have hu := Tryz.underlying129
 have hv := Tryz.underlying241
 go_enter Tryz.func115, Tryz.ntmps115
 go_wp2
 rw [Lib.run_to_unsafe w ⟨b, 0, none⟩ Tryz.underlying129 Tryz.underlying241 hj (by rw [hjs]; decide) hsh (Nat.zero_lt_succ 1)]
 simp only [Result.andThen]
 rw [Oper.upon_value]
 go_wp2
 rw [run_callFunc_extern Tryz.func167 (by kernel_rfl) (by kernel_rfl) (by kernel_rfl) (e := Extern.AbiNoEscape.same) (by kernel_rfl)]
 rw [Lib.run_noEscape]
 simp only [Result.andThen]
 rw [Oper.upon_value]
 go_wp2
 rw [Lib.run_from_unsafe w ⟨b, 0, none⟩ Tryz.underlying241 Tryz.underlying129 hj hsh liesBuilder]
 simp only [Result.andThen]
 rw [Oper.upon_value]
 go_wp2
 go_end0
 exact ⟨rfl, rfl⟩
end Go.Proofs.YthdiiiopjkaifaaGreatDoor.Pl
end

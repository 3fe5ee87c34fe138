/-
  strings.SplitSeq: the iterator's contract: whatever loop ranges over it, the pieces come one by one, in their order.
-/
import Derived.RangeFuncNested
import Derived.RangeFuncBound
import Derived.RangeFuncCalls
import Derived.RangeFuncLeaves
import Derived.Shelf.Abstract
import Derived.Shelf.RegionOpen
import Derived.WalkKit
import Derived.OwnWalkIn
import Derived.TacticsInMore
import Derived.LoopNIn
import Derived.LoopIn
import Derived.Test.YtipbgnhhmgljnaaDoorExt
namespace Go.Proofs.YtipbgnhhmgljnaaDoor.Split
open Go.RowKit Go.Shelf Go.Proofs.YtipbgnhhmgljnaaDoor.Pall
attribute [local go_sem] Oper.semAt_some
set_option linter.unusedVariables false
set_option linter.unusedSimpArgs false

/-- a text, cut at each sep -/
def splitK (sep : List UInt8) : Nat → List UInt8 → List (List UInt8)
  | 0, l => [l]
  | k + 1, l => if Lib.index l sep < 0 then [l] else l.take (Lib.index l sep).toNat :: splitK sep k (l.drop ((Lib.index l sep).toNat + sep.length))
def mkS (l : List UInt8) : ByteArray := ⟨l.toArray⟩

/-- What the iterator leans on: its three captured cells. -/
structure Caps (W : World) (Bp Bs Bv : Nat) (sep rest : ByteArray) : Prop where
  p : W.cell? ⟨Bp, 0, none⟩ = some (.string sep)
  s : W.cell? ⟨Bs, 0, none⟩ = some (.string rest)
  v : W.cell? ⟨Bv, 0, none⟩ = some (.int .i64 0)
  f : W.frozen? ⟨Bs, 0, none⟩ = false

theorem ba_ext {a b : ByteArray} (h : a.data.toList = b.data.toList) : a = b := by
  cases a; cases b; congr 1; exact Array.toList_inj.1 h
theorem cell_set_other (W : World) (a b : Nat) (v : Value) (h : a ≠ b) : (W.setCell ⟨b, 0, none⟩ v).cell? ⟨a, 0, none⟩ = W.cell? ⟨a, 0, none⟩ := by
  unfold World.cell?; rw [Below.heap_setCell W ⟨b, 0, none⟩ v a h]
def restSize (Bs : Nat) (W : World) : Nat := match W.cell? ⟨Bs, 0, none⟩ with | some (.string s) => s.size | _ => 0
theorem restSize_eq {Bs : Nat} {W : World} {s : ByteArray} (h : W.cell? ⟨Bs, 0, none⟩ = some (.string s)) : restSize Bs W = s.size := by unfold restSize; rw [h]
theorem split1_in (n : Nat) (hn : 1 ≤ n) (l Bp Bs Bv : Nat) (sep s0 : ByteArray) (hsep : sep.size = 2) (h0s : s0.size < 4294967281)
    (hne : Bp ≠ Bs ∧ Bv ≠ Bs) (J Jx : List ByteArray → World → Prop)
    (hJc : ∀ pre W v, J pre W → J pre (W.setCell ⟨Bs, 0, none⟩ v)) (hJS : ∀ pre W, J pre W → Sh W)
    (hY : ∀ pre x rest W, J pre W → Caps W Bp Bs Bv sep rest → (pre ++ [x]) <+: (splitK sep.data.toList s0.size s0.data.toList).map mkS → YieldAt Fence.wide (n - 1) Tryd.prog l #[.string x] W fun e W' =>
      (e = .returned (.bool true) ∧ J (pre ++ [x]) W' ∧ Caps W' Bp Bs Bv sep rest) ∨ (e = .returned (.bool false) ∧ Jx (pre ++ [x]) W'))
    (W : World) (hc : Caps W Bp Bs Bv sep s0) (h0 : J [] W) :
    CallsIn Fence.wide n Tryd.prog 55 #[.func (.yield l) #[] #[], .pointer (some ⟨Bp, 0, none⟩), .pointer (some ⟨Bs, 0, none⟩), .pointer (some ⟨Bv, 0, none⟩)] W fun e W' => (∃ v, e = .returned v) ∧
      (J ((splitK sep.data.toList s0.size s0.data.toList).map mkS) W' ∨ (∃ pre, pre <+: (splitK sep.data.toList s0.size s0.data.toList).map mkS ∧ Jx pre W')) := by
  refine callsIn_of_wp Tryd.func55 rfl trivial ?_ rfl
  simp only [Tryd.ntmps55, List.size_toArray, List.length_cons, List.length_nil, Nat.reduceAdd, Nat.reduceSub, Array.replicate_succ, Array.replicate_zero, List.push_toArray, List.append_toArray, List.nil_append, List.cons_append]
  have hcp := hc.p
  have hcs := hc.s
  have hcv := hc.v
  gi_wp2_with fail
  clear hcp hcs hcv
  gi_loopw [] (fun wr => ∃ (pre : List ByteArray) (rest : ByteArray) (k : Nat), rest.size ≤ k ∧ rest.size ≤ s0.size ∧ (splitK sep.data.toList s0.size s0.data.toList).map mkS = pre ++ (splitK sep.data.toList k rest.data.toList).map mkS ∧ Caps wr Bp Bs Bv sep rest ∧ J pre wr)
    (fun wr => restSize Bs wr)
  case atStart => exact ⟨[], s0, s0.size, Nat.le_refl _, Nat.le_refl _, rfl, hc, h0⟩
  case round =>
    obtain ⟨pre, rest, k, hk, hks, hx, hcr, hJs⟩ := hrel
    have hcp := hcr.p
    have hcs := hcr.s
    have hcv := hcr.v
    have hcf := hcr.f
    obtain ⟨m, hm⟩ := (hJS _ _ hJs).maxLen
    have hIdx := Tryd.strings_Index rest sep m wr (by omega) hm
    have hroom := Lib.index_room rest.data.toList sep.data.toList
    by_cases hi : Lib.index rest.data.toList sep.data.toList < 0
    · -- no more sep
      have hend : splitK sep.data.toList k rest.data.toList = [rest.data.toList] := by cases k with | zero => rfl | succ k => unfold splitK; rw [if_pos hi]
      have hx2 : (splitK sep.data.toList s0.size s0.data.toList).map mkS = pre ++ [rest] := by rw [hx, hend]; rfl
      obtain ⟨fn, tmps, assign, body, hy, hR⟩ := hY pre rest rest wr hJs hcr (by rw [hx2]; exact List.prefix_refl _)
      clear hx hend hroom
      generalize Lib.index rest.data.toList sep.data.toList = ix at *
      gi_wp2_with (refine ⟨trivial, ?_⟩; gi_at_call 57; refine (callsIn_wide.2 hIdx).mono ?_; rintro e w' ⟨rfl, rfl⟩)
      refine hR.mono ?_
      rintro e W3 (⟨rfl, hJ3, hk3⟩ | ⟨rfl, hJx3⟩)
      · gi_wp2
        go_end0
        exact ⟨⟨_, rfl⟩, .inl (by rw [hx2]; exact hJ3)⟩
      · gi_wp2
        go_end0
        exact ⟨⟨_, rfl⟩, .inr ⟨_, by rw [hx2]; exact List.prefix_refl _, hJx3⟩⟩
    · obtain ⟨i, hi'⟩ : ∃ i : Nat, Lib.index rest.data.toList sep.data.toList = i := ⟨(Lib.index rest.data.toList sep.data.toList).toNat, by omega⟩
      have hroom := hroom (by omega)
      have hst : ∃ k', k = k' + 1 := by
        cases k with
        | zero => exfalso; have : rest.data.toList.length = rest.size := rfl; have : sep.data.toList.length = sep.size := rfl; omega
        | succ k => exact ⟨k, rfl⟩
      obtain ⟨k', rfl⟩ := hst
      have hnext : splitK sep.data.toList (k' + 1) rest.data.toList = rest.data.toList.take i :: splitK sep.data.toList k' (rest.data.toList.drop (i + sep.data.toList.length)) := by
        conv => lhs; unfold splitK
        rw [if_neg hi, hi']; rfl
      rw [hi'] at hIdx hroom
      have hlen : sep.data.toList.length = 2 := hsep
      have hrl : rest.data.toList.length = rest.size := rfl
      rw [hlen] at hroom hnext
      have htk : mkS (rest.data.toList.take i) = rest.extract 0 i := by unfold mkS; apply ba_ext; rw [Lib.extract_data]; simp
      have hdr : (rest.extract (i + 2) rest.size).data.toList = rest.data.toList.drop (i + 2) := Lib.extract_to_end rest (i + 2)
      have hds : (rest.extract (i + 2) rest.size).size = rest.size - (i + 2) := by rw [ByteArray.size_extract]; omega
      have hx2 : (splitK sep.data.toList s0.size s0.data.toList).map mkS = (pre ++ [rest.extract 0 i]) ++ (splitK sep.data.toList k' (rest.extract (i + 2) rest.size).data.toList).map mkS := by rw [hx, hnext, hdr, List.map_cons, htk, List.append_assoc]; rfl
      obtain ⟨fn, tmps, assign, body, hy, hR⟩ := hY pre (rest.extract 0 i) rest wr hJs hcr (by rw [hx2]; exact List.prefix_append _ _)
      clear hx hnext hi htk hdr
      generalize Lib.index rest.data.toList sep.data.toList = ix at *
      subst hi'
      gi_wp2_with (refine ⟨trivial, ?_⟩; gi_at_call 57; refine (callsIn_wide.2 hIdx).mono ?_; rintro e w' ⟨rfl, rfl⟩)
      clear hIdx
      refine hR.mono ?_
      rintro e W3 (⟨rfl, hJ3, hk3⟩ | ⟨rfl, hJx3⟩)
      · have hcp3 := hk3.p
        have hcs3 := hk3.s
        have hcv3 := hk3.v
        have hcf3 := hk3.f
        gi_wp2
        go_roundw
        case rel =>
          refine ⟨pre ++ [rest.extract 0 i], rest.extract (i + 2) rest.size, k', by omega, by omega, hx2, ⟨?_, ?_, ?_, ?_⟩, hJc _ _ _ hJ3⟩
          · rw [cell_set_other _ _ _ _ hne.1]; exact hcp3
          · exact World.cell?_setCell_same' _ _ _ (by rw [hcs3]; rfl)
          · rw [cell_set_other _ _ _ _ hne.2]; exact hcv3
          · rw [World.frozen?_setCell]; exact hcf3
        case measure =>
          rw [restSize_eq (World.cell?_setCell_same' _ _ _ (by rw [hcs3]; rfl)), restSize_eq hcr.s]; omega
      · gi_wp2
        refine bodyPost_ret (results_none rfl _ _ _) rfl ?_
        exact ⟨⟨_, rfl⟩, .inr ⟨_, by rw [hx2]; exact List.prefix_append _ _, hJx3⟩⟩
end Go.Proofs.YtipbgnhhmgljnaaDoor.Split

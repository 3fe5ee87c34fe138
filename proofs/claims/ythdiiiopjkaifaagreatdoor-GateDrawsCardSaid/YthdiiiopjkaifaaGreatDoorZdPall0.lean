/-
'[]byte(s)': a new row that is read, told by its value.
-/
import Derived.Test.YthdiiiopjkaifaaGreatDoorZdExt
import Derived.Lib.SlBytesConst
import Derived.Test.YthdiiiopjkaifaaGreatDoorProg
import Derived.Below
import Derived.Deep.Draws
import Derived.Deep.AppendLies
import Derived.Maps.AppendAt
import Derived.OwnWalk
import Derived.Laws.BytesArg
import Derived.Laws.MakeOwn
import Derived.Laws.OwnMore
import Derived.Deep.OwnRows
import Derived.Tactics
import Derived.Lib.ConvBytes
import Derived.Laws.Slices
import Derived.WalkKit
import Derived.KernelRfl
import Derived.RowKit3
import Derived.Deep.LoopGhost
import Derived.Deep.QuietTactic
import Derived.BigQuiet
import Derived.WideLaws
import Derived.Deep.DeepCutAuto
import Derived.Deep.CutBlock
import Derived.Deep.RegionHeld3
import Derived.Laws.Rows
import Derived.Lib.AppendStr
import Derived.ArgAppend
import Derived.Laws.IdiomCopy
import Derived.OrdersHeld
import Derived.Laws.BitsLemmas
import Derived.RowKit
import Derived.Laws.StructEq
import Derived.Test.YthdiiiopjkaifaaGreatDoorZdWN
import Derived.Test.YthdiiiopjkaifaaGreatDoorZdWWords
import Derived.Test.YthdiiiopjkaifaaGreatDoorZdWMore
import Derived.Test.YthdiiiopjkaifaaGreatDoorZdWLast
import Derived.Test.YthdiiiopjkaifaaGreatDoorZdGateA
section
namespace Go.Proofs.YthdiiiopjkaifaaGreatDoor.Pall
open Go.RowKit Go.Proofs.YthdiiiopjkaifaaGreatDoorW.PrintWords Go.Proofs.YthdiiiopjkaifaaGreatDoorW.PrintLast
set_option linter.unusedVariables false
set_option linter.unusedSimpArgs false
theorem conv_V (w : World) (e base : Nat) (s : ByteArray) (hs : s.size ≤ 140737488351232) :
  Kd.V (Kd.int .u8) e (Lib.bytesWorld w e s) base (fun k_ => w.heap.size ≤ k_) (.slice (some ⟨w.heap.size, 0, none⟩) s.size (grownCap w s.size 0 e)) (btsOf s) := by
 refine ⟨_, _, by rw [btsOf_len], by rw [btsOf_len];exact grownCap_ge w s.size 0 e, ?_⟩
 intro W' hW
 have hb := hW w.heap.size (Nat.le_refl _) (by rw [Lib.bytesWorld_size];omega)
 refine Kd.C_of_reads (d := (0 : Int)) (h1 := fun _ => rfl) ⟨rfl, by rw [btsOf_len];omega, fun _ => ⟨_, rfl, fun i h' => ?_⟩⟩
 have h := Kd.reads_of_C (enc := Value.int .u8) (d := (0 : Int)) (h1 := fun _ => rfl) (conv_reads w e s hs)
 obtain ⟨ad, had, hc⟩ := h.2.2 (by omega)
 injection had with had
 subst had
 have hc := hc i h'
 refine Eq.trans (World.cell?_of_block ?_) hc
 rw [add_block]
 exact hb
section
variable {P : Program} {ops : Array Oper} {rest : List Oper} {o : Oper} {a : Act} {Q : Exit → Act → World → Prop}
theorem conv_own {W : World} (hgd : o.guard = none) {N : Tmp} (_hd : o.dst = some N) {ts td e : TypeId} {x : Operand} {u : TypeDesc} (s : ByteArray) (ho : o.op = .convert ts td x) (hx : a.eval x = .string s)
  (h1 : P.underlying ts = some u) (h2 : P.underlying td = some (.slice e)) (h3 : P.underlying e = some (.int .u8)) (hs : s.size ≤ 140737488351232)
  (h : ∀ (v1 : Value) (w1 : World), Kd.V (Kd.int .u8) e w1 W.heap.size (fun k_ => W.heap.size ≤ k_) v1 (btsOf s) → Below W.heap.size W w1 → wpList P ops Q rest (a.put o.dst v1) w1) : wpList P ops Q (o :: rest) a W := by
 refine Kd.event_run hgd (v := .slice (some ⟨W.heap.size, 0, none⟩) s.size (grownCap W s.size 0 e)) (w1 := Lib.bytesWorld W e s) ?_ (h _ _ (conv_V W e _ s hs) (below_bytes W e s))
 simp [execOp, ho, hx, Lib.run_convert_string_bytes W ts td e s h1 h2 h3]
variable {Kc : Act → World → Prop}
end
theorem clone_any (A : Option Addr) (c : Nat) (bs : List Int) (W : World) (B : Nat) (hC : Kd.C (Kd.int .u8) W A bs.length bs) (hn : bs.length ≤ 140737488351232) (hB : B ≤ W.heap.size) :
  Calls Tryz.prog 150 #[.slice A bs.length c] W fun e w' => ∃ v', e = .returned v' ∧ Kd.R (Kd.int .u8) 5 w' B (fun _ => True) v' bs ∧ Below W.heap.size W w' := by
 cases A with
 | none =>
  have hz : bs.length = 0 := by
   rcases Nat.eq_zero_or_pos bs.length with h|h
   ·exact h
   ·obtain ⟨ad, h1, _⟩ := Kd.at_int hC 0 (by omega) (by omega)
    cases h1
  obtain rfl := List.eq_nil_of_length_eq_zero hz
  refine (Tryz.bytes_Clone_nil 0 c W).mono ?_
  rintro e w' ⟨rfl, rfl⟩
  exact ⟨_, rfl, Kd.R_nil _ _ _ _ _, Below.refl _ _⟩
 | some a =>
  refine (Tryz.bytes_Clone_at a bs.length c bs W rfl (by omega) ?_).mono ?_
  ·intro i hi
   obtain ⟨ad, h1, h2⟩ := Kd.at_int hC i (by omega) (by omega)
   injection h1 with h1
   subst h1
   rw [Int.toNat_natCast] at h2
   exact h2
  ·rintro e w' ⟨v', rfl, ho, _, hb⟩
   exact ⟨_, rfl, Kd.R_lower (Kd.R_of_own ho (fun _ _ => trivial)) hB, hb⟩
end Go.Proofs.YthdiiiopjkaifaaGreatDoor.Pall
end
section
namespace Go.Proofs.YthdiiiopjkaifaaGreatDoor.Pall
open Go.RowKit Go.Proofs.YthdiiiopjkaifaaGreatDoorW.PrintWords Go.Proofs.YthdiiiopjkaifaaGreatDoorW.PrintLast
set_option linter.unusedVariables false
set_option linter.unusedSimpArgs false
def errW : Option Int → Value
 | none => .nilIface
 | some c => .iface 0 (.int .i64 c)
theorem errW_none : errW none = .nilIface := rfl
theorem errW_some (c : Int) : errW (some c) = .iface 0 (.int .i64 c) := rfl
theorem info5 : (Tryz.prog.info? 5).map (fun i => (i.zero, i.size, i.bytes)) = some (some (.int .u8 0), 1, 1) := by kernel_rfl
theorem info9 : (Tryz.prog.info? 9).map (fun i => (i.zero, i.size, i.bytes)) = some (some (.string ⟨#[]⟩), 1, 16) := by kernel_rfl
theorem info76 : (Tryz.prog.info? 76).map (fun i => (i.zero, i.size, i.bytes)) = some (some (.agg #[(.string ⟨#[]⟩), (.string ⟨#[]⟩)]), 2, 32) := by kernel_rfl
structure S76 where
 f0 : ByteArray
 f1 : ByteArray
def z76 : S76 := ⟨(⟨#[]⟩ : BA), (⟨#[]⟩ : BA)⟩
def k76 : Kd S76 := Kd.iso (Kd.pair Kd.string Kd.string) (fun x : S76 => (x.f0, x.f1))
theorem k76_open {w : World} {x : S76} {cs : List Value} (h : k76.K w x cs) : cs = [.string x.f0, .string x.f1] := by
 obtain ⟨_, _, rfl, rfl, rfl⟩ := h
 exact rfl
theorem k76_mkM (w : World) (base : Nat) (ok : Nat → Prop) (x : S76)  : k76.M w base ok x [.string x.f0, .string x.f1] := ⟨[.string x.f0], [.string x.f1], rfl, rfl, rfl⟩
def rd_T76 (xs : List S76) (i : Int) : S76 := xs.getD i.toNat z76
theorem at_T76 {w : World} {A : Option Addr} {n : Nat} {xs : List S76} (h : Kd.C k76 w A n xs) (i : Int) (h0 : 0 ≤ i) (h1 : i < n) : ∃ ad , A = some ad ∧ w.cell? (ad.add (i.toNat * 2)) = some (.string (rd_T76 xs i).f0) ∧ w.cell? ⟨(ad.add (i.toNat * 2)).block, (ad.add (i.toNat * 2)).off + 1, none⟩ = some (.string (rd_T76 xs i).f1) := by
 obtain ⟨ad, c, e, _, hK, hc0⟩ := Kd.C_get h z76 i h0 h1
 have hc : ∀ j u, c[j]? = some u → w.cell? (ad.add (i.toNat * 2 + j)) = some u := hc0
 obtain rfl := k76_open hK
 exact ⟨ad, e, hc 0 _ rfl, by rw [← add_field _ _ 1 (by omega)];exact hc 1 _ rfl⟩
end Go.Proofs.YthdiiiopjkaifaaGreatDoor.Pall
end

/-
  A map that a literal makes: its entries, laid one behind the other; a look into it.
-/
import Derived.Test.YtpfbemcoblganaaDoorQbExt
import Derived.MapFrom
import Derived.Carry
namespace Go.Proofs.YtpfbemcoblganaaDoor.Pl
open Go.RowKit
open Go.MapKept (IsKey)
set_option linter.unusedVariables false
set_option linter.unusedSimpArgs false
theorem setBlock_new (w : World) (o o' : Obj) : ({ w.alloc o with heap := (w.alloc o).heap.setIfInBounds w.heap.size o' } : World) = w.alloc o' := by
  have h : ∀ (a : Array Obj) (x y : Obj), (a.push x).setIfInBounds a.size y = a.push y := by
    intro a x y
    apply Array.ext'
    rw [Array.toList_setIfInBounds, Array.toList_push, Array.toList_push, List.set_append_right _ _ (by simp)]
    simp
  show ({ w.alloc o with heap := (w.heap.push o).setIfInBounds w.heap.size o' } : World) = _
  rw [h]
  rfl
/-- one entry more, of a key that is not there -/
theorem insert_new {P : Program} {t k e : TypeId} {kd : TypeDesc} (w : World) (es : List MapEntry) (clock : Nat) (key v : Value) (ht : P.underlying t = some (.map k e)) (hk : P.underlying k = some kd) (hik : IsKey kd key) (hf : Instr.findNow kd key es 0 = some none) :
    (Instr.mapUpdate t (.map (some w.heap.size)) key v).run P (w.alloc (.map es.toArray clock)) = .ok () (w.alloc (.map (es ++ [(⟨key, v, clock⟩ : MapEntry)]).toArray (clock + 1))) := by
  have hb : (w.alloc (.map es.toArray clock)).heap[w.heap.size]? = some (.map es.toArray clock) := by show (w.heap.push _)[w.heap.size]? = _; simp
  have h1 : Instr.findNow kd key es.toArray.toList 0 = some none := hf
  simp [Instr.mapUpdate, run_underlying ht, MapKept.run_getObj_map hb, MapKept.run_checkKey hk hik, MapKept.run_findKey hk h1, MapKept.run_setObj_map _ hb, Result.andThen]
  exact setBlock_new w _ _
theorem look_in {P : Program} {t k e : TypeId} {kd : TypeDesc} {W : World} {r clock : Nat} {es : List MapEntry} (key z : Value) (ok : Bool) (res : Option (Nat × Value)) (ht : P.underlying t = some (.map k e)) (hk : P.underlying k = some kd) (hb : W.heap[r]? = some (.map es.toArray clock)) (hik : IsKey kd key)
    (hf : Instr.findNow kd key es 0 = some res) (hz : (zeroValue e).run P W = .ok z W) :
    (Instr.lookup t (.map (some r)) key ok).run P W = .ok (if ok then .tuple #[(res.map (·.2)).getD z, .bool res.isSome] else (res.map (·.2)).getD z) W := by
  have h1 : Instr.findNow kd key es.toArray.toList 0 = some res := hf
  cases res with
  | none => simp [Instr.lookup, run_underlying ht, MapKept.run_getObj_map hb, MapKept.run_checkKey hk hik, MapKept.run_findKey hk h1, hz, Result.andThen]
  | some p => simp [Instr.lookup, run_underlying ht, MapKept.run_getObj_map hb, MapKept.run_checkKey hk hik, MapKept.run_findKey hk h1, hz, Result.andThen]
end Go.Proofs.YtpfbemcoblganaaDoor.Pl

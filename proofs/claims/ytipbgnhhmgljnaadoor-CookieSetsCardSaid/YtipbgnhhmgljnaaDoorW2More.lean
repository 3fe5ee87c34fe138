/-
  Small words of the printed walks: looks ahead of a step; the greater and the smaller of numbers.
-/
import Derived.Test.YtipbgnhhmgljnaaDoorWWords
import Derived.Test.YtipbgnhhmgljnaaDoorWLast
namespace Go.Proofs.YtipbgnhhmgljnaaDoorW.PrintWords
open Go.RowKit
section
variable {P : Program} {ops : Array Oper} {rest : List Oper} {o : Oper} {a : Act} {Q : Exit → Act → World → Prop} {W : World}
theorem gate_callee {f : FuncId} {as : Array Operand} {ts : Array TypeId} (_h : o.op = .call { callee := .value (.func f), args := as, argTypes := ts }) (k : wpList P ops Q (o :: rest) a W) : wpList P ops Q (o :: rest) a W := k
theorem gate_builtin {b : Builtin} {xs : Array Operand} {ts : Array TypeId} (_h : o.op = .call { callee := .builtin b, args := xs, argTypes := ts }) (k : wpList P ops Q (o :: rest) a W) : wpList P ops Q (o :: rest) a W := k
end
theorem drewN_self (w : World) (n : Nat) : w.drewN n = w.drewN n := rfl
theorem max2_int (k k' : IntKind) (x y : Int) : Builtin.max2 (.int k x) (.int k' y) = pure (.int k (if x < y then y else x)) := by simp only [Builtin.max2, gt_iff_lt]
theorem min2_int (k k' : IntKind) (x y : Int) : Builtin.min2 (.int k x) (.int k' y) = pure (.int k (if y < x then y else x)) := by simp only [Builtin.min2]
theorem max_two (ts : Array TypeId) (t : TypeId) (a b : Value) : Builtin.max_ ts t #[a, b] = (Builtin.max2 a b >>= fun s => pure s) := by simp only [Builtin.max_, List.foldlM_cons, List.foldlM_nil]
theorem min_two (ts : Array TypeId) (t : TypeId) (a b : Value) : Builtin.min_ ts t #[a, b] = (Builtin.min2 a b >>= fun s => pure s) := by simp only [Builtin.min_, List.foldlM_cons, List.foldlM_nil]
end Go.Proofs.YtipbgnhhmgljnaaDoorW.PrintWords
namespace Go.Proofs.YtipbgnhhmgljnaaDoorW.PrintMore
end Go.Proofs.YtipbgnhhmgljnaaDoorW.PrintMore

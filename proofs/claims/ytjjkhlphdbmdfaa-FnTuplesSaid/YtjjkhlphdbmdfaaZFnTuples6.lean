/-
What a call of math.Float64bits and of math.Float64frombits gives: the float's bits, the float with these bits.
Conditions: none.
-/
import Derived.Test.YtjjkhlphdbmdfaaZFnTuples5
import Derived.Test.YtjjkhlphdbmdfaaProg
import Derived.Laws.Externs
import Derived.KernelRfl
namespace Go.Proofs.YtjjkhlphdbmdfaaW.PrintWords
theorem ext_bits (b : Nat) (w : World) : (callFunc 63 #[.float .f64 b]).run Try.prog w = .ok (.value (.int .u64 b)) w := by
  rw [run_callFunc_extern (e := Extern.MathFloatBits.float64bits) Try.func63 (by kernel_rfl) (by kernel_rfl) (by kernel_rfl) (by kernel_rfl)]
  rfl
theorem ext_from (n : Int) (w : World) : (callFunc 84 #[.int .u64 n]).run Try.prog w = .ok (.value (.float .f64 n.toNat)) w := by
  rw [run_callFunc_extern (e := Extern.MathFloatBits.float64frombits) Try.func84 (by kernel_rfl) (by kernel_rfl) (by kernel_rfl) (by kernel_rfl)]
  rfl
end Go.Proofs.YtjjkhlphdbmdfaaW.PrintWords

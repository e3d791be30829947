/-
What a call of math.Float64bits and of math.Float64frombits gives: the float's bits, the float with these bits.
Conditions: none.
-/
import Derived.Test.YtcjeokkhpjppaaaZFnSpans5
import Derived.Test.YtcjeokkhpjppaaaProg
import Derived.Laws.Externs
import Derived.KernelRfl
namespace Go.Proofs.YtcjeokkhpjppaaaW.PrintWords
theorem ext_bits (b : Nat) (w : World) : (callFunc 48 #[.float .f64 b]).run Try.prog w = .ok (.value (.int .u64 b)) w := by
  rw [run_callFunc_extern (e := Extern.MathFloatBits.float64bits) Try.func48 (by kernel_rfl) (by kernel_rfl) (by kernel_rfl) (by kernel_rfl)]
  rfl
end Go.Proofs.YtcjeokkhpjppaaaW.PrintWords

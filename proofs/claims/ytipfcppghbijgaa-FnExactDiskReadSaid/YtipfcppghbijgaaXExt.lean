/-
What a call of math.Float64bits and of math.Float64frombits gives: the float's bits, the float with these bits.
Conditions: none.
-/
import Derived.Test.YtipfcppghbijgaaXFlt
import Derived.Test.YtipfcppghbijgaaProg
import Derived.Laws.Externs
import Derived.KernelRfl
namespace Go.Proofs.YtipfcppghbijgaaW.PrintWords
theorem ext_bits (b : Nat) (w : World) : (callFunc 55 #[.float .f64 b]).run Try.prog w = .ok (.value (.int .u64 b)) w := by
  rw [run_callFunc_extern (e := Extern.MathFloatBits.float64bits) Try.func55 (by kernel_rfl) (by kernel_rfl) (by kernel_rfl) (by kernel_rfl)]
  rfl
end Go.Proofs.YtipfcppghbijgaaW.PrintWords

/-
Floats by their bits: comparisons, arithmetic that is not a NaN's, conversions, as plain functions, and the walk's rules for them; the kind of a cell that holds a float.
Conditions: an arithmetic rule asks that the operation is valid (no NaN comes of it).
-/
import Derived.Test.YtokpniagnbaflaaZFnPages4
import Derived.Laws.FloatArith
namespace Go.Proofs.YtokpniagnbaflaaW.PrintWords
def feq(a b:Nat):Bool:=FloatKind.f64.format.order a b == some .eq
def fls(a b:Nat):Bool:=FloatKind.f64.format.order a b == some .lt
def fgt(a b:Nat):Bool:=FloatKind.f64.format.order a b == some .gt
def fle(a b:Nat):Bool:=FloatKind.f64.format.order a b == some .lt || FloatKind.f64.format.order a b == some .eq
def fge(a b:Nat):Bool:=FloatKind.f64.format.order a b == some .gt || FloatKind.f64.format.order a b == some .eq
def fneg(a:Nat):Nat:=Op.negFloat .f64 a
def fok(o:BinOp)(a b:Nat):Bool:=(floatBits o .f64 a b).isSome
def fval(o:BinOp)(a b:Nat):Nat:=(floatBits o .f64 a b).getD 0
def fofi(n:Int):Nat:=floatOfInt .f64 n
def fiok(k:IntKind)(a:Nat):Bool:=(floatToIntVal .f64 a k).isSome
def fival(k:IntKind)(a:Nat):Int:=(floatToIntVal .f64 a k).getD 0
theorem fl_eql(t:TypeId)(a b:Nat):binOp .eql t (.float .f64 a) (.float .f64 b)=pure (.bool (feq a b)):=binOp_float_cmp_eql t .f64 a b
theorem fl_neq(t:TypeId)(a b:Nat):binOp .neq t (.float .f64 a) (.float .f64 b)=pure (.bool (!feq a b)):=binOp_float_cmp_neq t .f64 a b
theorem fl_lss(t:TypeId)(a b:Nat):binOp .lss t (.float .f64 a) (.float .f64 b)=pure (.bool (fls a b)):=binOp_float_cmp_lss t .f64 a b
theorem fl_leq(t:TypeId)(a b:Nat):binOp .leq t (.float .f64 a) (.float .f64 b)=pure (.bool (fle a b)):=binOp_float_cmp_leq t .f64 a b
theorem fl_gtr(t:TypeId)(a b:Nat):binOp .gtr t (.float .f64 a) (.float .f64 b)=pure (.bool (fgt a b)):=binOp_float_cmp_gtr t .f64 a b
theorem fl_geq(t:TypeId)(a b:Nat):binOp .geq t (.float .f64 a) (.float .f64 b)=pure (.bool (fge a b)):=binOp_float_cmp_geq t .f64 a b
theorem fl_arith{P:Program}{w:World}(o:BinOp)(t:TypeId)(a b:Nat)(h:fok o a b=true):(binOp o t (.float .f64 a) (.float .f64 b)).run P w = .ok (.float .f64 (fval o a b)) w:=by
  obtain⟨r,hr⟩:=Option.isSome_iff_exists.1 h
  rw[run_float_arith w o t .f64 a b r hr]
  simp[fval,hr]
theorem fl_add{P:Program}{w:World}(t:TypeId)(a b:Nat)(h:fok .add a b=true):(binOp .add t (.float .f64 a) (.float .f64 b)).run P w = .ok (.float .f64 (fval .add a b)) w:=fl_arith .add t a b h
theorem fl_sub{P:Program}{w:World}(t:TypeId)(a b:Nat)(h:fok .sub a b=true):(binOp .sub t (.float .f64 a) (.float .f64 b)).run P w = .ok (.float .f64 (fval .sub a b)) w:=fl_arith .sub t a b h
theorem fl_mul{P:Program}{w:World}(t:TypeId)(a b:Nat)(h:fok .mul a b=true):(binOp .mul t (.float .f64 a) (.float .f64 b)).run P w = .ok (.float .f64 (fval .mul a b)) w:=fl_arith .mul t a b h
theorem fl_quo{P:Program}{w:World}(t:TypeId)(a b:Nat)(h:fok .quo a b=true):(binOp .quo t (.float .f64 a) (.float .f64 b)).run P w = .ok (.float .f64 (fval .quo a b)) w:=fl_arith .quo t a b h
theorem fl_neg(b:Nat):Op.unary .neg (.float .f64 b)=pure (.float .f64 (fneg b)):=rfl
def subSign(a:Int):Int:=IntKind.u64.wrap (a - 9223372036854775808)
theorem sub_sign(t:TypeId)(a:Int):binOp .sub t (.int .u64 a) (.int .u64 9223372036854775808)=pure (.int .u64 (subSign a)):=by
  rw[binOp_sub]
  rfl
theorem fl_ofInt{P:Program}{w:World}(src dst:TypeId)(q:IntKind)(n:Int)(hs:(P.underlying src).isSome=true)(hd:P.underlying dst=some (.float .f64)) :
    (convert src dst (.int q n)).run P w = .ok (.float .f64 (fofi n)) w:=run_convert_int_float w src dst q .f64 n hs hd
theorem fl_toInt{P:Program}{w:World}(src dst:TypeId)(k:IntKind)(b:Nat)(hs:(P.underlying src).isSome=true)(hd:P.underlying dst=some (.int k))(h:fiok k b=true) :
    (convert src dst (.float .f64 b)).run P w = .ok (.int k (fival k b)) w:=by
  obtain⟨r,hr⟩:=Option.isSome_iff_exists.1 h
  rw[run_convert_float_int w src dst .f64 k b r hs hd hr]
  simp[fival,hr]
theorem fl_store(P:Program)(w:World)(a:Addr)(m:Mode)(k:FloatKind)(b:Nat):(store a (.float k b) m).run P w=stored P w a (.float k b) m:=run_store P w a _ m rfl
namespace Kd
end Kd
end Go.Proofs.YtokpniagnbaflaaW.PrintWords

/-
Floats of which no number is known: what a quotient, a sum, a difference, a product comes to where it is no number.
Conditions: each theorem names its own (the operation gives none).
-/
import Derived.Test.YtokpniagnbaflaaZFnPages5
set_option linter.unusedVariables false
namespace Go.Proofs.YtokpniagnbaflaaW.PrintWords
open Go.RowKit
def nanR(r:Nat):Prop:=∃a b q,r=(Question.nanBits .f64 a b).cut q
theorem nanR_of(a b q:Nat):nanR ((Question.nanBits .f64 a b).cut q):=⟨a,b,q,rfl⟩
theorem fl_nan_quo{P:Program}{w:World}(t:TypeId)(a b:Nat)(h:fok .quo a b=false):(binOp .quo t (.float .f64 a) (.float .f64 b)).run P w = .ok (.float .f64 ((Question.nanBits .f64 a b).cut (w.tape w.drawn (.nanBits .f64 a b)))) w.drew:=by
  have e:FloatKind.f64.format.div a b=none:=Option.isSome_eq_false_iff.1 (show (FloatKind.f64.format.div a b).isSome=false from h) |> Option.isNone_iff_eq_none.1
  show Sem.run P (Op.floatArith .quo .f64 a b) w=_
  unfold Op.floatArith
  simp[e,choose,Sem.run,Question.forced]
theorem fl_nan_add{P:Program}{w:World}(t:TypeId)(a b:Nat)(h:fok .add a b=false):(binOp .add t (.float .f64 a) (.float .f64 b)).run P w = .ok (.float .f64 ((Question.nanBits .f64 a b).cut (w.tape w.drawn (.nanBits .f64 a b)))) w.drew:=by
  have e:FloatKind.f64.format.add a b=none:=Option.isSome_eq_false_iff.1 (show (FloatKind.f64.format.add a b).isSome=false from h) |> Option.isNone_iff_eq_none.1
  show Sem.run P (Op.floatArith .add .f64 a b) w=_
  unfold Op.floatArith
  simp[e,choose,Sem.run,Question.forced]
theorem fl_nan_mul{P:Program}{w:World}(t:TypeId)(a b:Nat)(h:fok .mul a b=false):(binOp .mul t (.float .f64 a) (.float .f64 b)).run P w = .ok (.float .f64 ((Question.nanBits .f64 a b).cut (w.tape w.drawn (.nanBits .f64 a b)))) w.drew:=by
  have e:FloatKind.f64.format.mul a b=none:=Option.isSome_eq_false_iff.1 (show (FloatKind.f64.format.mul a b).isSome=false from h) |> Option.isNone_iff_eq_none.1
  show Sem.run P (Op.floatArith .mul .f64 a b) w=_
  unfold Op.floatArith
  simp[e,choose,Sem.run,Question.forced]
theorem fl_nan_sub{P:Program}{w:World}(t:TypeId)(a b:Nat)(h:fok .sub a b=false):(binOp .sub t (.float .f64 a) (.float .f64 b)).run P w = .ok (.float .f64 ((Question.nanBits .f64 a b).cut (w.tape w.drawn (.nanBits .f64 a b)))) w.drew:=by
  have e:FloatKind.f64.format.sub a b=none:=Option.isSome_eq_false_iff.1 (show (FloatKind.f64.format.sub a b).isSome=false from h) |> Option.isNone_iff_eq_none.1
  show Sem.run P (Op.floatArith .sub .f64 a b) w=_
  unfold Op.floatArith
  simp[e,choose,Sem.run,Question.forced]
end Go.Proofs.YtokpniagnbaflaaW.PrintWords

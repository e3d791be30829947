/-
All that is no number is one: a float's word with what is no number told by one word.
Conditions: none beyond those that each theorem names.
-/
import Derived.Test.YtokpniagnbaflaaZFnPages17
import Derived.Test.YtokpniagnbaflaaZFnPages18
set_option linter.unusedVariables false
namespace Go.Proofs.YtokpniagnbaflaaW.PrintWords
open Go.RowKit Go.Proofs.YtokpniagnbaflaaX
def nanw(b:Nat):Prop:=b<2^64∧isn b=true
instance(b : Nat) : Decidable (nanw b) := inferInstanceAs (Decidable (_ ∧ _))
def cn(b:Nat):Nat:=if nanw b then 9221120237041090560 else b
theorem nanw_one:nanw 9221120237041090560:=⟨by decide,by decide⟩
theorem cn_nan{b:Nat}(h:nanw b):cn b=9221120237041090560:=if_pos h
theorem cn_num{b:Nat}(h:¬nanw b):cn b=b:=if_neg h
theorem cn_nanw{b:Nat}(h:nanw b):nanw (cn b):=by rw[cn_nan h];exact nanw_one
theorem cn_lt{b:Nat}(h:b<2^64):cn b<2^64:=by
  by_cases hb:nanw b
  · rw[cn_nan hb];decide
  · rw[cn_num hb];exact h
theorem order_cn_l(a b:Nat):FloatKind.f64.format.order (cn a) b=FloatKind.f64.format.order a b:=by
  by_cases h:nanw a
  · rw[show FloatKind.f64.format.order a b=none from order_nan a b (Or.inl h),show FloatKind.f64.format.order (cn a) b=none from order_nan _ b (Or.inl (cn_nanw h))]
  · rw[cn_num h]
theorem order_cn_r(a b:Nat):FloatKind.f64.format.order a (cn b)=FloatKind.f64.format.order a b:=by
  by_cases h:nanw b
  · rw[show FloatKind.f64.format.order a b=none from order_nan a b (Or.inr h),show FloatKind.f64.format.order a (cn b)=none from order_nan a _ (Or.inr (cn_nanw h))]
  · rw[cn_num h]
theorem feq_cn_l(a b:Nat):feq (cn a) b=feq a b:=by unfold feq;rw[order_cn_l]
theorem feq_cn_r(a b:Nat):feq a (cn b)=feq a b:=by unfold feq;rw[order_cn_r]
theorem fls_cn_l(a b:Nat):fls (cn a) b=fls a b:=by unfold fls;rw[order_cn_l]
theorem fls_cn_r(a b:Nat):fls a (cn b)=fls a b:=by unfold fls;rw[order_cn_r]
theorem fgt_cn_l(a b:Nat):fgt (cn a) b=fgt a b:=by unfold fgt;rw[order_cn_l]
theorem fgt_cn_r(a b:Nat):fgt a (cn b)=fgt a b:=by unfold fgt;rw[order_cn_r]
theorem fle_cn_l(a b:Nat):fle (cn a) b=fle a b:=by unfold fle;rw[order_cn_l]
theorem fle_cn_r(a b:Nat):fle a (cn b)=fle a b:=by unfold fle;rw[order_cn_r]
theorem fge_cn_l(a b:Nat):fge (cn a) b=fge a b:=by unfold fge;rw[order_cn_l]
theorem fge_cn_r(a b:Nat):fge a (cn b)=fge a b:=by unfold fge;rw[order_cn_r]
theorem cn_zero(b:Nat):(cn b=0)=(b=0):=by
  by_cases h:nanw b
  · rw[cn_nan h]
    refine propext ⟨fun h2=>absurd h2 (by decide),fun h2=>?_⟩
    subst h2
    exact absurd h.2 (by decide)
  · rw[cn_num h]
theorem fquo_lt{a b:Nat}(h:fok .quo a b=true):fval .quo a b<2^64:=by
  obtain⟨r,hr⟩:=Option.isSome_iff_exists.1 h
  have e:fval .quo a b=r:=by
    unfold fval
    rw[hr]
    rfl
  rw[e]
  exact Ieee.double.div_lt hr
theorem cn_zeroI(b:Nat):(((cn b:Nat):Int)=0)=(((b:Nat):Int)=0):=by
  have h:=cn_zero b
  rw[propext (Int.natCast_eq_zero (n:=cn b)),propext (Int.natCast_eq_zero (n:=b))]
  exact h
theorem feq_nan_l{a:Nat}(h:nanw a)(b:Nat):feq a b=false:=by unfold feq;rw[show FloatKind.f64.format.order a b=none from order_nan a b (Or.inl h)];rfl
theorem nanR_is(r:Nat)(h:nanR r):isn r=true∧r<2^64:=by
  obtain⟨a,b,q,rfl⟩:=h
  have:(Question.nanBits .f64 a b).cut q=(q % 2)*2^63+0x7ff0000000000000+1+(q / 2) % (2^52 - 1):=rfl
  rw[this]
  have h3:=Nat.mod_lt (q / 2) (show 0<2^52 - 1 by decide)
  have h4:=Nat.mod_lt q (show 0<2 by decide)
  generalize q / 2 % (2^52 - 1)=x at *
  generalize q % 2=y at *
  unfold isn
  constructor
  · refine decide_eq_true ?_
    omega
  · omega
theorem nanR_nanw(r:Nat)(h:nanR r):nanw r:=by
  obtain⟨q1,q2⟩:=nanR_is r h
  exact⟨q2,q1⟩
end Go.Proofs.YtokpniagnbaflaaW.PrintWords

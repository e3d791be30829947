/-
The law FnPages answers true: what is put into a drawn page stands there, what is cleared does not, all else stays; the page comes back from its bytes.
Conditions: none beyond the bounds of the statement itself.
-/
import Derived.Test.YtokpniagnbaflaaZFnPages47
import Derived.Test.YtokpniagnbaflaaZFnPages48
set_option linter.unusedVariables false
set_option linter.unusedSimpArgs false
namespace Go.Proofs.Ytokpniagnbaflaa.Pure.ofFnPages
open Go.Proofs.YtokpniagnbaflaaX
open Go.RowKit Go.Proofs.Ytokpniagnbaflaa.PFnPages Go.Proofs.YtokpniagnbaflaaW.PrintWords Go.Proofs.YtokpniagnbaflaaW.PrintLast Go.Proofs.YtokpniagnbaflaaW.PrintMore
theorem ev_pos{α:Type}{c:Prop}[Decidable c]{A B:Nat→Option α}{r:α}(hc:c)(h:Ev A r):Ev (fun k=>if c then A k else B k) r:=by
  refine Ev.congr (fun k=>?_) h;rw[if_pos hc]
theorem ev_neg{α:Type}{c:Prop}[Decidable c]{A B:Nat→Option α}{r:α}(hc:¬c)(h:Ev B r):Ev (fun k=>if c then A k else B k) r:=by
  refine Ev.congr (fun k=>?_) h;rw[if_neg hc]
theorem ev_bind0{α β:Type}{g:Option α}{f:Nat→α→Option β}{a:α}{r:β}(h:g=some a)(k:Ev (fun n=>f n a) r):Ev (fun n=>g.bind (f n)) r:=by
  refine Ev.congr (fun n=>?_) k;rw[h];rfl
theorem w64{x:Int}(h0:-9223372036854775808≤x)(h1:x≤9223372036854775807):wrap64 x=x:=by
  unfold wrap64;omega
theorem rd_nat(l:List Int)(i:Nat)(h:i<l.length):rd l (i:Int)=l[i]:=by
  simp[rd,List.getD_eq_getElem?_getD,List.getElem?_eq_getElem h]
theorem u64_or_add(i:Nat){x y:Int}(hx0:0≤x)(hx:x % 2^i=0)(hx1:x<18446744073709551616)(hy0:0≤y)(hy:y<2^i)(hy1:y<18446744073709551616):Go.bits .or .u64 x y=x+y :=
  bits_join .u64 64 Z33 (fun n a b=>by simp[IntKind.wrap,IntKind.bits,IntKind.signed];omega) i x y hx0 hx hx1 hy0 hy hy1
theorem fival_u64(a:Nat)(n:Int)(h:(Ieee.double.read a).toInt .zero=some n)(h0:0≤n)(h1:n<18446744073709551616):fiok .u64 a=true∧fival .u64 a=n:=by
  have e:floatToIntVal .f64 a .u64=some n:=by
    unfold floatToIntVal;have:FloatKind.decode .f64 a=Ieee.double.read a:=rfl;rw[this,h];(have e1:IntKind.u64.min=0:=by rfl);(have e2:IntKind.u64.max=18446744073709551615:=by rfl);exact if_pos ⟨by omega,by omega⟩
  unfold fiok fival;rw[e];exact⟨rfl,rfl⟩
theorem fls_nat(a b:Nat)(ha:a≤9218868437227405312)(hb:b≤9218868437227405312):fls a b=decide (a<b):=by
  rw[fls_key a b Z8 Z8 (isn_pos a ha) (isn_pos b hb),fkey_pos a Z8,fkey_pos b Z8];exact decide_eq_decide.2 Z8
theorem fge_nat(a b:Nat)(ha:a≤9218868437227405312)(hb:b≤9218868437227405312):fge a b=decide (b≤a):=by
  rw[fge_key a b Z8 Z8 (isn_pos a ha) (isn_pos b hb),fkey_pos a Z8,fkey_pos b Z8];exact decide_eq_decide.2 Z8
theorem fgt_nat(a b:Nat)(ha:a≤9218868437227405312)(hb:b≤9218868437227405312):fgt a b=decide (b<a):=by
  rw[fgt_key a b Z8 Z8 (isn_pos a ha) (isn_pos b hb),fkey_pos a Z8,fkey_pos b Z8];exact decide_eq_decide.2 Z8
theorem feq_nat(a b:Nat)(ha:a≤9218868437227405312)(hb:b≤9218868437227405312):feq a b=decide (a=b):=by
  rw[feq_key a b Z8 Z8 (isn_pos a ha) (isn_pos b hb),fkey_pos a Z8,fkey_pos b Z8];exact decide_eq_decide.2 Z8
theorem lt_one(N:Nat)(q:Int)(h:0<N)(h2:N<2^53)(hq:-1074≤q)(hv:q+N.log2≤1023):fls (fl N q) 4607182418800017408=decide (q+N.log2<0):=by
  rw[fls_nat _ _ (fl_lt N q h h2 hq).2 Z8];have:=fl_below N q h h2 hq hv 1022 Z8;exact decide_eq_decide.2 Z8
theorem ge_two(N:Nat)(q:Int)(h:0<N)(h2:N<2^53)(hq:-1074≤q)(hv:q+N.log2≤1023):fge (fl N q) 4611686018427387904=decide (1≤q+N.log2):=by
  rw[fge_nat _ _ (fl_lt N q h h2 hq).2 Z8];have:=fl_below N q h h2 hq hv 1023 Z8;exact decide_eq_decide.2 Z8
theorem bits_unit(S:Int)(hS:S=0∨S=9223372036854775808)(N:Nat)(q:Int)(h:0<N)(h2:N<2^53)(hq:-1074≤q)(hv:q+N.log2≤1023)(E:Int)(hE:-1022≤E)(hE2:q+N.log2=E):Ev (fun k=>spec_FloatBits.l1 k S (fl N (q - E)) E) (S+(fl N q:Nat)):=by
  have hlog:=log2_le N h h2;have hfin:=fl_finite N q h h2 hq hv;have hself:2^N.log2≤N:=Nat.log2_self_le Z8;have hup:N<2^(N.log2+1):=Nat.lt_log2_self;(have hL:lastOf N q=E - 52:=by unfold lastOf;omega);rw[hL]at hfin;have hsub:=sub_one N h h2;rw[show q - E = -(N.log2:Int) by omega];refine Ev.step (fun k=>by rw[spec_FloatBits.l1,if_neg (by rw[lt_one N _ h h2 Z8 Z8,decide_eq_false Z8];exact Bool.false_ne_true)]) ?_;have hs:=fl_ok (o := .sub) hsub;refine ev_pos hs.1 ?_;rw[hs.2]
  have key:fok .mul (if N=2^N.log2 then 0 else fl (N - 2^N.log2) (-(N.log2:Int))) 4841369599423283200=true∧fiok .u64 (fval .mul (if N=2^N.log2 then 0 else fl (N - 2^N.log2) (-(N.log2:Int))) 4841369599423283200)=true∧fival .u64 (fval .mul (if N=2^N.log2 then 0 else fl (N - 2^N.log2) (-(N.log2:Int))) 4841369599423283200)=((N - 2^N.log2)*2^(52 - N.log2):Nat):=by
    have hb:(N - 2^N.log2)*2^(52 - N.log2)<4503599627370496:=by
      (have h3:N - 2^N.log2<2^N.log2:=by rw[Nat.pow_succ]at hup;omega);have h4:(N - 2^N.log2)*2^(52 - N.log2)<2^N.log2*2^(52 - N.log2):=Nat.mul_lt_mul_of_pos_right h3 (Nat.two_pow_pos _);rw[← Nat.pow_add,show N.log2+(52 - N.log2)=52 by omega]at h4;exact h4
    by_cases hz:N=2^N.log2
    · rw[if_pos hz,show N - 2^N.log2=0 by omega,Nat.zero_mul]
      have hm:=fl_ok (o := .mul) (a:=0) (b:=4841369599423283200) (r:=0) (by
        show Ieee.double.mul 0 4841369599423283200=some 0;unfold Ieee.Format.mul;rw[read_zero,read_wide];show some (Ieee.double.write (.number false (0*4503599627370496) _))=_
        rw[Nat.zero_mul,write_zero,word_false])
      rw[hm.2];exact⟨hm.1,fival_u64 0 0 toInt_zero Z8 Z8⟩
    · rw[if_neg hz];have hlt:N - 2^N.log2<2^53:=Nat.lt_of_le_of_lt (Nat.sub_le _ _) h2;have hlog':=log2_le (N - 2^N.log2) Z8 hlt;have hm:=fl_ok (o := .mul) (mul_pow (N - 2^N.log2) (-(N.log2:Int)) 4841369599423283200 0 Z8 hlt Z8 Z8 read_wide Z8);rw[hm.2,show -(N.log2:Int)+0+52=((52 - N.log2:Nat):Int) by omega];exact⟨hm.1,fival_u64 _ _ (toInt_fl (N - 2^N.log2) (52 - N.log2) Z8 hlt Z8) Z8 Z8⟩
  refine ev_pos key.1 ?_;refine ev_pos key.2.1 ?_;rw[key.2.2,hfin.1]
  have hmul:N*2^(52 - N.log2)=(N - 2^N.log2)*2^(52 - N.log2)+4503599627370496:=by
    (have h1:(4503599627370496:Nat)=2^N.log2*2^(52 - N.log2):=by rw[← Nat.pow_add,show N.log2+(52 - N.log2)=52 by omega]);rw[h1,← Nat.add_mul,show N - 2^N.log2+2^N.log2=N by omega]
  have hb:(N - 2^N.log2)*2^(52 - N.log2)<4503599627370496:=by
    (have h3:N - 2^N.log2<2^N.log2:=by rw[Nat.pow_succ]at hup;omega);have h4:(N - 2^N.log2)*2^(52 - N.log2)<2^N.log2*2^(52 - N.log2):=Nat.mul_lt_mul_of_pos_right h3 (Nat.two_pow_pos _);rw[← Nat.pow_add,show N.log2+(52 - N.log2)=52 by omega]at h4;exact h4
  rw[show (q - (E - 52)).toNat=52 - N.log2 by omega,hmul];generalize (N - 2^N.log2)*2^(52 - N.log2)=F at hb;rw[w64 Z8 Z8];(have e1:IntKind.u64.wrap (E+1023)=E+1023:=by simp[IntKind.wrap,IntKind.bits,IntKind.signed];omega);(have e2:IntKind.u64.wrap ((E+1023)*4503599627370496)=(E+1023)*4503599627370496:=by simp[IntKind.wrap,IntKind.bits,IntKind.signed];omega);rw[e1,e2,u64_or_add 63 (x:=S) (y:=(E+1023)*4503599627370496) Z8 (by rcases hS with rfl|rfl <;> rfl) Z8 Z8 (show _<(9223372036854775808:Int) by omega) Z8];rw[u64_or_add 52 Z8 (show _ % (4503599627370496:Int)=0 by omega) Z8 Z8 (show _<(4503599627370496:Int) by omega) Z8];(have e3:S+(E+1023)*4503599627370496+(F:Int)=S+(((E - 52+1074).toNat*4503599627370496+(F+4503599627370496):Nat):Int):=by omega);rw[e3];exact Ev.now _
theorem bits_l1(S:Int)(hS:S=0∨S=9223372036854775808)(N:Nat)(q:Int)(h:0<N)(h2:N<2^53)(hq:-1074≤q)(hv:q+N.log2≤1023):∀(n:Nat) (E:Int),E≤1023→-1022≤E→q+N.log2≤E→-1074≤q - E→(n:Int)=E+1022→Ev (fun k=>spec_FloatBits.l1 k S (fl N (q - E)) E) (S+(fl N q:Nat)):=by
  have hlog:=log2_le N h h2;have hl:=last_le N q h h2 hq;have hm:=mag_bound N q h h2 hq;have hfin:=fl_finite N q h h2 hq hv;have hself:2^N.log2≤N:=Nat.log2_self_le Z8;have hup:N<2^(N.log2+1):=Nat.lt_log2_self
  intro n
  induction n with
  | zero =>
    intro E hE1 hE2 hE3 hE4 hn;(have hE:E = -1022:=by omega);subst hE;by_cases hz:q+N.log2 = -1022
    · exact bits_unit S hS N q h h2 hq hv _ Z8 Z8
    · (have hL:lastOf N q = -1074:=by unfold lastOf;omega);rw[hL]at hm hfin;have hsmall:N*2^(q - -1074).toNat<9007199254740992:=hm.2.1;refine Ev.step (fun k=>by rw[spec_FloatBits.l1,if_pos (by rw[lt_one N _ h h2 Z8 Z8];exact decide_eq_true Z8),if_neg Z8]) ?_;have hmul:=fl_ok (o := .mul) (mul_pow N (q - -1022) 4841369599423283200 0 h h2 Z8 Z8 read_wide Z8);(have hq2:q - -1022+0+52=((q - -1074).toNat:Int):=by omega);rw[hq2]at hmul;have hi:=fival_u64 _ _ (toInt_fl N (q - -1074).toNat h h2 Z8) Z8 Z8;refine ev_pos hmul.1 ?_;rw[hmul.2];refine ev_pos hi.1 ?_;rw[hi.2,hfin.1];rw[show (-1074+1074:Int).toNat=0 by omega,Nat.zero_mul,Nat.zero_add];have hlt:N*2^(q - -1074).toNat<9007199254740992:=hm.2.1;rw[u64_or_add 53 Z8 (by rcases hS with rfl|rfl <;> rfl) Z8 Z8 (show _<(9007199254740992:Int) by omega) Z8];exact Ev.now _
  | succ n ih =>
    intro E hE1 hE2 hE3 hE4 hn;by_cases hz:q+N.log2=E
    · exact bits_unit S hS N q h h2 hq hv _ Z8 Z8
    · refine Ev.step (fun k=>by rw[spec_FloatBits.l1,if_pos (by rw[lt_one N _ h h2 Z8 Z8];exact decide_eq_true Z8),if_pos Z8]) ?_;have hmul:=fl_ok (o := .mul) (mul_pow N (q - E) 4611686018427387904 (-51) h h2 Z8 Z8 read_two Z8);refine ev_pos hmul.1 ?_;rw[hmul.2,w64 Z8 Z8,show q - E + -51+52=q - (E - 1) by omega];exact ih (E - 1) Z8 Z8 Z8 Z8 Z8
theorem bits_l0(S:Int)(hS:S=0∨S=9223372036854775808)(N:Nat)(q:Int)(h:0<N)(h2:N<2^53)(hq:-1074≤q)(hv:q+N.log2≤1023):∀(n:Nat) (E:Int),0≤E→(E=0∨E≤q+N.log2)→(n:Int)=1023 - E→Ev (fun k=>spec_FloatBits.l0 k S (fl N (q - E)) E) (S+(fl N q:Nat)):=by
  have hlog:=log2_le N h h2
  intro n
  induction n with
  | zero =>
    intro E h0 hE hn;refine Ev.step (fun k=>by rw[spec_FloatBits.l0,if_neg (by rw[ge_two N _ h h2 Z8 Z8,decide_eq_false Z8];exact Bool.false_ne_true)]) ?_;exact bits_l1 S hS N q h h2 hq hv (E+1022).toNat E Z8 Z8 Z8 Z8 Z8
  | succ n ih =>
    intro E h0 hE hn;by_cases hz:q+N.log2≤E
    · refine Ev.step (fun k=>by rw[spec_FloatBits.l0,if_neg (by rw[ge_two N _ h h2 Z8 Z8,decide_eq_false Z8];exact Bool.false_ne_true)]) ?_;exact bits_l1 S hS N q h h2 hq hv (E+1022).toNat E Z8 Z8 Z8 Z8 Z8
    · refine Ev.step (fun k=>by rw[spec_FloatBits.l0,if_pos (by rw[ge_two N _ h h2 Z8 Z8];exact decide_eq_true Z8)]) ?_;have hquo:=fl_ok (o := .quo) (quo_pow N (q - E) 4611686018427387904 (-51) h h2 Z8 Z8 read_two Z8);refine ev_pos hquo.1 ?_;rw[hquo.2,w64 Z8 Z8,show q - E - -51 - 52=q - (E+1) by omega];exact ih (E+1) Z8 Z8 Z8
theorem bits_j1(S:Int)(hS:S=0∨S=9223372036854775808)(c:Nat)(hc:c≤9218868437227405312):Ev (fun k=>spec_FloatBits.j1 k S c) (S+(c:Nat)):=by
  by_cases h0:c=0
  · subst h0;refine Ev.step (fun k=>by rw[spec_FloatBits.j1,if_pos (by rw[feq_nat _ _ Z8 Z8];rfl)]) ?_;rw[show S+((0:Nat):Int)=S by omega];exact Ev.now _
  by_cases hi:c=9218868437227405312
  · subst hi;refine Ev.step (fun k=>by rw[spec_FloatBits.j1,if_neg (by rw[feq_nat _ _ Z8 Z8,decide_eq_false Z8];exact Bool.false_ne_true),if_pos (by rw[fgt_nat _ _ Z8 Z8];exact decide_eq_true Z8)]) ?_;rw[u64_or_add 63 Z8 (by rcases hS with rfl|rfl <;> rfl) Z8 Z8 (show _<(9223372036854775808:Int) by omega) Z8];exact Ev.now _
  · obtain⟨a1,a2,a3,a4⟩:=log2_mg c Z8 Z8;obtain⟨e,hp,hp2,hm,hn⟩:=mg_pl c Z8;refine Ev.step (fun k=>by rw[spec_FloatBits.j1,if_neg (by rw[feq_nat _ _ Z8 Z8];simp[h0]),if_neg (by rw[fgt_nat _ _ Z8 Z8,decide_eq_false Z8];exact Bool.false_ne_true)]) ?_;have:=bits_l0 S hS (mg c) (pl c) a1 a2 hp a4 1023 0 Z8 (Or.inl rfl) Z8;rw[show pl c - 0=pl c by omega,fl_eta c Z8 Z8]at this;exact this
theorem spec_FloatBits_f(a:Nat)(ha:a<2^64):Ev (fun k=>spec_FloatBits.f k a) (if isn a then 9221120237041090560 else (a:Int)):=by
  unfold spec_FloatBits.f
  cases hn:isn a with
  | true =>
    refine ev_neg (by rw[feq_self a ha,hn];simp) ?_;exact Ev.now _
  | false =>
    refine ev_pos (by rw[feq_self a ha,hn];rfl) ?_;rw[if_neg Z45];have hz:isn 0=false:=isn_pos 0 Z8
    have low:∀c,c≤9218868437227405312→a=c→Ev (fun k=>if fls a 0=true then spec_FloatBits.j0 k a 0 a true else if feq a 0=true then if fok .quo 4607182418800017408 a=true then spec_FloatBits.j0 k a 0 a (fls (fval .quo 4607182418800017408 a) 0) else none else spec_FloatBits.j0 k a 0 a false) (a:Int):=by
      intro c hc hac;subst hac
      have fin:Ev (fun k=>spec_FloatBits.j0 k a 0 a false) (a:Int):=by
        refine Ev.step (fun k=>by rw[spec_FloatBits.j0,if_neg Z45]) ?_;have:=bits_j1 0 (Or.inl rfl) a hc;rw[Int.zero_add]at this;exact this
      refine ev_neg (by rw[fls_nat a 0 hc Z8];simp) ?_;by_cases h0:a=0
      · subst h0;refine ev_pos (by rw[feq_nat 0 0 Z8 Z8];rfl) ?_
        have hq:=fl_ok (o := .quo) (a:=4607182418800017408) (b:=0) (r:=9218868437227405312) (by
          show Ieee.double.div 4607182418800017408 0=some 9218868437227405312;unfold Ieee.Format.div;rw[read_zero,read_one]
          rfl)
        refine ev_pos hq.1 ?_;rw[hq.2,fls_nat _ _ Z8 Z8];exact fin
      · refine ev_neg (by rw[feq_nat a 0 hc Z8];simp[h0]) ?_;exact fin
    have high:∀c,c≤9218868437227405312→a=9223372036854775808+c→Ev (fun k=>if fls a 0=true then spec_FloatBits.j0 k a 0 a true else if feq a 0=true then if fok .quo 4607182418800017408 a=true then spec_FloatBits.j0 k a 0 a (fls (fval .quo 4607182418800017408 a) 0) else none else spec_FloatBits.j0 k a 0 a false) (a:Int):=by
      intro c hc hac
      have fin:Ev (fun k=>spec_FloatBits.j0 k a 0 a true) (a:Int):=by
        refine Ev.step (fun k=>by rw[spec_FloatBits.j0,if_pos rfl]) ?_;have:=bits_j1 9223372036854775808 (Or.inr rfl) c hc;rw[hac,fneg_neg c Z8];rw[show ((9223372036854775808+c:Nat):Int)=9223372036854775808+(c:Int) by omega];exact this
      have hk:=fkey_neg c a hac;have hk0:fkey 0=0:=fkey_pos 0 Z8;by_cases h0:c=0
      · subst h0;refine ev_neg (by rw[fls_key a 0 ha Z8 hn hz,hk,hk0];simp) ?_;refine ev_pos (by rw[feq_key a 0 ha Z8 hn hz,hk,hk0];rfl) ?_
        have hq:=fl_ok (o := .quo) (a:=4607182418800017408) (b:=9223372036854775808) (r:=18442240474082181120) (by
          show Ieee.double.div 4607182418800017408 9223372036854775808=some 18442240474082181120;unfold Ieee.Format.div;rw[read_nzero,read_one]
          rfl)
        rw[Nat.add_zero]at hac;rw[hac]at fin ⊢;refine ev_pos hq.1 ?_;rw[hq.2]
        have e:fls 18442240474082181120 0=true:=by
          rw[fls_key _ 0 Z8 Z8 (isn_neg 9218868437227405312 Z8) hz,hk0,fkey_neg 9218868437227405312 18442240474082181120 rfl];exact decide_eq_true Z8
        rw[e];exact fin
      · refine ev_pos (by rw[fls_key a 0 ha Z8 hn hz,hk,hk0];exact decide_eq_true Z8) ?_;exact fin
    rcases word_real a ha hn with g|g | ⟨c,g,hc⟩|g
    · exact low a Z8 rfl
    · exact low a Z8 rfl
    · exact high c Z8 g
    · exact high 9218868437227405312 Z8 g
theorem fkey_zero(a:Nat)(ha:a<2^64):fkey a=0↔a=0∨a=9223372036854775808:=by
  unfold fkey;split <;> omega
theorem feq_zero(a:Nat)(ha:a<2^64)(hn:isn a=false):feq a 0=decide (a=0∨a=9223372036854775808):=by
  rw[feq_key a 0 ha Z8 hn (isn_pos 0 Z8),fkey_pos 0 Z8];exact decide_eq_decide.2 (fkey_zero a ha)
theorem bits_or_comm(k:IntKind)(x y:Int):Go.bits .or k x y=Go.bits .or k y x:=by
  unfold Go.bits;dsimp only;rw[BitVec.or_comm]
theorem u64_not(b:Nat)(h:b<2^64):Go.bits .xor .u64 IntKind.u64.max (b:Int)=18446744073709551615 - (b:Int):=by
  (have e1:IntKind.u64.max=18446744073709551615:=by rfl);have e2:Go.bits .xor .u64 IntKind.u64.max (b:Int)=IntKind.u64.wrap ((BitVec.ofInt 64 IntKind.u64.max ^^^ BitVec.ofInt 64 (b:Int)).toNat:Int):=rfl;(have e3:BitVec.ofInt 64 (18446744073709551615:Int)=BitVec.allOnes 64:=by rfl);rw[e2,e1,e3,BitVec.allOnes_xor,BitVec.toNat_not,BitVec.ofInt_natCast,BitVec.toNat_ofNat,Nat.mod_eq_of_lt h];(have e4:((2^64 - 1 - b:Nat):Int)=18446744073709551615 - (b:Int):=by omega);rw[e4];simp[IntKind.wrap,IntKind.bits,IntKind.signed];omega
def rankOf(a:Nat):Int:=if isn a then 18446744073709551615 else if a=0∨a=9223372036854775808 then 9223372036854775808 else if a<9223372036854775808 then 9223372036854775808+(a:Int) else 18446744073709551615 - (a:Int)
theorem real_ne_nan(a:Nat)(hn:isn a=false):(a:Int)≠9221120237041090560:=by
  intro h;(have:a=9221120237041090560:=by omega);subst this;exact absurd hn Z33
theorem or_sign(a:Nat)(h:a<9223372036854775808):Go.bits .or .u64 (a:Int) 9223372036854775808=9223372036854775808+(a:Int):=by
  rw[bits_or_comm,u64_or_add 63 Z8 Z119 Z8 Z8 (show _<(9223372036854775808:Int) by omega) Z8]
theorem spec_FloatRank_f(a:Nat)(ha:a<2^64):Ev (fun k=>spec_FloatRank.f k a) (rankOf a):=by
  unfold spec_FloatRank.f rankOf
  refine Ev.bind (spec_FloatBits_f a ha) ?_
  cases hn:isn a with
  | true=>exact ev_pos rfl (Ev.now _)
  | false =>
    simp only[Bool.false_eq_true,if_false];refine ev_neg (real_ne_nan a hn) ?_;rw[feq_zero a ha hn];by_cases hz:a=0∨a=9223372036854775808
    · rw[if_pos hz];exact ev_pos (decide_eq_true hz) (Ev.now _)
    · rw[if_neg hz];refine ev_neg (by rw[decide_eq_false hz];exact Bool.false_ne_true) ?_;by_cases hs:a<9223372036854775808
      · rw[if_pos hs];refine ev_neg Z8 ?_;rw[or_sign a hs];exact Ev.now _
      · rw[if_neg hs];refine ev_pos Z8 ?_;rw[u64_not a ha];exact Ev.now _
def IsBytes(l:List Int):Prop:=∀x∈l,0≤x∧x≤255
theorem rd_byte{l:List Int}(h:IsBytes l)(i:Int):0≤rd l i∧rd l i≤255:=by
  by_cases hi:i.toNat<l.length
  · (have:rd l i=l[i.toNat]:=by simp[rd,List.getD_eq_getElem?_getD,List.getElem?_eq_getElem hi]);rw[this];exact h _ (List.getElem_mem _)
  · (have:rd l i=0:=by simp[rd,List.getD_eq_getElem?_getD,List.getElem?_eq_none (by omega:l.length≤i.toNat)]);omega
theorem isBytes_append{a b:List Int}(ha:IsBytes a)(hb:IsBytes b):IsBytes (a++b):=by
  intro x hx;rcases List.mem_append.1 hx with h|h
  · exact ha x h
  · exact hb x h
theorem isBytes_one{x:Int}(h:0≤x∧x≤255):IsBytes [x]:=by
  intro y hy;rw[List.mem_singleton.1 hy];exact h
theorem isBytes_nil:IsBytes []:=fun x hx=>by cases hx
theorem impl_within_f(a b c:Int):impl_within.f a b c=some (decide (b≤a∧a≤c)):=by
  unfold impl_within.f;by_cases h:b≤a <;> simp[h]
def gv(l:List Int)(p:Int):Nat→Int
  | 0=>0
  | d+1=>rd l p+256*gv l (p+1) d
theorem gv_range{l:List Int}(h:IsBytes l)(d:Nat):∀p,0≤gv l p d∧gv l p d<256^d:=by
  induction d with
  | zero=>intro p;simp[gv]
  | succ d ih =>
    intro p;have h1:=ih (p+1);have h2:=rd_byte h p;simp only[gv];rw[Int.pow_succ];constructor
    · omega
    · have:gv l (p+1) d+1≤256^d:=h1.2;omega
theorem gv_small{l:List Int}(h:IsBytes l)(d:Nat)(hd:d≤7)(p:Int):0≤gv l p d∧gv l p d<72057594037927936:=by
  refine⟨(gv_range h d p).1,Int.lt_of_lt_of_le (gv_range h d p).2 ?_⟩;(have:d=0∨d=1∨d=2∨d=3∨d=4∨d=5∨d=6∨d=7:=by omega);rcases this with rfl|rfl|rfl|rfl|rfl|rfl|rfl|rfl <;> decide
theorem gv_eight{l:List Int}(h:IsBytes l)(d:Nat)(hd:d≤8)(p:Int):0≤gv l p d∧gv l p d<18446744073709551616:=by
  refine⟨(gv_range h d p).1,Int.lt_of_lt_of_le (gv_range h d p).2 ?_⟩;(have:d=0∨d=1∨d=2∨d=3∨d=4∨d=5∨d=6∨d=7∨d=8:=by omega);rcases this with rfl|rfl|rfl|rfl|rfl|rfl|rfl|rfl|rfl <;> decide
def GnOk(l:List Int)(at_ size:Int):Prop:=(1≤size∧size≤8)∧(0≤at_∧at_≤l.length)∧size≤l.length - at_
instance(l : List Int)(at_ size : Int) : Decidable (GnOk l at_ size) := by unfold GnOk; infer_instance
def gn(l:List Int)(at_ size:Int):Int×Bool:=if GnOk l at_ size∧gv l at_ size.toNat<9223372036854775808 then (gv l at_ size.toNat,true) else (0,false)
theorem u64_or{x y:Int}(h0:0≤x)(h1:x<72057594037927936)(h2:0≤y)(h3:y≤255):Go.bits .or .u64 (IntKind.u64.wrap (x*256)) y=y+256*x:=by
  (have e:IntKind.u64.wrap (x*256)=x*256:=by simp[IntKind.wrap,IntKind.bits,IntKind.signed];omega);rw[e,bits_join .u64 64 Z33 (fun n a b=>by simp[IntKind.wrap,IntKind.bits,IntKind.signed];omega) 8 (x*256) y Z8 Z45 Z8 h2 Z8 Z8];omega
theorem u64_id{x:Int}(h0:0≤x)(h1:x<18446744073709551616):IntKind.u64.wrap x=x:=by simp[IntKind.wrap,IntKind.bits,IntKind.signed];omega
theorem gv_step(l:List Int)(p:Int)(n d:Nat)(hd:d<n):gv l (p+d) (n - d)=gv l (p+(d+1:Nat)) (n - (d+1))*256+rd l (p+d):=by
  rw[show n - d=(n - (d+1))+1 by omega];simp only[gv];rw[show p+(d:Int)+1=p+(d+1:Nat) by omega];omega
theorem impl_GetNum_l(l:List Int)(hl:IsBytes l)(hn:l.length≤1048576)(p size:Int)(ok:GnOk l p size)(d:Nat):∀(i:Int),i+1=d→d≤size →
    Ev (fun k=>impl_GetNum.l0 k l p (gv l (p+d) (size.toNat - d)) i) (gn l p size):=by
  have ok':=ok
  obtain⟨⟨s1,s2⟩,⟨p1,p2⟩,hs⟩:=ok
  induction d with
  | zero =>
    intro i hi _;refine Ev.step (f:=fun _=>some (gn l p size)) (fun k=>?_) (Ev.now _);(have e0:gv l (p+((0:Nat):Int)) (size.toNat - 0)=gv l p size.toNat:=by simp);have h:=gv_eight hl size.toNat Z8 p;simp only[impl_GetNum.l0];rw[e0,if_neg Z8];by_cases hG:gv l p size.toNat<9223372036854775808
    · (have hgn:gn l p size=(gv l p size.toNat,true):=by rw[gn,if_pos ⟨ok',hG⟩]);rw[hgn,if_neg Z8,w64 Z8 Z8]
    · (have hgn:gn l p size=(0,false):=by rw[gn,if_neg (fun h=>hG h.2)]);rw[hgn,if_pos Z8]
  | succ d ih =>
    intro i hi hd;(have hid:i=d:=by omega);subst hid;have e:wrap64 (p+d)=p+d:=w64 Z8 Z8;have hb:=rd_byte hl (p+d);have hs':=gv_step l p size.toNat d Z8;have hg:=gv_small hl (size.toNat - (d+1)) Z8 (p+(d+1:Nat));refine Ev.step (fun k=>?_) (ih ((d:Int) - 1) Z8 Z8);simp only[impl_GetNum.l0];rw[e,if_pos Z8,if_pos Z8,if_pos Z8,u64_id (x:=rd l (p+d)) Z8 Z8,u64_or hg.1 hg.2 hb.1 hb.2,w64 (x:=(d:Int) - 1) Z8 Z8,hs',Int.mul_comm 256,Int.add_comm]
theorem impl_hasBytes_f(l:List Int)(hn:l.length≤1048576)(p many:Int):impl_hasBytes.f l p many=some (decide ((0≤p∧p≤l.length)∧many≤l.length - p)):=by
  unfold impl_hasBytes.f;rw[impl_within_f];simp only[Option.bind_some,decide_eq_true_eq];by_cases h:0≤p∧p≤l.length
  · rw[if_pos h,w64 Z8 Z8];simp[h]
  · rw[if_neg h];simp[h]
theorem impl_GetNum_f(l:List Int)(hl:IsBytes l)(hn:l.length≤1048576)(p size:Int):Ev (fun k=>impl_GetNum.f k l p size) (gn l p size):=by
  unfold impl_GetNum.f;refine ev_bind0 (impl_within_f _ _ _) ?_;by_cases s1:1≤size∧size≤8
  · refine ev_pos (decide_eq_true s1) ?_;refine ev_bind0 (impl_hasBytes_f l hn p size) ?_;by_cases s2:(0≤p∧p≤l.length)∧size≤l.length - p
    · have ok:GnOk l p size:=⟨s1,s2.1,s2.2⟩;refine Ev.step (f:=fun k=>impl_GetNum.l0 k l p 0 (size - 1)) (fun k=>?_) ?_
      · simp only[impl_GetNum.j0];rw[if_neg (by simp[s2]),w64 (x:=size - 1) Z8 Z8]
      · have:=impl_GetNum_l l hl hn p size ok size.toNat (size - 1) Z8 Z8;rw[Nat.sub_self]at this;exact this
    · refine Ev.step (f:=fun _=>some (0,false)) (fun k=>by simp only[impl_GetNum.j0];rw[if_pos (by simp only[decide_eq_false s2,Bool.not_false])]) ?_;rw[gn,if_neg (fun h=>s2 ⟨h.1.2.1,h.1.2.2⟩)];exact Ev.now _
  · refine ev_neg (by simpa using s1) ?_;refine Ev.step (f:=fun _=>some (0,false)) (fun k=>by simp only[impl_GetNum.j0,if_true]) ?_;rw[gn,if_neg (fun h=>s1 h.1.1)];exact Ev.now _
theorem spec_l5in_f(a b c:Int):spec_l5in.f a b c=some (decide (b≤a∧a≤c)):=by
  unfold spec_l5in.f;by_cases h:b≤a <;> simp[h]
theorem bits_xor_nat(k:IntKind)(j:Nat)(hj:j≤k.bits)(hk:∀n:Int,0≤n→n<2^j→k.wrap n=n)(a b:Nat)(ha:a<2^j)(hb:b<2^j) :
    Go.bits .xor k a b=((a ^^^ b:Nat):Int):=by
  have hp:2^j≤2^k.bits:=Nat.pow_le_pow_right Z33 hj;have ha':a % 2^k.bits=a:=Nat.mod_eq_of_lt (Nat.lt_of_lt_of_le ha hp);have hb':b % 2^k.bits=b:=Nat.mod_eq_of_lt (Nat.lt_of_lt_of_le hb hp);(have cast:∀n:Nat,n<2^j→((n:Nat):Int)<2^j:=fun n h=>by exact_mod_cast h);simp only[Go.bits,BitVec.ofInt_natCast,BitVec.toNat_xor,BitVec.toNat_ofNat,ha',hb'];exact hk _ (Int.natCast_nonneg _) (cast _ (Nat.xor_lt_two_pow ha hb))
def le(n:Int):Nat→List Int
  | 0=>[]
  | d+1=>(n % 256) :: le (n / 256) d
theorem le_length(d:Nat):∀n,(le n d).length=d:=by
  induction d with
  | zero=>intro n;rfl
  | succ d ih=>intro n;simp[le,ih]
theorem le_bytes(d:Nat):∀n,∀x∈le n d,0≤x∧x≤255:=by
  induction d with
  | zero=>intro n x hx;simp[le]at hx
  | succ d ih =>
    intro n x hx;simp only[le,List.mem_cons]at hx;rcases hx with rfl|hx
    · omega
    · exact ih _ x hx
def PnOk(n size:Int):Prop:=(1≤size∧size≤8)∧0≤n∧n / 256^size.toNat=0
instance(n size : Int) : Decidable (PnOk n size) := by unfold PnOk; infer_instance
def pn(n size:Int):List Int:=if PnOk n size then le n size.toNat else []
theorem pow256(d:Nat)(n:Int):n / 256 / 256^d=n / 256^(d+1):=by
  rw[Int.pow_succ,Int.mul_comm,Int.ediv_ediv_of_nonneg Z33]
theorem spec_PutNum_l(size:Int)(hs:size≤8)(d:Nat):∀(n i:Int) (out:List Int),0≤n→n≤9223372036854775807→0≤i→i+d=size→out.length≤100 - d →
    Ev (fun k=>spec_PutNum.l0 k n size out i) (if n / 256^d > 0 then [] else out++le n d):=by
  induction d with
  | zero =>
    intro n i out h0 h1 hi he ho;refine Ev.step (f:=fun _=>some (if n / 256^0 > 0 then [] else out++le n 0)) (fun k=>?_) (Ev.now _);simp only[spec_PutNum.l0];rw[if_neg Z8];by_cases hn:n > 0
    · rw[if_pos hn,if_pos (by simpa using hn)]
    · rw[if_neg hn,if_neg (by simpa using hn)];simp[le]
  | succ d ih =>
    intro n i out h0 h1 hi he ho;have hq:Int.tdiv n 256=n / 256:=Int.tdiv_eq_ediv_of_nonneg h0;have hm:Int.tmod n 256=n % 256:=Int.tmod_eq_emod_of_nonneg h0;have:=ih (n / 256) (i+1) (out ++ [n % 256]) Z8 Z8 Z8 Z8 Z137;rw[pow256]at this;simp only[List.append_assoc,List.cons_append,List.nil_append]at this;refine Ev.step (fun k=>?_) this;simp only[spec_PutNum.l0];rw[if_pos Z8,if_pos Z8,hq,hm,w64 Z8 Z8,w64 Z8 Z8,show n % 256 % 256=n % 256 by omega]
theorem impl_PutNum_l(size:Int)(hs:size≤8)(d:Nat):∀(n i:Int) (out:List Int),0≤i→i+d=size→out.length≤100 - d →
    Ev (fun k=>impl_PutNum.l0 k n out size i) (out++le n d):=by
  induction d with
  | zero =>
    intro n i out hi he ho;refine Ev.step (f:=fun _=>some (out++le n 0)) (fun k=>?_) (Ev.now _);simp only[impl_PutNum.l0];rw[if_neg Z8];simp[le]
  | succ d ih =>
    intro n i out hi he ho;have:=ih (n / 256) (i+1) (out ++ [n % 256]) Z8 Z8 Z137;simp only[List.append_assoc,List.cons_append,List.nil_append]at this;refine Ev.step (fun k=>?_) this;simp only[impl_PutNum.l0];rw[if_pos Z8,if_pos Z8,w64 Z8 Z8]
theorem pn_off(n size:Int)(h:¬PnOk n size):pn n size = []:=by rw[pn,if_neg h]
theorem div_small(n:Int)(d:Nat)(h0:0≤n):¬n / 256^d > 0↔n / 256^d=0:=by
  have:0≤n / 256^d:=Int.ediv_nonneg h0 (Int.le_of_lt (Int.pow_pos Z33));omega
theorem spec_PutNum_f(n size:Int)(h1:n≤9223372036854775807):Ev (fun k=>spec_PutNum.f k n size) (pn n size):=by
  unfold spec_PutNum.f;by_cases s1:size<1
  · refine ev_pos s1 (Ev.step (f:=fun _=>some []) (fun k=>by simp only[spec_PutNum.j0,if_true]) ?_);rw[pn_off n size (fun h=>by have:=h.1;omega)];exact Ev.now _
  refine ev_neg s1 ?_;by_cases s2:size > 8
  · refine ev_pos s2 (Ev.step (f:=fun _=>some []) (fun k=>by simp only[spec_PutNum.j0,if_true]) ?_);rw[pn_off n size (fun h=>by have:=h.1;omega)];exact Ev.now _
  refine ev_neg s2 ?_;by_cases s3:n<0
  · refine Ev.step (f:=fun _=>some []) (fun k=>by simp only[spec_PutNum.j0];rw[if_pos (decide_eq_true s3)]) ?_;rw[pn_off n size (fun h=>by have:=h.2.1;omega)];exact Ev.now _
  refine Ev.step (f:=fun k=>spec_PutNum.l0 k n size [] 0) (fun k=>by simp only[spec_PutNum.j0];rw[if_neg (by simpa using s3)]) ?_;have:=spec_PutNum_l size Z8 size.toNat n 0 [] Z8 h1 Z8 Z8 Z45;by_cases hz:n / 256^size.toNat > 0
  · rw[if_pos hz]at this;rw[pn_off n size (fun h=>by have:=h.2.2;omega)];exact this
  · rw[if_neg hz]at this;rw[pn,if_pos ⟨⟨by omega,by omega⟩,by omega,(div_small n _ Z8).1 hz⟩];exact this
theorem shr_pow(n size:Int)(h1:1≤size)(h2:size<8):shr .i64 n (wrap64 (8*size))=n / 256^size.toNat:=by
  rw[w64 Z8 Z8];unfold shr;rw[Nat.min_eq_left (by simp[IntKind.bits];omega)];obtain⟨m,rfl⟩:=Int.eq_ofNat_of_zero_le (show 0≤size by omega);(have:(8*(m:Int)).toNat=8*m:=by omega);rw[this,Int.toNat_natCast,Int.pow_mul];rfl
theorem impl_PutNum_f(n size:Int)(h1:n≤9223372036854775807):Ev (fun k=>impl_PutNum.f k n size) (pn n size):=by
  unfold impl_PutNum.f;refine ev_bind0 (impl_within_f _ _ _) ?_;by_cases s1:1≤size∧size≤8
  · refine ev_pos (decide_eq_true s1) ?_;by_cases s2:n<0
    · refine ev_pos s2 (Ev.step (f:=fun _=>some []) (fun k=>by simp only[impl_PutNum.j0,if_true]) ?_);rw[pn_off n size (fun h=>by have:=h.2.1;omega)];exact Ev.now _
    refine ev_neg s2 ?_;have hl:=impl_PutNum_l size Z8 size.toNat n 0 [] Z8 Z8 Z45;by_cases s3:size<8
    · refine ev_pos s3 (ev_pos (by rw[w64 Z8 Z8];omega) ?_);rw[shr_pow n size s1.1 s3];by_cases hz:n / 256^size.toNat=0
      · refine Ev.step (f:=fun k=>impl_PutNum.l0 k n [] size 0) (fun k=>by simp only[impl_PutNum.j0];rw[if_neg (by simp[hz])]) ?_;rw[pn,if_pos ⟨s1,by omega,hz⟩];exact hl
      · refine Ev.step (f:=fun _=>some []) (fun k=>by simp only[impl_PutNum.j0];rw[if_pos (by simp[hz])]) ?_;rw[pn_off n size (fun h=>hz h.2.2)];exact Ev.now _
    · refine ev_neg s3 ?_;(obtain rfl:size=8:=by omega);refine Ev.step (f:=fun k=>impl_PutNum.l0 k n [] 8 0) (fun k=>by simp only[impl_PutNum.j0,Bool.false_eq_true,if_false]) ?_
      have hz:n / 256^(8:Int).toNat=0:=by
        (have:(256:Int)^(8:Int).toNat=18446744073709551616:=by decide);rw[this];omega
      rw[pn,if_pos ⟨s1,by omega,hz⟩];exact hl
  · refine ev_neg (by simpa using s1) (Ev.step (f:=fun _=>some []) (fun k=>by simp only[impl_PutNum.j0,if_true]) ?_);rw[pn_off n size (fun h=>s1 h.1)];exact Ev.now _
theorem pn_length(n size:Int):(pn n size).length≤8:=by
  unfold pn;split
  · rename_i h;rw[le_length];have:=h.1;omega
  · simp
theorem cloneByte_f(l:List Int)(hn:l.length≤1048576):slices_Clone_byte_byte.f l=some l:=by
  unfold slices_Clone_byte_byte.f;simp only[Option.bind_some,List.nil_append,List.length_nil];rw[if_pos Z8]
def itemOkP(kd n:Int)(b:Nat)(t:List Int):Bool:=decide (0≤kd∧kd≤3∧t.length≤40∧(kd=1∨n=0)∧(kd=2∨b=0)∧(kd=3∨t.length=0))
theorem canon_zero(b:Nat):(if isn b then 9221120237041090560 else (b:Int))=0↔b=0:=by
  cases hn:isn b with
  | true =>
    rw[if_pos rfl];constructor
    · omega
    · rintro rfl;exact absurd hn Z33
  | false =>
    rw[if_neg Bool.false_ne_true];omega
theorem spec_ItemOk_j1(x:Bool)(kd n:Int)(b:Nat)(t:List Int)(hb:b<2^64):Ev (fun k=>spec_ItemOk.j1 k x kd n b t) (decide (x=false∧(kd=2∨b=0)∧(kd=3∨t.length=0))):=by
  cases x with
  | true =>
    refine Ev.step (fun k=>by rw[spec_ItemOk.j1,if_pos rfl]) ?_;rw[decide_eq_false Z45];exact Ev.now _
  | false =>
    refine Ev.step (fun k=>by rw[spec_ItemOk.j1,if_neg Bool.false_ne_true]) ?_
    have fin:Ev (fun _=>if kd=3 then some true else some ((t.length:Int) == 0)) (decide (kd=3∨t.length=0)):=by
      by_cases h3:kd=3
      · refine ev_pos h3 ?_;rw[decide_eq_true (Or.inl h3)];exact Ev.now _
      · refine ev_neg h3 ?_;rw[show ((t.length:Int) == 0)=decide (kd=3∨t.length=0) by rw[Bool.eq_iff_iff];simp[h3]];exact Ev.now _
    by_cases h2:kd=2
    · refine ev_pos h2 ?_;rw[show decide (false=false∧(kd=2∨b=0)∧(kd=3∨t.length=0))=decide (kd=3∨t.length=0) from decide_eq_decide.2 (by simp[h2])];exact fin
    · refine ev_neg h2 ?_;refine Ev.bind (spec_FloatBits_f b hb) ?_;by_cases h0:b=0
      · refine ev_pos ((canon_zero b).2 h0) ?_;rw[show decide (false=false∧(kd=2∨b=0)∧(kd=3∨t.length=0))=decide (kd=3∨t.length=0) from decide_eq_decide.2 (by simp[h0])];exact fin
      · refine ev_neg (fun h=>h0 ((canon_zero b).1 h)) ?_;rw[decide_eq_false (by simp[h0,h2])];exact Ev.now _
theorem spec_ItemOk_j0(x:Bool)(kd n:Int)(b:Nat)(t:List Int)(hb:b<2^64):Ev (fun k=>spec_ItemOk.j0 k x kd n b t) (decide (x=false∧(kd=1∨n=0)∧(kd=2∨b=0)∧(kd=3∨t.length=0))):=by
  cases x with
  | true =>
    refine Ev.step (fun k=>by rw[spec_ItemOk.j0,if_pos rfl]) ?_;rw[decide_eq_false Z45];exact Ev.now _
  | false =>
    refine Ev.step (fun k=>by rw[spec_ItemOk.j0,if_neg Bool.false_ne_true]) ?_;by_cases h1:kd=1
    · refine ev_pos h1 ?_;rw[show decide (false=false∧(kd=1∨n=0)∧(kd=2∨b=0)∧(kd=3∨t.length=0))=decide (false=false∧(kd=2∨b=0)∧(kd=3∨t.length=0)) from decide_eq_decide.2 (by simp[h1])];exact spec_ItemOk_j1 false kd n b t hb
    · refine ev_neg h1 ?_;rw[show decide (false=false∧(kd=1∨n=0)∧(kd=2∨b=0)∧(kd=3∨t.length=0))=decide ((n != 0)=false∧(kd=2∨b=0)∧(kd=3∨t.length=0)) from decide_eq_decide.2 (by simp[h1])];exact spec_ItemOk_j1 _ kd n b t hb
theorem spec_ItemOk_f(kd n:Int)(b:Nat)(t:List Int)(hb:b<2^64):Ev (fun k=>spec_ItemOk.f k kd n b t) (itemOkP kd n b t):=by
  unfold spec_ItemOk.f itemOkP;by_cases h1:kd<0
  · refine ev_pos h1 ?_;rw[decide_eq_false Z8]
    have:=spec_ItemOk_j0 true kd n b t hb
    rwa [decide_eq_false Z45]at this
  · refine ev_neg h1 ?_;by_cases h2:kd > 3
    · refine ev_pos h2 ?_;rw[decide_eq_false Z8]
      have:=spec_ItemOk_j0 true kd n b t hb
      rwa [decide_eq_false Z45]at this
    · refine ev_neg h2 ?_
      have:=spec_ItemOk_j0 (decide ((t.length:Int) > 40)) kd n b t hb
      rwa [show decide (decide ((t.length:Int) > 40)=false∧(kd=1∨n=0)∧(kd=2∨b=0)∧(kd=3∨t.length=0))=decide (0≤kd∧kd≤3∧t.length≤40∧(kd=1∨n=0)∧(kd=2∨b=0)∧(kd=3∨t.length=0)) from decide_eq_decide.2 (by rw[decide_eq_false_iff_not];omega)]at this
theorem feq_zero_any(b:Nat)(hb:b<2^64):feq b 0=decide (b=0∨b=9223372036854775808):=by
  cases hn:isn b with
  | true =>
    rw[(cmp_nan b 0 (Or.inl ⟨hb,hn⟩)).1]
    symm
    refine decide_eq_false ?_;rintro (rfl|rfl)
    · exact absurd hn Z33
    · exact absurd hn Z33
  | false=>exact feq_zero b hb hn
def keyOkP(kd n:Int)(b:Nat)(t:List Int):Bool:=itemOkP kd n b t && decide (kd≠0∧b≠9223372036854775808)
theorem spec_KeyOk_f(kd n:Int)(b:Nat)(t:List Int)(hb:b<2^64):Ev (fun k=>spec_KeyOk.f k kd n b t) (keyOkP kd n b t):=by
  unfold spec_KeyOk.f keyOkP
  refine Ev.bind (spec_ItemOk_f kd n b t hb) ?_
  cases itemOkP kd n b t with
  | false=>exact ev_neg Bool.false_ne_true (Ev.now _)
  | true =>
    refine ev_pos rfl ?_;by_cases h0:kd=0
    · refine ev_pos h0 ?_;rw[decide_eq_false (by simp[h0])];exact Ev.now _
    · refine ev_neg h0 ?_;rw[feq_zero_any b hb];by_cases hz:b=0∨b=9223372036854775808
      · refine ev_pos (decide_eq_true hz) ?_;refine Ev.bind (spec_FloatBits_f b hb) ?_
        have:(!((if isn b then 9221120237041090560 else (b:Int)) != 0))=(true && decide (kd≠0∧b≠9223372036854775808)):=by
          rcases hz with rfl|rfl
          · rw[(canon_zero 0).2 rfl,decide_eq_true ⟨h0,by omega⟩];rfl
          · rw[show isn 9223372036854775808=false by decide,decide_eq_false Z45];rfl
        rw[this];exact Ev.now _
      · refine ev_neg (by rw[decide_eq_false hz];exact Bool.false_ne_true) ?_;rw[decide_eq_true ⟨h0,fun h=>hz (Or.inr h)⟩];exact Ev.now _
def tupleOkP(x y ka kb:Int)(kf:Nat)(kt:List Int)(va vb:Int)(vf:Nat)(vt:List Int):Bool:=decide (1≤x∧x≤400) && decide (0≤y∧y≤400) && keyOkP ka kb kf kt && itemOkP va vb vf vt && (va != 0)
theorem spec_TupleOk_f(x y ka kb:Int)(kf:Nat)(kt:List Int)(va vb:Int)(vf:Nat)(vt:List Int)(h1:kf<2^64)(h2:vf<2^64):Ev (fun k=>spec_TupleOk.f k x y ka kb kf kt va vb vf vt) (tupleOkP x y ka kb kf kt va vb vf vt):=by
  unfold spec_TupleOk.f tupleOkP
  refine ev_bind0 (spec_l5in_f x 1 400) ?_
  cases decide (1≤x∧x≤400) with
  | false=>exact ev_neg Bool.false_ne_true (Ev.now _)
  | true =>
    refine ev_pos rfl ?_
    refine ev_bind0 (spec_l5in_f y 0 400) ?_
    cases decide (0≤y∧y≤400) with
    | false=>exact ev_neg Bool.false_ne_true (Ev.now _)
    | true =>
      refine ev_pos rfl ?_
      refine Ev.bind (spec_KeyOk_f ka kb kf kt h1) ?_
      cases keyOkP ka kb kf kt with
      | false=>exact ev_neg Bool.false_ne_true (Ev.now _)
      | true =>
        refine ev_pos rfl ?_
        refine Ev.bind (spec_ItemOk_f va vb vf vt h2) ?_
        cases itemOkP va vb vf vt with
        | false=>exact ev_neg Bool.false_ne_true (Ev.now _)
        | true=>exact ev_pos rfl (Ev.now _)
def hi(x:Int):Nat→List Int
  | 0=>[]
  | n+1=>(x / 256^n % 256) :: hi x n
theorem hi_length(x:Int)(n:Nat):(hi x n).length=n:=by
  induction n with
  | zero=>rfl
  | succ n ih=>simp[hi,ih]
theorem hi_bytes(x:Int)(n:Nat):IsBytes (hi x n):=by
  induction n with
  | zero=>exact isBytes_nil
  | succ n ih =>
    intro y hy;rcases List.mem_cons.1 hy with rfl|h
    · omega
    · exact ih y h
theorem wrap_u64{x:Int}(h0:0≤x)(h1:x<18446744073709551616):IntKind.u64.wrap x=x:=by simp[IntKind.wrap,IntKind.bits,IntKind.signed];omega
theorem shr_u64(x:Int)(n:Nat)(h:n<8):shr .u64 x (8*(n:Int))=x / 256^n:=by
  unfold shr;rw[show ((8*(n:Int)).toNat)=8*n by omega,Nat.min_eq_left (by simp[IntKind.bits];omega),Int.pow_mul];rfl
theorem mask255(y:Int)(h0:0≤y)(h1:y<18446744073709551616):Go.bits .and .u64 y 255=y % 256 :=
  bits_mask .u64 64 Z33 (fun n a b=>wrap_u64 a Z8) 8 Z8 y h0 h1
theorem quot_pow(x:Int)(n:Nat)(h0:0≤x)(h1:x<18446744073709551616):0≤x / 256^n∧x / 256^n<18446744073709551616:=by
  have hp:(0:Int)<256^n:=Int.pow_pos Z8;have h2:0≤x / 256^n:=Int.ediv_nonneg h0 (Int.le_of_lt hp);have h3:=Int.ediv_le_self (256^n) h0;omega
theorem l3high_l(x:Int)(h0:0≤x)(h1:x<18446744073709551616):∀(n:Nat) (acc:List Int),n≤8→acc.length≤8 - n→Ev (fun k=>spec_l3high.l0 k x acc ((n:Int) - 1)) (acc++hi x n)
  | 0,acc,_,_=>by
    refine Ev.step (fun k=>by rw[spec_l3high.l0,if_neg Z8]) ?_;rw[show acc++hi x 0=acc by simp[hi]];exact Ev.now _
  | n+1,acc,hn,ha=>by
    have hq:=quot_pow x n h0 h1;(have e:IntKind.u64.wrap (wrap64 (8*(((n+1:Nat):Int) - 1)))=8*(n:Int):=by rw[w64 Z8 Z8,wrap_u64 Z8 Z8];omega);refine Ev.step (fun k=>by rw[spec_l3high.l0,if_pos Z8]) ?_;rw[e];refine ev_pos Z8 (ev_pos Z8 ?_);rw[shr_u64 x n Z8,mask255 _ hq.1 hq.2,w64 Z8 Z8,show ((n+1:Nat):Int) - 1 - 1=(n:Int) - 1 by omega];have:=l3high_l x h0 h1 n (acc ++ [x / 256^n % 256 % 256]) Z8 Z137;rw[show x / 256^n % 256 % 256=x / 256^n % 256 by omega,List.append_assoc]at this;rw[show x / 256^n % 256 % 256=x / 256^n % 256 by omega];exact this
theorem spec_l3high_f(x:Int)(h0:0≤x)(h1:x<18446744073709551616):Ev (fun k=>spec_l3high.f k x) (hi x 8):=by
  unfold spec_l3high.f;exact l3high_l x h0 h1 8 [] Z8 Z45
def turned(n:Int):Int:=(n+9223372036854775808) % 18446744073709551616
theorem turned_bound(n:Int):0≤turned n∧turned n<18446744073709551616:=by unfold turned;omega
theorem wrap_mod(n:Int):IntKind.u64.wrap n=n % 18446744073709551616:=by simp[IntKind.wrap,IntKind.bits,IntKind.signed]
theorem turn_spec(n:Int):Go.bits .xor .u64 (IntKind.u64.wrap n) 9223372036854775808=turned n:=by
  rw[wrap_mod];obtain⟨m,hm⟩:∃m:Nat,(m:Int)=n % 18446744073709551616:=⟨(n % 18446744073709551616).toNat,by omega⟩;(have hlt:m<18446744073709551616:=by omega);rw[← hm];have h2:=bits_xor_nat .u64 64 Z33 (fun n a b=>wrap_u64 a Z8) m 9223372036854775808 Z8 Z8;rw[show Go.bits .xor .u64 (m:Int) 9223372036854775808=Go.bits .xor .u64 (m:Int) ((9223372036854775808:Nat):Int) from rfl,h2];unfold turned;by_cases hs:m<9223372036854775808
  · have h3:=fneg_pos m hs;rw[show m ^^^ 9223372036854775808=9223372036854775808+m from h3];omega
  · obtain⟨c,rfl⟩:=Nat.le.dest (Nat.le_of_not_lt hs);have h3:=fneg_neg c Z8;rw[show (9223372036854775808+c) ^^^ 9223372036854775808=c from h3];omega
def itemBytesOf(kd n:Int)(t:List Int)(bits:Int):List Int:=(kd % 256) :: (if kd=1 then hi (turned n) 8 else if kd=2 then hi bits 8 else t)
theorem itemBytesOf_length(kd n:Int)(t:List Int)(bits:Int):(itemBytesOf kd n t bits).length≤t.length+9:=by
  unfold itemBytesOf;rw[List.length_cons];split
  · rw[hi_length];omega
  · split
    · rw[hi_length];omega
    · omega
theorem itemBytesOf_bytes(kd n:Int)(t:List Int)(bits:Int)(ht:IsBytes t):IsBytes (itemBytesOf kd n t bits):=by
  have h1:IsBytes ([kd % 256]++(if kd=1 then hi (turned n) 8 else if kd=2 then hi bits 8 else t)):=by
    refine isBytes_append (isBytes_one Z8) ?_;split
    · exact hi_bytes _ _
    · split
      · exact hi_bytes _ _
      · exact ht
  exact h1
theorem spec_l3bytes_f(kd n:Int)(b:Nat)(t:List Int)(ht:t.length≤1048576)(bits:Int)(h0:0≤bits)(h1:bits<18446744073709551616):Ev (fun k=>spec_l3bytes.f k kd n b t bits) (itemBytesOf kd n t bits):=by
  unfold spec_l3bytes.f itemBytesOf;refine ev_bind0 rfl ?_;by_cases hk:kd=1
  · rw[if_pos hk];refine ev_pos hk ?_;rw[turn_spec];refine Ev.bind (spec_l3high_f _ (turned_bound n).1 (turned_bound n).2) ?_;refine ev_pos (by rw[hi_length];simp) ?_;exact Ev.now _
  · rw[if_neg hk];refine ev_neg hk ?_;by_cases hk2:kd=2
    · rw[if_pos hk2];refine ev_pos hk2 ?_;refine Ev.bind (spec_l3high_f _ h0 h1) ?_;refine ev_pos (by rw[hi_length];simp) ?_;exact Ev.now _
    · rw[if_neg hk2];refine ev_neg hk2 ?_;refine ev_pos Z137 ?_;exact Ev.now _
theorem rankOf_bound(a:Nat)(ha:a<2^64):0≤rankOf a∧rankOf a<18446744073709551616:=by
  unfold rankOf;(repeat' split);all_goals omega
def keyBytesOf(kd n:Int)(b:Nat)(t:List Int):List Int:=if keyOkP kd n b t=true then itemBytesOf kd n t (rankOf b) else []
theorem keyBytesOf_length(kd n:Int)(b:Nat)(t:List Int)(ht:t.length≤1048576):(keyBytesOf kd n b t).length≤49:=by
  unfold keyBytesOf;split
  · rename_i h
    have h2:t.length≤40:=by
      simp only[keyOkP,itemOkP,Bool.and_eq_true,decide_eq_true_eq]at h;exact h.1.2.2.1
    have:=itemBytesOf_length kd n t (rankOf b);omega
  · simp
theorem spec_KeyBytes_f(kd n:Int)(b:Nat)(t:List Int)(hb:b<2^64)(ht:t.length≤1048576):Ev (fun k=>spec_KeyBytes.f k kd n b t) (keyBytesOf kd n b t):=by
  unfold spec_KeyBytes.f keyBytesOf
  refine Ev.bind (spec_KeyOk_f kd n b t hb) ?_
  cases keyOkP kd n b t with
  | false=>exact ev_neg Bool.false_ne_true (Ev.now _)
  | true =>
    refine ev_pos rfl ?_;refine Ev.bind (spec_FloatRank_f b hb) ?_;refine Ev.bind (spec_l3bytes_f kd n b t ht _ (rankOf_bound b hb).1 (rankOf_bound b hb).2) ?_;exact Ev.now _
theorem canon_bound(b:Nat)(hb:b<2^64):0≤(if isn b then 9221120237041090560 else (b:Int))∧(if isn b then 9221120237041090560 else (b:Int))<18446744073709551616:=by
  split <;> omega
def valueBytesOf(kd n:Int)(b:Nat)(t:List Int):List Int:=if itemOkP kd n b t=true∧kd≠0 then itemBytesOf kd n t (if isn b then 9221120237041090560 else (b:Int)) else []
theorem valueBytesOf_length(kd n:Int)(b:Nat)(t:List Int)(ht:t.length≤1048576):(valueBytesOf kd n b t).length≤49:=by
  unfold valueBytesOf;split
  · rename_i h
    have h2:t.length≤40:=by
      have h1:=h.1;simp only[itemOkP,decide_eq_true_eq]at h1;exact h1.2.2.1
    have:=itemBytesOf_length kd n t (if isn b then 9221120237041090560 else (b:Int));omega
  · simp
theorem spec_ValueBytes_f(kd n:Int)(b:Nat)(t:List Int)(hb:b<2^64)(ht:t.length≤1048576):Ev (fun k=>spec_ValueBytes.f k kd n b t) (valueBytesOf kd n b t):=by
  unfold spec_ValueBytes.f valueBytesOf
  refine Ev.bind (spec_ItemOk_f kd n b t hb) ?_
  cases itemOkP kd n b t with
  | false =>
    rw[if_neg Z45];refine ev_neg Bool.false_ne_true ?_;refine Ev.step (fun k=>by rw[spec_ValueBytes.j0,if_pos rfl]) ?_;exact Ev.now _
  | true =>
    refine ev_pos rfl ?_;by_cases h0:kd=0
    · rw[if_neg (by simp[h0])];refine Ev.step (fun k=>by rw[spec_ValueBytes.j0,if_pos (by simp[h0])]) ?_;exact Ev.now _
    · rw[if_pos ⟨rfl,h0⟩];refine Ev.step (fun k=>by rw[spec_ValueBytes.j0,if_neg (by simp[h0])]) ?_;refine Ev.bind (spec_FloatBits_f b hb) ?_;refine Ev.bind (spec_l3bytes_f kd n b t ht _ (canon_bound b hb).1 (canon_bound b hb).2) ?_;exact Ev.now _
def sumLen:List (List Int)→Nat
  | []=>0
  | x :: l=>x.length+sumLen l
theorem rdl_nat(l:List (List Int))(i:Nat)(h:i<l.length):rd_L1 l (i:Int)=l[i]:=by
  simp[rd_L1,List.getD_eq_getElem?_getD,List.getElem?_eq_getElem h]
def tupleBytesOf(x y ka kb:Int)(kf:Nat)(kt:List Int)(va vb:Int)(vf:Nat)(vt:List Int):List Int:=if tupleOkP x y ka kb kf kt va vb vf vt then ((((pn x 4++pn y 4) ++ [((keyBytesOf ka kb kf kt).length:Int) % 256])++keyBytesOf ka kb kf kt) ++ [((valueBytesOf va vb vf vt).length:Int) % 256])++valueBytesOf va vb vf vt else []
theorem tupleBytesOf_length(x y ka kb:Int)(kf:Nat)(kt:List Int)(va vb:Int)(vf:Nat)(vt:List Int)(h1:kt.length≤1048576)(h2:vt.length≤1048576):(tupleBytesOf x y ka kb kf kt va vb vf vt).length≤200:=by
  have l1:=pn_length x 4;have l2:=pn_length y 4;have l3:=keyBytesOf_length ka kb kf kt h1;have l4:=valueBytesOf_length va vb vf vt h2;unfold tupleBytesOf;split
  · simp only[List.length_append,List.length_cons,List.length_nil];omega
  · exact Nat.zero_le _
theorem spec_TupleBytes_f(x y ka kb:Int)(kf:Nat)(kt:List Int)(va vb:Int)(vf:Nat)(vt:List Int)(b1:kf<2^64)(b2:vf<2^64)(h1:kt.length≤1048576)(h2:vt.length≤1048576)(m1:x≤9223372036854775807)(m2:y≤9223372036854775807):Ev (fun k=>spec_TupleBytes.f k x y ka kb kf kt va vb vf vt) (tupleBytesOf x y ka kb kf kt va vb vf vt):=by
  have l1:=pn_length x 4;have l2:=pn_length y 4;have l3:=keyBytesOf_length ka kb kf kt h1;have l4:=valueBytesOf_length va vb vf vt h2;unfold spec_TupleBytes.f tupleBytesOf
  refine Ev.bind (spec_TupleOk_f x y ka kb kf kt va vb vf vt b1 b2) ?_
  cases hr:tupleOkP x y ka kb kf kt va vb vf vt with
  | false=>exact ev_neg Z45 (Ev.now _)
  | true =>
    refine ev_pos rfl ?_;refine Ev.bind (spec_KeyBytes_f ka kb kf kt b1 h1) ?_;refine Ev.bind (spec_ValueBytes_f va vb vf vt b2 h2) ?_;refine Ev.bind (spec_PutNum_f x 4 m1) ?_;refine Ev.bind (spec_PutNum_f y 4 m2) ?_;refine ev_pos Z8 (ev_bind0 rfl ?_);refine ev_pos (by simp only[List.length_append];omega) (ev_bind0 rfl ?_);refine ev_pos Z135 (ev_bind0 rfl ?_);refine ev_pos Z135 (ev_bind0 rfl ?_);refine ev_pos Z135 ?_;exact Ev.now _
open Ieee
theorem maskU(y:Int)(n:Nat)(hn:n≤64)(h0:0≤y)(h1:y<18446744073709551616):Go.bits .and .u64 y (2^n - 1)=y % 2^n :=
  bits_mask .u64 64 Z33 (fun n a b=>by simp[IntKind.wrap,IntKind.bits,IntKind.signed];omega) n Z8 y h0 h1
theorem fofi_fl(n:Nat):fofi (n:Int)=fl n 0:=by
  unfold fofi fl floatOfInt FloatKind.nearest;show double.write (.number (decide ((n:Int)<0)) (n:Int).natAbs 0)=_;rw[decide_eq_false Z8,Int.natAbs_natCast];rfl
theorem fl_zero(q:Int):fl 0 q=0:=by
  unfold fl Format.nearest;rw[if_pos rfl,word_false]
theorem quo_zero(d:Nat)(r:Int)(hd:double.read d = .number false 4503599627370496 r):double.div 0 d=some 0:=by
  unfold Format.div;rw[read_zero,hd];unfold Datum.quotient;dsimp only;rw[if_neg Z8,Nat.zero_shiftLeft,Nat.zero_div,Nat.zero_mod];show some (double.write (.number false (2*0+0) _))=some 0;rw[write_zero,word_false]
theorem add_one(N:Nat)(h0:0<N)(h:N<4503599627370496):double.add (fl N (-52)) 4607182418800017408=some (fl (4503599627370496+N) (-52)):=by
  have hlog:N.log2<52:=(Nat.log2_lt Z8).2 h;obtain⟨s,e,hs,_⟩:=fl_reads N (-52) h0 Z8 Z8 Z8;unfold Format.add;rw[e,read_one];unfold Datum.sum;dsimp only;rw[show min ((-52:Int) - s) (-52) = -52 - s by omega,signed_false,signed_false,show ((-52:Int) - s - (-52 - s)).toNat=0 by omega,show ((-52:Int) - (-52 - s)).toNat=s by omega,Nat.pow_zero,Nat.mul_one]
  have ht:((N*2^s:Nat):Int)+((4503599627370496*2^s:Nat):Int)=(((4503599627370496+N)*2^s:Nat):Int):=by
    rw[← Int.natCast_add,← Nat.add_mul,Nat.add_comm N]
  rw[ht];have hpos:0<(4503599627370496+N)*2^s:=Nat.mul_pos Z8 (Nat.two_pow_pos s);rw[if_neg Z8,decide_eq_false Z8,Int.natAbs_natCast];refine congrArg some ?_;exact nearest_fl (4503599627370496+N) (-52) s _ _ Z8 Z8 Z8 rfl rfl
theorem fl_one:fl 4503599627370496 (-52)=4607182418800017408:=by
  have:=fl_eta 4607182418800017408 Z8 Z8;exact this
theorem one_of_zero:double.add 0 4607182418800017408=some 4607182418800017408:=by
  unfold Format.add;rw[read_one,read_zero];unfold Datum.sum;dsimp only;rw[show min (-1074:Int) (-52) = -1074 by omega,signed_false,signed_false,Nat.zero_mul];obtain⟨n,hn⟩:∃n:Nat,n=1022:=⟨_,rfl⟩;rw[show ((-52:Int) - -1074).toNat=n by omega];have hpos:0<4503599627370496*2^n:=Nat.mul_pos Z8 (Nat.two_pow_pos _);generalize hq:4503599627370496*2^n=Q at hpos;rw[show (((0:Nat):Int)+((Q:Nat):Int))=(Q:Int) by omega,if_neg Z8,decide_eq_false Z8,Int.natAbs_natCast];refine congrArg some ?_;rw[← fl_one];exact nearest_fl 4503599627370496 (-52) n _ _ Z8 Z8 Z8 hq.symm Z8
def nanB(a:Int):Bool:=decide (a % 9223372036854775808 > 9218868437227405312)
theorem sign_f(a:Nat)(ha:a<2^64)(b:Nat)(hb:b=a % 9223372036854775808)(k:Nat)(hx:b≤9218868437227405312):(if ((a:Int) / 9223372036854775808)=1 then some (fneg b) else some b)=some a:=by
  by_cases h:(a:Int) / 9223372036854775808=1
  · rw[if_pos h,fneg_pos b Z8]
    congr 1
    omega
  · rw[if_neg h]
    congr 1
    omega
theorem down_l(a:Nat)(ha:a<2^64)(N:Nat)(h2:N<2^53)(b:Nat)(hb:b=a % 9223372036854775808)(hx:b<9218868437227405312)(z:Int)(hz:fl N z=b)(hzl:-1074≤z)(d:Nat):∀(q:Int),d≤2000→q - d=z→(0<N→q+N.log2≤1023) →
    Ev (fun k=>spec_FloatOf.l1 k (a:Int) (fl N q) (-(d:Int))) a:=by
  induction d with
  | zero =>
    intro q _ hq _;(have e:q=z:=by omega);rw[e,hz];refine Ev.step (fun k=>by rw[spec_FloatOf.l1,if_neg Z8]) ?_;rw[sign_f a ha b hb 0 Z8];exact Ev.now _
  | succ d ih =>
    intro q hd hq hv
    have e:fok .quo (fl N q) 4611686018427387904=true∧fval .quo (fl N q) 4611686018427387904=fl N (q - 1):=by
      by_cases h0:N=0
      · rw[h0,fl_zero,fl_zero];exact fl_ok (quo_zero _ _ read_two)
      · have:=quo_pow N q 4611686018427387904 (-51) Z8 h2 Z8 (hv Z8) read_two Z8;rw[show q - -51 - 52=q - 1 by omega]at this;exact fl_ok this
    refine Ev.step (fun k=>by rw[spec_FloatOf.l1,if_pos Z8,if_pos e.1,e.2,show wrap64 (-((d+1:Nat):Int)+1) = -(d:Int) by unfold wrap64;omega]) ?_;exact ih (q - 1) Z8 Z8 (fun h=>by have:=hv h;omega)
theorem up_l(a:Nat)(ha:a<2^64)(N:Nat)(h1:0<N)(h2:N<2^53)(b:Nat)(hb:b=a % 9223372036854775808)(hx:b<9218868437227405312)(z:Int)(hz:fl N z=b)(hzl:-1074≤z)(hv:z+N.log2≤1023)(d:Nat):∀(q:Int),d≤2000→-1074≤q→q+d=z →
    Ev (fun k=>spec_FloatOf.l0 k (a:Int) (fl N q) (d:Int)) a:=by
  induction d with
  | zero =>
    intro q _ _ hq;refine Ev.step (fun k=>by rw[spec_FloatOf.l0,if_neg Z8]) ?_;exact down_l a ha N h2 b hb hx z hz hzl 0 q Z8 Z8 (fun _=>by omega)
  | succ d ih =>
    intro q hd hl hq
    have e:fok .mul (fl N q) 4611686018427387904=true∧fval .mul (fl N q) 4611686018427387904=fl N (q+1):=by
      have:=mul_pow N q 4611686018427387904 (-51) h1 h2 hl Z8 read_two Z8;rw[show q + -51+52=q+1 by omega]at this;exact fl_ok this
    refine Ev.step (fun k=>by rw[spec_FloatOf.l0,if_pos Z8,if_pos e.1,e.2,show wrap64 (((d+1:Nat):Int) - 1)=(d:Int) by unfold wrap64;omega]) ?_;exact ih (q+1) Z8 Z8 Z8
theorem loop_f(a:Nat)(ha:a<2^64)(N:Nat)(h1:0<N)(h2:N<2^53)(b:Nat)(hb:b=a % 9223372036854775808)(hx:b<9218868437227405312)(z:Int)(hz:fl N z=b)(hzl:-1074≤z)(hv:z+N.log2≤1023)(m q:Int)(hm:-2000≤m∧m≤2000)(hq:q+m=z)(hql:-1074≤q)(hqv:q+N.log2≤1023) :
    Ev (fun k=>spec_FloatOf.j0 k (a:Int) (fl N q) m) a:=by
  refine Ev.step (fun k=>by rw[spec_FloatOf.j0]) ?_;by_cases h:0≤m
  · obtain⟨d,rfl⟩:∃d:Nat,m=d:=⟨m.toNat,by omega⟩;exact up_l a ha N h1 h2 b hb hx z hz hzl hv d q Z8 hql hq
  · obtain⟨d,rfl⟩:∃d:Nat,m = -(d:Int):=⟨(-m).toNat,by omega⟩;refine Ev.step (fun k=>by rw[spec_FloatOf.l0,if_neg Z8]) ?_;exact down_l a ha N h2 b hb hx z hz hzl d q Z8 Z8 (fun _=>hqv)
theorem spec_FloatOf_f(a:Nat)(ha:a<2^64)(hn:nanB a=false):Ev (fun k=>spec_FloatOf.f k (a:Int)) a:=by
  have hn2:((a:Int) % 9223372036854775808)≤9218868437227405312:=by
    unfold nanB at hn;have:=of_decide_eq_false hn;omega
  unfold spec_FloatOf.f
  have m1:Go.bits .and .u64 (a:Int) 4503599627370495=((a % 4503599627370496:Nat):Int):=by
    have:=maskU (a:Int) 52 Z8 Z8 Z8;rw[show ((2:Int)^52 - 1)=4503599627370495 by decide]at this;rw[this];omega
  have m2:Go.bits .and .u64 ((a:Int) / 4503599627370496) 2047=((a / 4503599627370496 % 2048:Nat):Int):=by
    have:=maskU ((a:Int) / 4503599627370496) 11 Z8 Z8 Z8;rw[show ((2:Int)^11 - 1)=2047 by decide]at this;rw[this];omega
  rw[m1,m2];obtain⟨F,hF⟩:∃F,F=a % 4503599627370496:=⟨_,rfl⟩;obtain⟨E,hE⟩:∃E,E=a / 4503599627370496 % 2048:=⟨_,rfl⟩;rw[← hF,← hE];(have hb:E*4503599627370496+F=a % 9223372036854775808:=by omega);(have hFl:F<4503599627370496:=by omega);have w1:wrap64 ((E:Nat):Int)=(E:Int):=by unfold wrap64;omega
  have q1:fok .quo (fofi ((F:Nat):Int)) 4841369599423283200=true∧fval .quo (fofi ((F:Nat):Int)) 4841369599423283200=fl F (-52):=by
    rw[fofi_fl];by_cases h0:F=0
    · rw[h0,fl_zero,fl_zero];exact fl_ok (quo_zero _ _ read_wide)
    · have hlog:F.log2<52:=(Nat.log2_lt Z8).2 hFl;have:=quo_pow F 0 4841369599423283200 0 Z8 Z8 Z8 Z8 read_wide Z8;exact fl_ok this
  refine ev_pos q1.1 ?_;rw[w1,q1.2];by_cases hinf:(E:Int)=2047
  · refine ev_pos hinf ?_;refine ev_pos Z8 ?_
    have hd:fok .quo 4607182418800017408 0=true∧fval .quo 4607182418800017408 0=9218868437227405312:=fl_ok (show floatBits .quo .f64 4607182418800017408 0=some 9218868437227405312 from by
      show double.div 4607182418800017408 0=some 9218868437227405312;unfold Format.div;rw[read_zero,read_one]
      rfl)
    refine ev_pos hd.1 ?_;rw[hd.2,sign_f a ha 9218868437227405312 Z8 0 Z8];exact Ev.now _
  · refine ev_neg hinf ?_;by_cases h0:(E:Int)=0
    · refine ev_pos h0 ?_;by_cases hz:F=0
      · refine Ev.step (fun k=>by rw[spec_FloatOf.j0]) ?_;refine Ev.step (fun k=>by rw[spec_FloatOf.l0,if_neg Z8]) ?_;exact down_l a ha F Z8 (a % 9223372036854775808) rfl Z8 (-1074) (by rw[hz,fl_zero];omega) Z8 1022 (-52) Z8 Z8 (fun h=>by omega)
      · have hlog:F.log2<52:=(Nat.log2_lt Z8).2 hFl;have eta:=fl_eta F Z8 Z8;rw[show mg F=F from if_pos hFl,show pl F = -1074 from if_pos hFl]at eta;exact loop_f a ha F Z8 Z8 (a % 9223372036854775808) rfl Z8 (-1074) (by rw[eta];omega) Z8 Z8 (-1022) (-52) Z8 Z8 Z8 Z8
    · refine ev_neg h0 ?_
      have add:fok .add (fl F (-52)) 4607182418800017408=true∧fval .add (fl F (-52)) 4607182418800017408=fl (4503599627370496+F) (-52):=by
        by_cases hz:F=0
        · rw[hz,fl_zero,Nat.add_zero,fl_one];exact fl_ok one_of_zero
        · exact fl_ok (add_one F Z8 hFl)
      refine ev_pos add.1 ?_;rw[add.2,show wrap64 ((E:Int) - 1023)=(E:Int) - 1023 by unfold wrap64;omega];have hlog:(4503599627370496+F).log2=52:=(Nat.log2_eq_iff Z8).2 (by constructor <;> omega);have eta:=fl_eta (E*4503599627370496+F) Z8 Z8;rw[show mg (E*4503599627370496+F)=4503599627370496+F from by unfold mg;rw[if_neg Z8];omega,show pl (E*4503599627370496+F)=(E:Int) - 1075 from by unfold pl;rw[if_neg Z8];omega]at eta;exact loop_f a ha (4503599627370496+F) Z8 Z8 (a % 9223372036854775808) rfl Z8 ((E:Int) - 1075) (by rw[eta,hb]) Z8 (by rw[hlog];omega) ((E:Int) - 1023) (-52) Z8 Z8 Z8 (by rw[hlog];omega)
theorem nanC_of(a:Nat)(ha:a<2^64)(hn:isn a=true):spec_FloatOf.nanC (a:Int):=by
  have hn2:9218868437227405312<a % 9223372036854775808:=of_decide_eq_true hn
  have m1:Go.bits .and .u64 (a:Int) 4503599627370495=((a % 4503599627370496:Nat):Int):=by
    have:=maskU (a:Int) 52 Z8 Z8 Z8;rw[show ((2:Int)^52 - 1)=4503599627370495 by decide]at this;rw[this];omega
  have m2:Go.bits .and .u64 ((a:Int) / 4503599627370496) 2047=((a / 4503599627370496 % 2048:Nat):Int):=by
    have:=maskU ((a:Int) / 4503599627370496) 11 Z8 Z8 Z8;rw[show ((2:Int)^11 - 1)=2047 by decide]at this;rw[this];omega
  unfold spec_FloatOf.nanC;rw[m1,m2];(have hF0:0<a % 4503599627370496:=by omega);(have hE:a / 4503599627370496 % 2048=2047:=by omega);(have hFl:a % 4503599627370496<4503599627370496:=by omega);generalize a % 4503599627370496=F at *;refine⟨?_,?_,?_,?_⟩
  · rw[fofi_fl];have hlog:F.log2<52:=(Nat.log2_lt Z8).2 hFl;have t:=quo_pow F 0 4841369599423283200 0 Z8 Z8 Z8 Z8 read_wide Z8;exact (fl_ok (o := .quo) (a:=fl F 0) (b:=4841369599423283200) t).1
  · rw[hE];unfold wrap64;omega
  · omega
  · show (floatBits .quo .f64 0 0).isSome=false
    have:floatBits .quo .f64 0 0=none:=by
      show double.div 0 0=none;unfold Format.div;rw[read_zero];rfl
    rw[this];rfl
theorem nanC_none(a:Int)(h:spec_FloatOf.nanC a)(k:Nat):spec_FloatOf.f k a=none:=by
  obtain⟨h1,h2,h3,h4⟩:=h;unfold spec_FloatOf.f;rw[if_pos h1,if_pos h2,if_neg h3,if_neg (by rw[h4];decide)]
theorem nanB_isn(a:Nat):nanB (a:Int)=isn a:=by
  unfold nanB isn;exact decide_eq_decide.2 Z8
theorem i64_and255(n:Int):Go.bits .and .i64 n 255=n % 256:=by
  have h127:(BitVec.ofInt 64 255).toNat=2^8 - 1:=by decide
  have key:(BitVec.ofInt 64 n &&& BitVec.ofInt 64 255).toNat=(n % ((2^64:Nat):Int)).toNat % 2^8:=by
    rw[BitVec.toNat_and,BitVec.toNat_ofInt,h127,Nat.and_two_pow_sub_one_eq_mod]
  show IntKind.i64.wrap ((BitVec.ofInt 64 n &&& BitVec.ofInt 64 255).toNat:Nat)=n % 256;rw[key,IntKind.wrap_i64];omega
theorem u64_range(n:Int):0≤IntKind.u64.wrap n∧IntKind.u64.wrap n<18446744073709551616:=by
  (have h:IntKind.u64.wrap n=n % 18446744073709551616:=by simp[IntKind.wrap,IntKind.bits,IntKind.signed]);rw[h];omega
theorem or_range(x y:Int):0≤Go.bits .or .u64 x y∧Go.bits .or .u64 x y<18446744073709551616:=u64_range _
theorem byte_f(b:List Int)(hb:b.length≤1048576)(i h:Int)(hi:0≤i):∃x i' h',spec_l1Byte.f b i h=some (x,i',h')∧0≤x∧x≤255∧0≤i':=by
  unfold spec_l1Byte.f;by_cases h1:i<(b.length:Int)
  · rw[if_pos h1,if_pos hi];exact⟨_,_,_,rfl,by rw[i64_and255];omega,by rw[i64_and255];omega,by rw[w64 Z8 Z8];omega⟩
  · rw[if_neg h1];exact⟨_,_,_,rfl,by rw[i64_and255];omega,by rw[i64_and255];omega,hi⟩
theorem tmod_range(x n:Int)(hx:0≤x)(hn:0<n):0≤Int.tmod x n∧Int.tmod x n<n:=by
  rw[Int.tmod_eq_emod_of_nonneg hx];exact⟨Int.emod_nonneg _ Z8,Int.emod_lt_of_pos _ hn⟩
theorem below_f(b:List Int)(hb:b.length≤1048576)(i h:Int)(hi:0≤i)(n:Int):∃x i' h',spec_l1Below.f b i h n=some (x,i',h')∧0≤x∧(0<n→x<n)∧0≤i':=by
  unfold spec_l1Below.f;by_cases h1:n≤0
  · rw[if_pos h1];exact⟨_,_,_,rfl,by omega,by omega,hi⟩
  rw[if_neg h1];by_cases h2:n≤256
  · rw[if_pos h2];obtain⟨x,i1,h1',e1,x0,x1,q1⟩:=byte_f b hb i h hi;rw[e1,Option.bind_some,if_neg Z8];have:=tmod_range x n x0 Z8;exact⟨_,_,_,rfl,this.1,fun _=>this.2,q1⟩
  · rw[if_neg h2];obtain⟨x,i1,g1,e1,x0,x1,q1⟩:=byte_f b hb i h hi;obtain⟨y,i2,g2,e2,y0,y1,q2⟩:=byte_f b hb i1 g1 q1;obtain⟨z,i3,g3,e3,z0,z1,q3⟩:=byte_f b hb i2 g2 q2;obtain⟨v,i4,g4,e4,v0,v1,q4⟩:=byte_f b hb i3 g3 q3;simp only[e1,e2,e3,e4,Option.bind_some];rw[if_neg Z8,w64 (x:=x*16777216) Z8 Z8,w64 (x:=y*65536) Z8 Z8,w64 (x:=z*256) Z8 Z8,w64 (x:=x*16777216+y*65536) Z8 Z8,w64 (x:=x*16777216+y*65536+z*256) Z8 Z8,w64 Z8 Z8];have:=tmod_range (x*16777216+y*65536+z*256+v) n Z8 Z8;exact⟨_,_,_,rfl,this.1,fun _=>this.2,q4⟩
theorem l1New_l(l:List Int)(hl:l.length≤1048576)(d:Nat):∀(i:Nat) (x:Int),i+d=l.length→∃h,Ev (fun k=>spec_l1New.l0 k l x (i:Int)) (l,0,h):=by
  induction d with
  | zero =>
    intro i x hi;exact⟨x,Ev.step (fun k=>by rw[spec_l1New.l0,if_neg Z8]) (Ev.now _)⟩
  | succ d ih =>
    intro i x hi;by_cases h4:(i:Int)<4000
    · obtain⟨h,hh⟩:=ih (i+1) (Go.bits .and .i64 (wrap64 ((wrap64 ((wrap64 (x*131))+(wrap64 (rd l (i:Int)))))+7)) 1073741823) Z8;refine⟨h,Ev.step (fun k=>by rw[spec_l1New.l0,if_pos Z8,if_pos h4,if_pos Z8,w64 (x:=(i:Int)+1) Z8 Z8]) ?_⟩;exact hh
    · exact⟨x,Ev.step (fun k=>by rw[spec_l1New.l0,if_pos Z8,if_neg h4]) (Ev.now _)⟩
theorem l1New_f(l:List Int)(hl:l.length≤1048576):∃h,Ev (fun k=>spec_l1New.f k l) (l,0,h):=by
  obtain⟨h,hh⟩:=l1New_l l hl l.length 0 (wrap64 (25252+(l.length:Int))) Z8;refine⟨h,?_⟩;unfold spec_l1New.f;exact hh
theorem fofi_small:∀m:Fin 21,fofi ((m.val:Int) - 10)<2^64:=by decide
theorem bits_total(a:Nat)(ha:a<2^64):∃r,Ev (fun k=>spec_FloatBits.f k a) r∧0≤r∧r<18446744073709551616:=by
  refine⟨_,spec_FloatBits_f a ha,?_,?_⟩ <;> split <;> omega
theorem l2bits_end(b:List Int)(hb:b.length≤1048576)(x:Int)(hx:0≤x∧x<18446744073709551616)(i h:Int)(hi:0≤i):∃r i' h',Ev (fun k=>spec_l2bits.l0 k x 8 b i h) (r,i',h')∧0≤r∧r<18446744073709551616∧0≤i':=by
  obtain⟨y,i1,h1,e1,y0,y1,q1⟩:=below_f b hb i h hi 9;obtain⟨z,i2,h2,e2,z0,z1,q2⟩:=below_f b hb i1 h1 q1 2;obtain⟨v,i3,h3,e3,v0,v1,q3⟩:=below_f b hb i2 h2 q2 3;obtain⟨z',i2',h2',e2',z0',z1',q2'⟩:=below_f b hb i1 h1 q1 12;obtain⟨v',i3',h3',e3',v0',v1',q3'⟩:=below_f b hb i2' h2' q2' 16;obtain⟨u,i4,h4,e4,u0,u1,q4⟩:=below_f b hb i1 h1 q1 21;have y1':=y1 Z8;have u1':=u1 Z8;rcases (show y=0∨y=1∨y=2∨y=3∨y=4∨y=5∨(6≤y) by omega) with rfl|rfl|rfl|rfl|rfl|rfl|h6
  · refine⟨_,i3,h3,Ev.step (fun k=>by rw[spec_l2bits.l0,if_neg Z8,e1,Option.bind_some,if_pos rfl,e2,Option.bind_some,e3,Option.bind_some]) (Ev.now _),(or_range _ _).1,(or_range _ _).2,q3⟩
  · refine⟨_,i3,h3,Ev.step (fun k=>by rw[spec_l2bits.l0,if_neg Z8,e1,Option.bind_some,if_neg Z8,if_pos rfl,e2,Option.bind_some,e3,Option.bind_some]) (Ev.now _),(or_range _ _).1,(or_range _ _).2,q3⟩
  · refine⟨_,i2,h2,Ev.step (fun k=>by rw[spec_l2bits.l0,if_neg Z8,e1,Option.bind_some,if_neg Z8,if_neg Z8,if_pos rfl,e2,Option.bind_some]) (Ev.now _),(or_range _ _).1,(or_range _ _).2,q2⟩
  · refine⟨_,i3,h3,Ev.step (fun k=>by rw[spec_l2bits.l0,if_neg Z8,e1,Option.bind_some,if_neg Z8,if_neg Z8,if_neg Z8,if_pos rfl,e2,Option.bind_some,e3,Option.bind_some]) (Ev.now _),(or_range _ _).1,(or_range _ _).2,q3⟩
  · refine⟨_,i3',h3',Ev.step (fun k=>by rw[spec_l2bits.l0,if_neg Z8,e1,Option.bind_some,if_neg Z8,if_neg Z8,if_neg Z8,if_neg Z8,if_pos rfl,e2',Option.bind_some,e3',Option.bind_some]) (Ev.now _),(or_range _ _).1,(or_range _ _).2,q3'⟩
  · have hf:=fofi_small ⟨u.toNat,by omega⟩;rw[show (((⟨u.toNat,by omega⟩:Fin 21).val:Int) - 10)=u - 10 by show ((u.toNat:Nat):Int) - 10=u - 10;omega]at hf;obtain⟨r,hr,r0,r1⟩:=bits_total _ hf;refine⟨r,i4,h4,Ev.step (fun k=>by rw[spec_l2bits.l0,if_neg Z8,e1,Option.bind_some,if_neg Z8,if_neg Z8,if_neg Z8,if_neg Z8,if_neg Z8,if_pos rfl,e4,Option.bind_some,w64 Z8 Z8]) (Ev.bind hr (Ev.now _)),r0,r1,q4⟩
  · exact⟨x,i1,h1,Ev.step (fun k=>by rw[spec_l2bits.l0,if_neg Z8,e1,Option.bind_some,if_neg Z8,if_neg Z8,if_neg Z8,if_neg Z8,if_neg Z8,if_neg Z8]) (Ev.now _),hx.1,hx.2,q1⟩
theorem l2bits_l(b:List Int)(hb:b.length≤1048576)(d:Nat)(hd:d≤8):∀(x i h:Int),0≤x∧x<18446744073709551616→0≤i→∃r i' h',Ev (fun k=>spec_l2bits.l0 k x (8 - (d:Int)) b i h) (r,i',h')∧0≤r∧r<18446744073709551616∧0≤i':=by
  induction d with
  | zero=>intro x i h hx hi;exact l2bits_end b hb x hx i h hi
  | succ d ih =>
    intro x i h hx hi;obtain⟨y,i1,h1,e1,y0,y1,q1⟩:=byte_f b hb i h hi;obtain⟨r,i2,h2,e2,r0,r1,q2⟩:=ih Z8 (IntKind.u64.wrap ((IntKind.u64.wrap (x*256))+(IntKind.u64.wrap y))) i1 h1 (u64_range _) q1;refine⟨r,i2,h2,Ev.step (fun k=>by rw[spec_l2bits.l0,if_pos Z8,e1,Option.bind_some,w64 Z8 Z8,show 8 - ((d+1:Nat):Int)+1=8 - (d:Int) by omega]) ?_,r0,r1,q2⟩;exact e2
theorem l2bits_f(b:List Int)(hb:b.length≤1048576)(i h:Int)(hi:0≤i):∃r i' h',Ev (fun k=>spec_l2bits.f k b i h) (r,i',h')∧0≤r∧r<18446744073709551616∧0≤i':=by
  unfold spec_l2bits.f;exact l2bits_l b hb 8 Z8 0 i h Z8 hi
def told(r:Nat):Prop:=r<2^64∧(isn r=true→r=9221120237041090560)
theorem FloatOf_c(n:Int)(h0:0≤n)(h1:n<18446744073709551616):∃r,Ev (fun k=>spec_FloatOf.c k n) r∧told r:=by
  obtain⟨a,rfl⟩:=Int.eq_ofNat_of_zero_le h0
  have ha:a<2^64:=by omega
  cases hn:isn a with
  | true =>
    refine⟨9221120237041090560,?_,by decide,fun _=>rfl⟩;unfold spec_FloatOf.c;exact ev_pos (nanC_of a ha hn) (Ev.now _)
  | false =>
    have e:=spec_FloatOf_f a ha (by rw[nanB_isn];exact hn)
    have hc:¬spec_FloatOf.nanC (a:Int):=by
      intro h;obtain⟨k2,hk2⟩:=Ev.rounds e
      rw[nanC_none _ h]at hk2
      cases hk2
    refine⟨a,?_,ha,fun h=>by rw[hn]at h;cases h⟩;unfold spec_FloatOf.c;refine ev_neg hc (Ev.bind e ?_);exact ev_pos ⟨(fun h=>by have q:=h.2;rw[hn]at q;cases q),ha⟩ (Ev.now _)
theorem l2float_f(b:List Int)(hb:b.length≤1048576)(i h:Int)(hi:0≤i):∃r i' h',Ev (fun k=>spec_l2float.f k b i h) (r,i',h')∧told r∧0≤i':=by
  obtain⟨x,i1,h1,e1,x0,x1,q1⟩:=l2bits_f b hb i h hi;obtain⟨r,e2,hr⟩:=FloatOf_c x x0 x1;refine⟨r,i1,h1,?_,hr,q1⟩;unfold spec_l2float.f;exact Ev.bind e1 (Ev.bind e2 (Ev.now _))
def Rp{α:Type}(P:α→Prop)(g:Nat→Option α):Prop:=∃r,Ev g r∧P r
theorem Rp.now{α:Type}{P:α→Prop}{r:α}(h:P r):Rp P (fun _=>some r):=⟨r,Ev.now _,h⟩
theorem Rp.bind{α β:Type}{P:β→Prop}{g:Nat→Option α}{f:Nat→α→Option β}{a:α}(h:Ev g a)(k:Rp P (fun n=>f n a)):Rp P (fun n=>(g n).bind (f n)):=by
  obtain⟨r,e,p⟩:=k;exact⟨r,Ev.bind h e,p⟩
theorem Rp.bind0{α β:Type}{P:β→Prop}{g:Option α}{f:Nat→α→Option β}{a:α}(h:g=some a)(k:Rp P (fun n=>f n a)):Rp P (fun n=>g.bind (f n)):=by
  obtain⟨r,e,p⟩:=k;exact⟨r,ev_bind0 h e,p⟩
theorem Rp.thn{α β:Type}{Q:α→Prop}{P:β→Prop}{g:Nat→Option α}{f:Nat→α→Option β}(h:Rp Q g)(k:∀a,Q a→Rp P (fun n=>f n a)):Rp P (fun n=>(g n).bind (f n)):=by
  obtain⟨a,e,q⟩:=h;exact Rp.bind e (k a q)
theorem Rp.pos{α:Type}{P:α→Prop}{c:Prop}[Decidable c]{A B:Nat→Option α}(hc:c)(h:Rp P A):Rp P (fun k=>if c then A k else B k):=by
  obtain⟨r,e,p⟩:=h;exact⟨r,ev_pos hc e,p⟩
theorem Rp.neg{α:Type}{P:α→Prop}{c:Prop}[Decidable c]{A B:Nat→Option α}(hc:¬c)(h:Rp P B):Rp P (fun k=>if c then A k else B k):=by
  obtain⟨r,e,p⟩:=h;exact⟨r,ev_neg hc e,p⟩
theorem Rp.both{α:Type}{P:α→Prop}{c:Prop}[Decidable c]{A B:Nat→Option α}(h1:c→Rp P A)(h2:¬c→Rp P B):Rp P (fun k=>if c then A k else B k):=by
  by_cases hc:c
  · exact Rp.pos hc (h1 hc)
  · exact Rp.neg hc (h2 hc)
theorem Rp.step{α:Type}{P:α→Prop}{g f:Nat→Option α}(h:∀k,g (k+1)=f k)(k:Rp P f):Rp P g:=by
  obtain⟨r,e,p⟩:=k;exact⟨r,Ev.step h e,p⟩
theorem Rp.mono{α:Type}{P Q:α→Prop}{g:Nat→Option α}(h:Rp P g)(k:∀a,P a→Q a):Rp Q g:=by
  obtain⟨r,e,p⟩:=h;exact⟨r,e,k r p⟩
def IsI64(n:Int):Prop:=-9223372036854775808≤n∧n≤9223372036854775807
theorem i64_max:IsI64 9223372036854775807:=by unfold IsI64;decide
theorem i64_min:IsI64 (-9223372036854775808):=by unfold IsI64;decide
theorem w64_in(n:Int):IsI64 (wrap64 n):=by unfold IsI64 wrap64;omega
def WI(kd n:Int)(b:Nat)(t:List Int):Prop:=IsI64 kd∧IsI64 n∧told b∧IsBytes t∧t.length≤110
def WR(M:Nat)(r:Int×Int×Nat×List Int×Int×Int):Prop:=(WI r.1 r.2.1 r.2.2.1 r.2.2.2.1∧r.2.2.2.1.length≤M)∧0≤r.2.2.2.2.1
theorem told_zero:told 0:=⟨by decide,fun h=>absurd h Z33⟩
theorem told_cn{b:Nat}(h:b<2^64):told (cn b):=by
  refine⟨cn_lt h,fun q=>?_⟩;by_cases hn:nanw b
  · exact cn_nan hn
  · rw[cn_num hn]at q;exact absurd ⟨h,q⟩ hn
theorem isB_nil:IsBytes []:=fun x hx=>by cases hx
theorem isB_app{a b:List Int}(ha:IsBytes a)(hb:IsBytes b):IsBytes (a++b):=fun x hx=>by
  rcases List.mem_append.1 hx with h|h
  · exact ha x h
  · exact hb x h
theorem isB_one(x:Int):IsBytes [x % 256]:=fun y hy=>by
  rcases List.mem_cons.1 hy with rfl|h
  · omega
  · cases h
theorem once_f(b:List Int)(hb:b.length≤1048576)(i h:Int)(hi:0≤i)(n:Int):∃x i' h',spec_l1Once.f b i h n=some (x,i',h')∧0≤i':=by
  obtain⟨x,i1,h1,e1,x0,x1,q1⟩:=below_f b hb i h hi n;unfold spec_l1Once.f;exact⟨_,_,_,by rw[e1,Option.bind_some],q1⟩
theorem some_l(l:List Int)(hl:l.length≤1048576)(M:Nat)(hM:M≤60)(m:Int)(hm:m≤60)(d:Nat):∀(x:List Int) (j c h:Int),0≤c→0≤j→m - j≤d→IsBytes x→x.length+d≤M→Rp (fun r=>(IsBytes r.1∧r.1.length≤M)∧0≤r.2.1) (fun k=>spec_l1some.l0 k x m j l c h):=by
  induction d with
  | zero =>
    intro x j c h hc hj hd hx hn;exact Rp.step (fun k=>by rw[spec_l1some.l0,if_neg Z8]) (Rp.now ⟨⟨hx,by show x.length≤M;omega⟩,hc⟩)
  | succ d ih =>
    intro x j c h hc hj hd hx hn;by_cases h4:j<m
    · obtain⟨y,c1,h1,e1,y0,y1,q1⟩:=byte_f l hl c h hc;refine Rp.step (fun k=>by rw[spec_l1some.l0,if_pos h4]) (Rp.bind0 e1 ?_);refine Rp.pos (show x.length<140737488355328 by omega) ?_;rw[w64 (x:=j+1) Z8 Z8];exact ih (x ++ [y % 256]) (j+1) c1 h1 q1 Z8 Z8 (isB_app hx (isB_one y)) (by rw[List.length_append,List.length_cons,List.length_nil];omega)
    · exact Rp.step (fun k=>by rw[spec_l1some.l0,if_neg h4]) (Rp.now ⟨⟨hx,by show x.length≤M;omega⟩,hc⟩)
theorem some_f(l:List Int)(hl:l.length≤1048576)(i h:Int)(hi:0≤i)(n:Nat)(h1:n≤50):Rp (fun r=>(IsBytes r.1∧r.1.length≤n)∧0≤r.2.1) (fun k=>spec_l1some.f k l i h (n:Int)):=by
  unfold spec_l1some.f;obtain⟨m,c1,h1',e1,m0,m1,q1⟩:=below_f l hl i h hi (wrap64 ((n:Int)+1));have hw:wrap64 ((n:Int)+1)=n+1:=w64 Z8 Z8;have m2:=m1 Z8;exact Rp.bind0 e1 (some_l l hl n Z8 m Z8 n [] 0 c1 h1' q1 Z8 Z8 isB_nil (by rw[List.length_nil];omega))
theorem number_l(l:List Int)(hl:l.length≤1048576)(d:Nat):∀(x j c h:Int),0≤c→IsI64 x→j≤d→j≤100→Rp (fun r=>IsI64 r.1∧0≤r.2.1) (fun k=>spec_l1number.l0 k x j l c h):=by
  have fin:∀(x j c h:Int),0≤c→IsI64 x→j≤0→Rp (fun r=>IsI64 r.1∧0≤r.2.1) (fun k=>spec_l1number.l0 k x j l c h):=by
    intro x j c h hc hx hj;obtain⟨y,c1,h1,e1,y0,y1,q1⟩:=below_f l hl c h hc 12;refine Rp.step (fun k=>by rw[spec_l1number.l0,if_neg Z8]) (Rp.bind0 e1 ?_);refine Rp.both (fun _=>Rp.now ⟨w64_in _,q1⟩) (fun _=>?_);refine Rp.both (fun _=>?_) (fun _=>?_)
    · obtain⟨z,c2,h2,e2,z0,z1,q2⟩:=below_f l hl c1 h1 q1 7;have z2:=z1 Z8;obtain⟨u,c3,h3,e3,u0,u1,q3⟩:=below_f l hl c2 h2 q2 2;refine Rp.bind0 e2 (Rp.pos ?_ (Rp.bind0 e3 (Rp.now ⟨w64_in _,q3⟩)));show 0≤wrap64 (8*(wrap64 (1+z)));rw[w64 (x:=1+z) Z8 Z8,w64 Z8 Z8];omega
    · refine Rp.both (fun _=>Rp.now ⟨i64_max,q1⟩) (fun _=>?_);exact Rp.both (fun _=>Rp.now ⟨i64_min,q1⟩) (fun _=>Rp.now ⟨hx,q1⟩)
  induction d with
  | zero=>intro x j c h hc hx hj _;exact fin x j c h hc hx Z8
  | succ d ih =>
    intro x j c h hc hx hj hj2;by_cases h4:j > 0
    · obtain⟨y,c1,h1,e1,y0,y1,q1⟩:=byte_f l hl c h hc;refine Rp.step (fun k=>by rw[spec_l1number.l0,if_pos h4]) (Rp.bind0 e1 ?_);exact ih _ _ c1 h1 q1 (w64_in _) (by rw[w64 Z8 Z8];omega) (by rw[w64 Z8 Z8];omega)
    · exact fin x j c h hc hx Z8
theorem number_f(l:List Int)(hl:l.length≤1048576)(i h:Int)(hi:0≤i):Rp (fun r=>IsI64 r.1∧0≤r.2.1) (fun k=>spec_l1number.f k l i h):=by
  unfold spec_l1number.f;obtain⟨x,c1,h1,e1,x0,x1,q1⟩:=below_f l hl i h hi 1000;obtain⟨j,c2,h2,e2,j0,j1,q2⟩:=below_f l hl c1 h1 q1 6;have:=x1 Z8;have:=j1 Z8;exact Rp.bind0 e1 (Rp.bind0 e2 (number_l l hl 6 x j c2 h2 q2 (by unfold IsI64;omega) Z8 Z8))
theorem copy_f(kd n:Int)(b:Nat)(t:List Int)(ht:t.length≤110):spec_l3copy.f kd n b t=some (kd,n,b,t):=by
  unfold spec_l3copy.f;rw[Option.bind_some,if_pos (by rw[List.length_nil];omega),List.nil_append]
theorem clean_f(kd n:Int)(b:Nat)(t:List Int)(h:WI kd n b t):Rp (fun r=>WI r.1 r.2.1 r.2.2.1 r.2.2.2∧r.2.2.2.length≤t.length) (fun k=>spec_ItemClean.f k kd n b t):=by
  unfold spec_ItemClean.f;refine Rp.bind (spec_ItemOk_f kd n b t h.2.2.1.1) (Rp.both (fun _=>Rp.bind0 (copy_f kd n b t h.2.2.2.2) ?_) (fun _=>Rp.now ⟨⟨by unfold IsI64;decide,by unfold IsI64;decide,told_zero,isB_nil,by decide⟩,Nat.zero_le _⟩));exact Rp.both (fun _=>Rp.now ⟨⟨h.1,h.2.1,told_zero,h.2.2.2⟩,Nat.le_refl _⟩) (fun _=>Rp.now ⟨h,Nat.le_refl _⟩)
theorem half_ok:∀m:Fin 5,fok .quo (fofi ((m.val:Int) - 2)) 4611686018427387904=true∧fval .quo (fofi ((m.val:Int) - 2)) 4611686018427387904<2^64∧isn (fval .quo (fofi ((m.val:Int) - 2)) 4611686018427387904)=false:=by decide +kernel
theorem quarter_ok:∀m:Fin 64,fok .quo (fofi ((m.val:Int) - 32)) 4616189618054758400=true∧fval .quo (fofi ((m.val:Int) - 32)) 4616189618054758400<2^64∧isn (fval .quo (fofi ((m.val:Int) - 32)) 4616189618054758400)=false:=by decide +kernel
theorem wi_int(n:Int)(h:IsI64 n):WI 1 n 0 []:=⟨by unfold IsI64;decide,h,told_zero,isB_nil,by decide⟩
theorem wi_text(t:List Int)(h:IsBytes t)(hl:t.length≤40):WI 3 0 0 t:=⟨by unfold IsI64;decide,by unfold IsI64;decide,told_zero,h,by omega⟩
theorem wi_float(b:Nat)(h:told b):WI 2 0 b []:=⟨by unfold IsI64;decide,by unfold IsI64;decide,h,isB_nil,by decide⟩
theorem key_f(l:List Int)(hl:l.length≤1048576)(i h:Int)(hi:0≤i):Rp (WR 40) (fun k=>spec_l3key.f k l i h):=by
  unfold spec_l3key.f;obtain⟨x,c1,h1,e1,x0,x1,q1⟩:=below_f l hl i h hi 6
  have last:∀c h',0≤c→Rp (WR 40) (fun _=>(spec_l1Below.f l c h' 6).bind fun bt286=>(some (1,wrap64 (bt286.1 - 1),0,([]:List Int),bt286.2.1,bt286.2.2))):=by
    intro c h' hc;obtain⟨y,c2,h2,e2,y0,y1,q2⟩:=below_f l hl c h' hc 6;exact Rp.bind0 e2 (Rp.now ⟨⟨wi_int _ (w64_in _),Nat.zero_le _⟩,q2⟩)
  refine Rp.bind0 e1 (Rp.both (fun _=>?_) (fun _=>Rp.both (fun _=>?_) (fun _=>Rp.both (fun _=>?_) (fun _=>Rp.both (fun _=>?_) (fun _=>last c1 h1 q1)))))
  · obtain⟨y,c2,h2,e2,y0,y1,q2⟩:=below_f l hl c1 h1 q1 3;exact Rp.bind0 e2 (Rp.now ⟨⟨wi_text _ (isB_one _) (show 1≤40 by decide),show 1≤40 by decide⟩,q2⟩)
  · obtain⟨y,c2,h2,e2,y0,y1,q2⟩:=below_f l hl c1 h1 q1 5;have y2:=y1 Z8;obtain⟨m,rfl⟩:=Int.eq_ofNat_of_zero_le y0;obtain⟨f1,f2,f3⟩:=half_ok ⟨m,by omega⟩;refine Rp.bind0 e2 ?_;show Rp (WR 40) (fun k=>if (fok .quo (fofi (wrap64 ((m:Int) - 2))) 4611686018427387904)=true then _ else _);rw[w64 (x:=(m:Int) - 2) Z8 Z8];refine Rp.pos f1 (Rp.thn (clean_f 2 0 _ [] (wi_float _ (told_cn f2))) (fun a ha=>Rp.now ⟨⟨ha.1,Nat.le_trans ha.2 Z33⟩,q2⟩))
  · obtain⟨o,c2,h2,e2,q2⟩:=once_f l hl c1 h1 q1 3;refine Rp.bind0 e2 (Rp.both (fun _=>?_) (fun _=>last c2 h2 q2));obtain⟨f,c3,h3,e3,hf,q3⟩:=l2float_f l hl c2 h2 q2;exact Rp.bind e3 (Rp.thn (clean_f 2 0 f [] (wi_float _ hf)) (fun a ha=>Rp.now ⟨⟨ha.1,Nat.le_trans ha.2 Z33⟩,q3⟩))
  · obtain⟨o,c2,h2,e2,q2⟩:=once_f l hl c1 h1 q1 4;refine Rp.bind0 e2 (Rp.both (fun _=>?_) (fun _=>last c2 h2 q2));exact Rp.thn (some_f l hl c2 h2 q2 40 Z8) (fun a ha=>Rp.now ⟨⟨wi_text _ ha.1.1 ha.1.2,ha.1.2⟩,ha.2⟩)
theorem value_f(l:List Int)(hl:l.length≤1048576)(i h:Int)(hi:0≤i):Rp (WR 40) (fun k=>spec_l3value.f k l i h):=by
  unfold spec_l3value.f;obtain⟨x,c1,h1,e1,x0,x1,q1⟩:=below_f l hl i h hi 5
  have last:∀c h',0≤c→Rp (WR 40) (fun k=>(spec_l1number.f k l c h').bind fun bt344=>(some (1,bt344.1,0,([]:List Int),bt344.2.1,bt344.2.2))):=by
    intro c h' hc;exact Rp.thn (number_f l hl c h' hc) (fun a ha=>Rp.now ⟨⟨wi_int _ ha.1,Nat.zero_le _⟩,ha.2⟩)
  refine Rp.bind0 e1 (Rp.both (fun _=>?_) (fun _=>Rp.both (fun _=>?_) (fun _=>Rp.both (fun _=>?_) (fun _=>Rp.both (fun _=>?_) (fun _=>last c1 h1 q1)))))
  · exact Rp.thn (some_f l hl c1 h1 q1 8 Z8) (fun a ha=>Rp.now ⟨⟨wi_text _ ha.1.1 (Nat.le_trans ha.1.2 Z33),Nat.le_trans ha.1.2 Z33⟩,ha.2⟩)
  · obtain⟨f,c3,h3,e3,hf,q3⟩:=l2float_f l hl c1 h1 q1;exact Rp.bind e3 (Rp.now ⟨⟨wi_float _ hf,Nat.zero_le _⟩,q3⟩)
  · obtain⟨y,c2,h2,e2,y0,y1,q2⟩:=below_f l hl c1 h1 q1 64;have y2:=y1 Z8;obtain⟨m,rfl⟩:=Int.eq_ofNat_of_zero_le y0;obtain⟨f1,f2,f3⟩:=quarter_ok ⟨m,by omega⟩;refine Rp.bind0 e2 ?_;show Rp (WR 40) (fun k=>if (fok .quo (fofi (wrap64 ((m:Int) - 32))) 4616189618054758400)=true then (some (2,0,cn (fval .quo (fofi (wrap64 ((m:Int) - 32))) 4616189618054758400),([]:List Int),c2,h2)) else none);rw[w64 (x:=(m:Int) - 32) Z8 Z8];exact Rp.pos f1 (Rp.now ⟨⟨wi_float _ (told_cn f2),Nat.zero_le _⟩,q2⟩)
  · obtain⟨o,c2,h2,e2,q2⟩:=once_f l hl c1 h1 q1 5;refine Rp.bind0 e2 (Rp.both (fun _=>?_) (fun _=>last c2 h2 q2));exact Rp.thn (some_f l hl c2 h2 q2 40 Z8) (fun a ha=>Rp.now ⟨⟨wi_text _ ha.1.1 ha.1.2,ha.1.2⟩,ha.2⟩)
abbrev TTC:=Int×Int×Int×Int×Nat×List Int×Int×Int×Nat×List Int×Int×Int
def WTC(r:TTC):Prop:=((r.1≤1000∧r.2.1≤1000)∧WI r.2.2.1 r.2.2.2.1 r.2.2.2.2.1 r.2.2.2.2.2.1∧WI r.2.2.2.2.2.2.1 r.2.2.2.2.2.2.2.1 r.2.2.2.2.2.2.2.2.1 r.2.2.2.2.2.2.2.2.2.1)∧0≤r.2.2.2.2.2.2.2.2.2.2.1
theorem l6tuple_f(l:List Int)(hl:l.length≤1048576)(i h:Int)(hi:0≤i):Rp WTC (fun k=>spec_l6tuple.f k l i h):=by
  unfold spec_l6tuple.f;obtain⟨x,c1,h1,e1,x0,x1,q1⟩:=below_f l hl i h hi 9;have x2:=x1 Z8;have wx:wrap64 (1+x)=1+x:=w64 Z8 Z8;refine Rp.bind0 e1 (Rp.thn (key_f l hl c1 h1 q1) (fun a ha=>Rp.thn (value_f l hl _ _ ha.2) (fun b hb=>?_)));obtain⟨o,c2,h2,e2,q2⟩:=once_f l hl _ b.2.2.2.2.2 hb.2 3;refine Rp.bind0 e2 (Rp.both (fun _=>?_) (fun _=>?_))
  · obtain⟨y,c3,h3,e3,y0,y1,q3⟩:=below_f l hl c2 h2 q2 9;have y2:=y1 Z8;have wy:wrap64 (1+y)=1+y:=w64 Z8 Z8;exact Rp.bind0 e3 (Rp.now (P:=WTC) (r:=(wrap64 (1+x),wrap64 (1+y),a.1,a.2.1,a.2.2.1,a.2.2.2.1,b.1,b.2.1,b.2.2.1,b.2.2.2.1,c3,h3)) ⟨⟨⟨by show wrap64 (1+x)≤1000;omega,by show wrap64 (1+y)≤1000;omega⟩,ha.1.1,hb.1.1⟩,q3⟩)
  · exact Rp.now (P:=WTC) (r:=(wrap64 (1+x),0,a.1,a.2.1,a.2.2.1,a.2.2.2.1,b.1,b.2.1,b.2.2.1,b.2.2.2.1,c2,h2)) ⟨⟨⟨by show wrap64 (1+x)≤1000;omega,by show (0:Int)≤1000;omega⟩,ha.1.1,hb.1.1⟩,q2⟩
def puOf(lsn:Int)(l:List (List Int)):Int :=
  if ¬((0≤lsn∧lsn≤1000000)∧l.length≤16) then -1
  else if ∃x∈l,92<x.length then -1
  else if 240<1+l.length+sumLen l then -1
  else if 0<l.length∧(rd_L1 l ((l.length:Int) - 1)).length=0 then -1
  else 1+l.length+sumLen l
theorem small_sum(l:List (List Int))(h:¬ ∃x∈l,92<x.length):sumLen l≤92*l.length:=by
  induction l with
  | nil=>simp[sumLen]
  | cons x l ih =>
    have h1:=ih (fun ⟨y,hy,hz⟩=>h ⟨y,List.mem_cons_of_mem _ hy,hz⟩);have h2:¬92<x.length:=fun hz=>h ⟨x,List.mem_cons_self ..,hz⟩;simp only[sumLen,List.length_cons];omega
def sumTake(l:List (List Int))(i:Nat):Nat:=sumLen (l.take i)
theorem sumTake_succ(l:List (List Int))(i:Nat)(h:i<l.length):sumTake l (i+1)=sumTake l i+(l[i]).length:=by
  have hs:∀a b:List (List Int),sumLen (a++b)=sumLen a+sumLen b:=by
    intro a b
    induction a with
    | nil=>simp[sumLen]
    | cons x a ih=>simp only[List.cons_append,sumLen,ih];omega
  unfold sumTake;rw[List.take_succ_eq_append_getElem h,hs];simp[sumLen]
theorem sumTake_le(l:List (List Int))(i:Nat)(hl:l.length≤16)(hi:i≤l.length)(h:∀j (hj:j<l.length),j<i→(l[j]).length≤92):sumTake l i≤92*i:=by
  induction i with
  | zero=>simp[sumTake,sumLen]
  | succ i ih =>
    have h1:=ih Z8 (fun j hj hji=>h j hj Z8);have h2:=h i Z8 Z8;rw[sumTake_succ l i Z8];omega
theorem spec_PageUsed_end(lsn:Int)(l:List (List Int))(hp:(0≤lsn∧lsn≤1000000)∧l.length≤16)(hs:¬ ∃x∈l,92<x.length):∀(i:Nat),i=l.length →
    Ev (fun k=>spec_PageUsed.l0 k (1+l.length+sumLen l:Int) (i:Int) lsn l) (puOf lsn l):=by
  intro i hi;have hb:=small_sum l hs;unfold puOf;rw[if_neg (not_not_intro hp),if_neg hs]
  have last:∀b:Bool,b=decide (0<l.length∧(rd_L1 l ((l.length:Int) - 1)).length=0)→Ev (fun k=>spec_PageUsed.j2 k (1+l.length+sumLen l:Int) b) (if 240<1+l.length+sumLen l then -1 else if 0<l.length∧(rd_L1 l ((l.length:Int) - 1)).length=0 then -1 else 1+l.length+sumLen l):=by
    intro b hb2;refine Ev.step (f:=fun _=>some (if 240<1+l.length+sumLen l then (-1:Int) else if 0<l.length∧(rd_L1 l ((l.length:Int) - 1)).length=0 then -1 else 1+l.length+sumLen l)) (fun k=>?_) (Ev.now _);simp only[spec_PageUsed.j2,hb2,decide_eq_true_eq];by_cases h1:0<l.length∧(rd_L1 l ((l.length:Int) - 1)).length=0
    · rw[if_pos h1,if_pos h1];split <;> rfl
    · rw[if_neg h1,if_neg h1];by_cases h2:240<1+l.length+sumLen l
      · rw[if_pos Z8,if_pos h2]
      · rw[if_neg Z8,if_neg h2]
  by_cases h0:(l.length:Int) > 0
  · refine Ev.step (fun k=>?_) (last _ rfl);simp only[spec_PageUsed.l0]
    rw[if_neg Z8,if_pos h0,w64 Z8 Z8,if_pos Z8,if_pos Z8]
    congr 1
    by_cases h1:(rd_L1 l ((l.length:Int) - 1)).length=0
    · rw[decide_eq_true ⟨by omega,h1⟩,h1];rfl
    · rw[decide_eq_false (fun h=>h1 h.2)];simpa using h1
  · refine Ev.step (fun k=>?_) (last false (by rw[decide_eq_false];omega));simp only[spec_PageUsed.l0];rw[if_neg Z8,if_neg h0]
theorem spec_PageUsed_l(lsn:Int)(l:List (List Int))(hp:(0≤lsn∧lsn≤1000000)∧l.length≤16)(d:Nat):∀(i:Nat),i+d=l.length→(∀j (hj:j<l.length),j<i→(l[j]).length≤92) →
    Ev (fun k=>spec_PageUsed.l0 k (1+l.length+sumTake l i:Int) (i:Int) lsn l) (puOf lsn l):=by
  induction d with
  | zero =>
    intro i hi hj;(have e:sumTake l i=sumLen l:=by unfold sumTake;rw[List.take_of_length_le Z8]);rw[e];refine spec_PageUsed_end lsn l hp ?_ i Z8;rintro ⟨x,hx,h⟩;obtain⟨j,hjl,rfl⟩:=List.mem_iff_getElem.1 hx;have:=hj j hjl Z8;omega
  | succ d ih =>
    intro i hi hj;have hr:=rdl_nat l i Z8;have hb:=sumTake_le l i hp.2 Z8 hj;by_cases h:(l[i]'Z8).length > 92
    · have e:puOf lsn l = -1:=by
        unfold puOf;rw[if_neg (not_not_intro hp),if_pos ⟨_,List.getElem_mem _,h⟩]
      rw[e];refine Ev.step (f:=fun _=>some (-1)) (fun k=>?_) (Ev.now _);simp only[spec_PageUsed.l0];rw[if_pos Z8,if_pos Z8,hr,if_pos Z8]
    · have h2:=ih (i+1) Z8 (by
        intro j hjl hji;by_cases hje:j=i
        · subst hje;omega
        · exact hj j hjl Z8)
      rw[sumTake_succ l i Z8]at h2;refine Ev.step (fun k=>?_) h2;simp only[spec_PageUsed.l0]
      rw[if_pos Z8,if_pos Z8,hr,if_neg Z8,w64 (x:=1+(l.length:Int)+(sumTake l i:Int)+((l[i]'Z8).length:Int)) Z8 Z8,w64 Z8 Z8]
      congr 1
      omega
theorem impl_PageUsed_l(lsn:Int)(l:List (List Int))(hp:(0≤lsn∧lsn≤1000000)∧l.length≤16)(d:Nat):∀(i:Nat),i+d=l.length→(∀j (hj:j<l.length),j<i→(l[j]).length≤92) →
    Ev (fun k=>impl_PageUsed.l0 k (1+l.length+sumTake l i:Int) l (l.length:Int) (i:Int) lsn l) (puOf lsn l):=by
  induction d with
  | zero =>
    intro i hi hj;(have e:sumTake l i=sumLen l:=by unfold sumTake;rw[List.take_of_length_le Z8]);rw[e]
    have hs:¬ ∃x∈l,92<x.length:=by
      rintro ⟨x,hx,h⟩;obtain⟨j,hjl,rfl⟩:=List.mem_iff_getElem.1 hx;have:=hj j hjl Z8;omega
    have hb:=small_sum l hs;unfold puOf;rw[if_neg (not_not_intro hp),if_neg hs];refine Ev.step (f:=fun _=>some (if 240<1+l.length+sumLen l then (-1:Int) else if 0<l.length∧(rd_L1 l ((l.length:Int) - 1)).length=0 then -1 else 1+l.length+sumLen l)) (fun k=>?_) (Ev.now _);simp only[impl_PageUsed.l0];rw[if_neg Z8];by_cases h2:240<1+l.length+sumLen l
    · rw[if_pos Z8,if_pos h2]
    · rw[if_neg Z8,if_neg h2];by_cases h0:(l.length:Int) > 0
      · rw[if_pos h0,w64 Z8 Z8,if_pos Z8,if_pos Z8];by_cases h1:(rd_L1 l ((l.length:Int) - 1)).length=0
        · rw[if_pos Z8,if_pos ⟨by omega,h1⟩]
        · rw[if_neg Z8,if_neg (fun h=>h1 h.2)]
      · rw[if_neg h0,if_neg Z8]
  | succ d ih =>
    intro i hi hj;have hr:=rdl_nat l i Z8;have hb:=sumTake_le l i hp.2 Z8 hj;by_cases h:(l[i]'Z8).length > 92
    · have e:puOf lsn l = -1:=by
        unfold puOf;rw[if_neg (not_not_intro hp),if_pos ⟨_,List.getElem_mem _,h⟩]
      rw[e];refine Ev.step (f:=fun _=>some (-1)) (fun k=>?_) (Ev.now _);simp only[impl_PageUsed.l0];rw[if_pos Z8,if_pos Z8,if_pos Z8,hr,if_pos Z8]
    · have h2:=ih (i+1) Z8 (by
        intro j hjl hji;by_cases hje:j=i
        · subst hje;omega
        · exact hj j hjl Z8)
      rw[sumTake_succ l i Z8]at h2;refine Ev.step (fun k=>?_) h2;simp only[impl_PageUsed.l0]
      rw[if_pos Z8,if_pos Z8,if_pos Z8,hr,if_neg Z8,w64 (x:=1+(l.length:Int)+(sumTake l i:Int)+((l[i]'Z8).length:Int)) Z8 Z8,w64 Z8 Z8]
      congr 1
      omega
theorem puOf_off(lsn:Int)(l:List (List Int))(h:¬((0≤lsn∧lsn≤1000000)∧l.length≤16)):puOf lsn l = -1:=by
  unfold puOf;rw[if_pos h]
theorem spec_PageUsed_f(lsn:Int)(l:List (List Int))(hn:l.length≤1048576):Ev (fun k=>spec_PageUsed.f k lsn l) (puOf lsn l):=by
  unfold spec_PageUsed.f;refine ev_bind0 (spec_l5in_f _ _ _) ?_;by_cases h:0≤lsn∧lsn≤1000000
  · refine ev_pos (decide_eq_true h) ?_;by_cases h2:(l.length:Int) > 16
    · rw[decide_eq_true h2,puOf_off lsn l (fun h=>by have:=h.2;omega)];exact Ev.step (f:=fun _=>some (-1)) (fun k=>by simp only[spec_PageUsed.j0,if_true]) (Ev.now _)
    · rw[decide_eq_false h2];refine Ev.step (fun k=>by simp only[spec_PageUsed.j0,Bool.false_eq_true,if_false];rfl) ?_;rw[w64 Z8 Z8];have:=spec_PageUsed_l lsn l ⟨h,by omega⟩ l.length 0 Z8 (fun j hj hji=>by omega);simpa [sumTake,sumLen] using this
  · rw[puOf_off lsn l (fun h2=>h h2.1)];refine ev_neg (by simpa using h) ?_;exact Ev.step (f:=fun _=>some (-1)) (fun k=>by simp only[spec_PageUsed.j0,if_true]) (Ev.now _)
theorem impl_PageUsed_f(lsn:Int)(l:List (List Int))(hn:l.length≤1048576):Ev (fun k=>impl_PageUsed.f k lsn l) (puOf lsn l):=by
  unfold impl_PageUsed.f;refine ev_bind0 (impl_within_f _ _ _) ?_;by_cases h:0≤lsn∧lsn≤1000000
  · refine ev_pos (decide_eq_true h) ?_;by_cases h2:(l.length:Int) > 16
    · rw[decide_eq_true h2,puOf_off lsn l (fun h=>by have:=h.2;omega)];exact Ev.step (f:=fun _=>some (-1)) (fun k=>by simp only[impl_PageUsed.j0,if_true]) (Ev.now _)
    · rw[decide_eq_false h2];refine Ev.step (fun k=>by simp only[impl_PageUsed.j0,Bool.false_eq_true,if_false];rfl) ?_;rw[w64 Z8 Z8];have:=impl_PageUsed_l lsn l ⟨h,by omega⟩ l.length 0 Z8 (fun j hj hji=>by omega);simpa [sumTake,sumLen] using this
  · rw[puOf_off lsn l (fun h2=>h h2.1)];refine ev_neg (by simpa using h) ?_;exact Ev.step (f:=fun _=>some (-1)) (fun k=>by simp only[impl_PageUsed.j0,if_true]) (Ev.now _)
theorem pu_small(lsn:Int)(l:List (List Int))(h:¬puOf lsn l<0):l.length≤16∧∀x∈l,x.length≤92:=by
  unfold puOf at h;split at h
  · omega
  · rename_i h1;split at h
    · omega
    · rename_i h2;refine⟨by omega,fun x hx=>?_⟩;rcases Nat.lt_or_ge 92 x.length with h3|h3
      · exact absurd ⟨x,hx,h3⟩ h2
      · exact h3
theorem l7copy_l(lsn:Int)(l:List (List Int))(hl:l.length≤16)(hx:∀x∈l,x.length≤92)(d:Nat):∀i:Nat,i+d=l.length→Ev (fun k=>spec_l7copy.l0 k (i:Int) lsn l lsn (l.take i)) (lsn,l):=by
  induction d with
  | zero =>
    intro i hi;rw[List.take_of_length_le Z8];exact Ev.step (fun k=>by rw[spec_l7copy.l0,if_neg Z8]) (Ev.now _)
  | succ d ih =>
    intro i hi;have hr:=rdl_nat l i Z8;have hb:=hx _ (List.getElem_mem (show i<l.length by omega));refine Ev.step (fun k=>by rw[spec_l7copy.l0,if_pos Z8,Option.bind_some,if_pos Z8,hr,if_pos Z137,if_pos Z138,w64 Z8 Z8,List.nil_append]) ?_;rw[← List.take_succ_eq_append_getElem Z8];exact ih (i+1) Z8
theorem l7copy_f(lsn:Int)(l:List (List Int))(hl:l.length≤16)(hx:∀x∈l,x.length≤92):Ev (fun k=>spec_l7copy.f k lsn l) (lsn,l):=by
  unfold spec_l7copy.f;exact l7copy_l lsn l hl hx l.length 0 Z8
theorem slots_l(l:List (List Int))(hl:l.length≤16)(hx:∀x∈l,x.length≤92)(d:Nat):∀i:Nat,i+d=l.length→Ev (fun k=>impl_Page_slots.l0 k (l.take i) l (l.length:Int) (i:Int)) l:=by
  induction d with
  | zero =>
    intro i hi;rw[List.take_of_length_le Z8];exact Ev.step (fun k=>by rw[impl_Page_slots.l0,if_neg Z8]) (Ev.now _)
  | succ d ih =>
    intro i hi;have hr:=rdl_nat l i Z8;have hb:=hx _ (List.getElem_mem (show i<l.length by omega))
    have hc:slices_Clone_byte_byte.f (l[i]'Z8)=some (l[i]'Z8):=by
      unfold slices_Clone_byte_byte.f;rw[Option.bind_some,if_pos Z137,List.nil_append]
    refine Ev.step (fun k=>by rw[impl_Page_slots.l0,if_pos Z8,if_pos Z8,if_pos Z8,hr,hc,Option.bind_some,if_pos Z138,w64 Z8 Z8]) ?_;rw[← List.take_succ_eq_append_getElem Z8];exact ih (i+1) Z8
theorem slots_f(lsn:Int)(l:List (List Int))(hl:l.length≤16)(hx:∀x∈l,x.length≤92):Ev (fun k=>impl_Page_slots.f k lsn l) l:=by
  unfold impl_Page_slots.f;exact slots_l l hl hx l.length 0 Z8
def fe:List (List Int)→Nat→Int
  | [],_=>-1
  | x :: xs,i=>if x.length=0 then (i:Int) else fe xs (i+1)
theorem fe_drop(l:List (List Int))(i:Nat)(h:i<l.length):fe (l.drop i) i=if (l[i]).length=0 then (i:Int) else fe (l.drop (i+1)) (i+1):=by
  rw[List.drop_eq_getElem_cons h,fe]
theorem fe_end(l:List (List Int))(i:Nat)(h:l.length≤i):fe (l.drop i) i = -1:=by
  rw[List.drop_eq_nil_of_le h,fe]
theorem pu_bound(lsn:Int)(l:List (List Int)):puOf lsn l = -1∨(1≤puOf lsn l∧puOf lsn l≤240∧l.length≤16):=by
  unfold puOf;(repeat' split);all_goals omega
def placeOf(u n:Int)(l:List (List Int)):Int :=
  if u<0∨n<1∨92<n then -1 else if u+n≤240∧0≤fe l 0 then fe l 0 else if l.length<16∧u+1+n≤240 then l.length else -1
theorem spec_PagePlace_l(lsn u n:Int)(l:List (List Int))(hu:1≤u∧u≤240)(hn:1≤n∧n≤92)(hl:l.length≤16)(d:Nat):∀i:Nat,i+d=l.length →
    Ev (fun k=>spec_PagePlace.l0 k n u (i:Int) lsn l) (if u+n≤240∧0≤fe (l.drop i) i then fe (l.drop i) i else if l.length<16∧u+1+n≤240 then l.length else -1):=by
  induction d with
  | zero =>
    intro i hi;rw[fe_end l i Z8,if_neg Z8];refine Ev.step (fun k=>by rw[spec_PagePlace.l0,if_neg Z8]) ?_;by_cases h1:l.length<16
    · refine ev_pos Z8 ?_;rw[w64 (x:=u+1) Z8 Z8,w64 Z8 Z8];by_cases h2:u+1+n≤240
      · refine ev_pos h2 ?_;rw[if_pos ⟨h1,h2⟩];exact Ev.now _
      · refine ev_neg h2 ?_;rw[if_neg Z8];exact Ev.now _
    · refine ev_neg Z8 ?_;rw[if_neg Z8];exact Ev.now _
  | succ d ih =>
    intro i hi;refine Ev.step (fun k=>by rw[spec_PagePlace.l0,if_pos Z8,if_pos Z8,rdl_nat l i Z8]) ?_;rw[fe_drop l i Z8];have next:=ih (i+1) Z8;rw[w64 (x:=u+n) Z8 Z8,w64 (x:=(i:Int)+1) Z8 Z8];by_cases h:(l[i]'Z8).length=0
    · rw[if_pos h];refine ev_pos Z8 ?_;by_cases h2:u+n≤240
      · rw[if_pos ⟨h2,by omega⟩];exact ev_pos h2 (Ev.now _)
      · refine ev_neg h2 ?_;rw[if_neg Z8];rw[if_neg Z8]at next;exact next
    · rw[if_neg h];exact ev_neg Z8 next
theorem spec_PagePlace_f(lsn n:Int)(l:List (List Int))(hl:l.length≤1048576):Ev (fun k=>spec_PagePlace.f k lsn l n) (placeOf (puOf lsn l) n l):=by
  unfold spec_PagePlace.f placeOf;refine Ev.bind (spec_PageUsed_f lsn l hl) ?_;have hb:=pu_bound lsn l;have bad:Ev (fun k=>spec_PagePlace.j0 k n (puOf lsn l) true lsn l) (-1):=Ev.step (fun k=>by rw[spec_PagePlace.j0,if_pos rfl]) (Ev.now _);by_cases hu:puOf lsn l<0
  · rw[if_pos (Or.inl hu)];exact ev_pos hu bad
  · refine ev_neg hu ?_;refine ev_bind0 (spec_l5in_f n 1 92) ?_;by_cases hn:1≤n∧n≤92
    · rw[decide_eq_true hn,if_neg Z8];refine Ev.step (fun k=>by rw[spec_PagePlace.j0,if_neg Z45]) ?_;exact spec_PagePlace_l lsn _ n l Z8 hn Z8 l.length 0 Z8
    · rw[decide_eq_false hn,if_pos Z8];exact bad
def padTo(l:List (List Int))(s:Nat):List (List Int):=l++List.replicate (s+1 - l.length) []
theorem padTo_length(l:List (List Int))(s:Nat):(padTo l s).length=max l.length (s+1):=by
  unfold padTo;rw[List.length_append,List.length_replicate];omega
theorem padTo_grow(l:List (List Int))(s:Nat)(h:l.length≤s):padTo (l ++ [[]]) s=padTo l s:=by
  unfold padTo;rw[List.append_assoc,List.length_append,List.length_singleton,show s+1 - l.length=(s+1 - (l.length+1))+1 by omega,List.replicate_succ];rfl
theorem padTo_done(l:List (List Int))(s:Nat)(h:s<l.length):padTo l s=l:=by
  unfold padTo;rw[show s+1 - l.length=0 by omega,List.replicate_zero,List.append_nil]
def putEnd(n:Int)(l:List (List Int))(s:Nat)(d:List Int):Int×List (List Int)×Bool :=
  if puOf n ((padTo l s).set s d)<0 then (0,[],false) else (n,(padTo l s).set s d,true)
def putOf(lsn:Int)(l:List (List Int))(s:Int)(d:List Int)(n:Int):Int×List (List Int)×Bool :=
  if puOf lsn l<0∨¬(0≤s∧s≤15)∨d.length=0∨¬(1≤n∧n≤1000000) then (0,[],false) else putEnd n l s.toNat d
theorem putEnd_big(n:Int)(l:List (List Int))(s:Nat)(d:List Int)(h:92<d.length):putEnd n l s d=(0,[],false):=by
  unfold putEnd;rw[if_pos];have hm:d∈(padTo l s).set s d:=List.mem_set (by rw[padTo_length];omega) d;unfold puOf;split
  · omega
  · rw[if_pos ⟨d,hm,h⟩];omega
theorem putOf_small(lsn:Int)(l:List (List Int))(s:Int)(d:List Int)(n:Int):(putOf lsn l s d n).2.1.length≤16∧∀x∈(putOf lsn l s d n).2.1,x.length≤92:=by
  unfold putOf;split
  · exact⟨by simp,by simp⟩
  · unfold putEnd;split
    · exact⟨by simp,by simp⟩
    · rename_i h;exact pu_small n _ h
theorem put_spec(n lsn:Int)(s:Nat)(hs:s≤15)(d:List Int)(hd:d.length≤92)(m:Nat):∀l:List (List Int),s+1 - l.length=m→l.length≤16→Ev (fun k=>spec_PagePut.l0 k (s:Int) d n lsn l) (putEnd n l s d):=by
  induction m with
  | zero =>
    intro l hm hl;have hp:=padTo_done l s Z8;unfold putEnd;rw[hp];refine Ev.step (fun k=>by rw[spec_PagePut.l0,if_neg Z8,Option.bind_some,if_pos Z137,if_pos Z8,if_pos Z8,Option.bind_some,List.nil_append,show ((s:Nat):Int).toNat=s from rfl]) ?_;refine Ev.bind (spec_PageUsed_f n (l.set s d) (by rw[List.length_set];omega)) ?_;by_cases hu:puOf n (l.set s d)<0
    · rw[if_pos hu,if_pos hu];exact Ev.now _
    · rw[if_neg hu,if_neg hu];exact Ev.now _
  | succ m ih =>
    intro l hm hl;refine Ev.step (fun k=>by rw[spec_PagePut.l0,if_pos Z8,if_pos Z8]) ?_;have:=ih (l ++ [[]]) Z132 Z132;unfold putEnd at this ⊢;rw[padTo_grow l s Z8]at this;exact this
theorem put_impl(n:Int)(s:Nat)(hs:s≤15)(d:List Int)(hd:d.length≤1048576)(m:Nat):∀l:List (List Int),s+1 - l.length=m→l.length≤16→Ev (fun k=>impl_PagePut.l0 k (s:Int) d n l) (putEnd n l s d):=by
  induction m with
  | zero =>
    intro l hm hl;have hp:=padTo_done l s Z8;unfold putEnd;rw[hp];refine Ev.step (fun k=>by rw[impl_PagePut.l0,if_neg Z8,cloneByte_f d hd,Option.bind_some,if_pos Z8,if_pos Z8,Option.bind_some,show ((s:Nat):Int).toNat=s from rfl]) ?_;refine Ev.bind (impl_PageUsed_f n (l.set s d) (by rw[List.length_set];omega)) ?_;by_cases hu:puOf n (l.set s d)<0
    · rw[if_pos hu,if_pos hu];exact Ev.now _
    · rw[if_neg hu,if_neg hu];exact Ev.now _
  | succ m ih =>
    intro l hm hl;refine Ev.step (fun k=>by rw[impl_PagePut.l0,if_pos Z8,if_pos Z8]) ?_;have:=ih (l ++ [[]]) Z132 Z132;unfold putEnd at this ⊢;rw[padTo_grow l s Z8]at this;exact this
theorem spec_PagePut_f(lsn:Int)(l:List (List Int))(s:Int)(d:List Int)(n:Int)(hl:l.length≤1048576):Ev (fun k=>spec_PagePut.f k lsn l s d n) (putOf lsn l s d n):=by
  unfold spec_PagePut.f putOf;refine Ev.bind (spec_PageUsed_f lsn l hl) ?_;have bad:Ev (fun k=>spec_PagePut.j0 k s d n true lsn l) (0,[],false):=Ev.step (fun k=>by rw[spec_PagePut.j0,if_pos rfl]) (Ev.now _);by_cases hu:puOf lsn l<0
  · rw[if_pos (Or.inl hu)];exact ev_pos hu bad
  refine ev_neg hu (ev_bind0 (spec_l5in_f s 0 15) ?_);by_cases hs:0≤s∧s≤15
  · refine ev_pos (decide_eq_true hs) ?_;by_cases h0:d.length=0
    · rw[if_pos (Or.inr (Or.inr (Or.inl h0)))];exact ev_pos Z8 bad
    refine ev_neg Z8 ?_;by_cases h9:92<d.length
    · refine ev_pos Z8 ?_;rw[putEnd_big n l s.toNat d h9,ite_self];exact bad
    refine ev_neg Z8 (ev_bind0 (spec_l5in_f n 1 1000000) ?_);by_cases hn:1≤n∧n≤1000000
    · rw[decide_eq_true hn,if_neg (fun h=>h.elim hu (fun h=>h.elim (fun h=>h hs) (fun h=>h.elim h0 (fun h=>h hn))))];have hp:=pu_small lsn l hu;refine Ev.step (fun k=>by rw[spec_PagePut.j0,if_neg Z45]) (Ev.bind (l7copy_f lsn l hp.1 hp.2) ?_);have:=put_spec n lsn s.toNat Z8 d Z8 _ l rfl hp.1;rw[show ((s.toNat:Nat):Int)=s by omega]at this;exact this
    · rw[decide_eq_false hn,if_pos (Or.inr (Or.inr (Or.inr hn)))];exact bad
  · refine ev_neg Z134 ?_;rw[if_pos (Or.inr (Or.inl hs))];exact bad
theorem impl_PagePut_f(lsn:Int)(l:List (List Int))(s:Int)(d:List Int)(n:Int)(hl:l.length≤1048576)(hd:d.length≤1048576):Ev (fun k=>impl_PagePut.f k lsn l s d n) (putOf lsn l s d n):=by
  unfold impl_PagePut.f putOf;refine Ev.bind (impl_PageUsed_f lsn l hl) ?_;have bad:Ev (fun k=>impl_PagePut.j0 k s d n true lsn l) (0,[],false):=Ev.step (fun k=>by rw[impl_PagePut.j0,if_pos rfl]) (Ev.now _);by_cases hu:puOf lsn l<0
  · rw[if_pos (Or.inl hu)];exact ev_pos hu bad
  refine ev_neg hu (ev_bind0 (show impl_isSlot.f s=some (decide (0≤s∧s≤15)) by unfold impl_isSlot.f;rw[impl_within_f];rfl) ?_);by_cases hs:0≤s∧s≤15
  · refine ev_pos (decide_eq_true hs) ?_;by_cases h0:d.length=0
    · rw[if_pos (Or.inr (Or.inr (Or.inl h0)))];exact ev_pos Z8 bad
    refine ev_neg Z8 ?_;refine ev_bind0 (show impl_isLsn.f n=some (decide (1≤n∧n≤1000000)) by unfold impl_isLsn.f;rw[impl_within_f];rfl) ?_;by_cases hn:1≤n∧n≤1000000
    · rw[decide_eq_true hn,if_neg (fun h=>h.elim hu (fun h=>h.elim (fun h=>h hs) (fun h=>h.elim h0 (fun h=>h hn))))];have hp:=pu_small lsn l hu;refine Ev.step (fun k=>by rw[impl_PagePut.j0,if_neg Z45]) (Ev.bind (slots_f lsn l hp.1 hp.2) ?_);have:=put_impl n s.toNat Z8 d hd _ l rfl hp.1;rw[show ((s.toNat:Nat):Int)=s by omega]at this;exact this
    · rw[decide_eq_false hn,if_pos (Or.inr (Or.inr (Or.inr hn)))];exact bad
  · refine ev_neg Z134 ?_;rw[if_pos (Or.inr (Or.inl hs))];exact bad
def trimN:Nat→List (List Int)→List (List Int)
  | 0,l=>l
  | n+1,l=>if 0<l.length∧(rd_L1 l ((l.length:Int) - 1)).length=0 then trimN n (l.take (l.length - 1)) else l
theorem trim_small(n:Nat):∀(l:List (List Int)) (a b:Nat),l.length≤a→(∀x∈l,x.length≤b)→(trimN n l).length≤a∧∀x∈trimN n l,x.length≤b:=by
  induction n with
  | zero=>intro l a b h1 h2;exact⟨h1,h2⟩
  | succ n ih =>
    intro l a b h1 h2;rw[trimN];split
    · exact ih _ a b Z138 (fun x hx=>h2 x (List.mem_of_mem_take hx))
    · exact⟨h1,h2⟩
theorem trim_spec(lsn:Int)(n:Nat):∀l:List (List Int),l.length≤n→n≤1000→Ev (fun k=>spec_PageClear.l0 k lsn l) (lsn,trimN n l,true):=by
  induction n with
  | zero =>
    intro l hl hn;exact Ev.step (fun k=>by rw[spec_PageClear.l0,if_neg Z8];rfl) (Ev.now _)
  | succ n ih =>
    intro l hl hn;rw[trimN];by_cases h0:0<l.length
    · by_cases h1:(rd_L1 l ((l.length:Int) - 1)).length=0
      · rw[if_pos ⟨h0,h1⟩];refine Ev.step (fun k=>by rw[spec_PageClear.l0,if_pos Z8,w64 Z8 Z8,if_pos Z8,if_pos Z8,if_pos Z8,if_pos Z8,show ((l.length:Int) - 1).toNat=l.length - 1 by omega]) ?_;exact ih _ Z138 Z8
      · rw[if_neg (fun h=>h1 h.2)];exact Ev.step (fun k=>by rw[spec_PageClear.l0,if_pos Z8,w64 Z8 Z8,if_pos Z8,if_pos Z8,if_neg Z8]) (Ev.now _)
    · rw[if_neg (fun h=>h0 h.1)];exact Ev.step (fun k=>by rw[spec_PageClear.l0,if_neg Z8]) (Ev.now _)
theorem trim_impl(lsn:Int)(n:Nat):∀l:List (List Int),l.length≤n→n≤1000→Ev (fun k=>impl_PageClear.l0 k lsn l) (lsn,trimN n l,true):=by
  induction n with
  | zero =>
    intro l hl hn;exact Ev.step (fun k=>by rw[impl_PageClear.l0,if_neg Z8];rfl) (Ev.now _)
  | succ n ih =>
    intro l hl hn;rw[trimN];by_cases h0:0<l.length
    · by_cases h1:(rd_L1 l ((l.length:Int) - 1)).length=0
      · rw[if_pos ⟨h0,h1⟩];refine Ev.step (fun k=>by rw[impl_PageClear.l0,if_pos Z8,w64 Z8 Z8,if_pos Z8,if_pos Z8,if_pos Z8,if_pos Z8,show ((l.length:Int) - 1).toNat=l.length - 1 by omega]) ?_;exact ih _ Z138 Z8
      · rw[if_neg (fun h=>h1 h.2)];exact Ev.step (fun k=>by rw[impl_PageClear.l0,if_pos Z8,w64 Z8 Z8,if_pos Z8,if_pos Z8,if_neg Z8]) (Ev.now _)
    · rw[if_neg (fun h=>h0 h.1)];exact Ev.step (fun k=>by rw[impl_PageClear.l0,if_neg Z8]) (Ev.now _)
def clearOf(lsn:Int)(l:List (List Int))(s n:Int):Int×List (List Int)×Bool :=
  if puOf lsn l<0∨¬(0≤s∧s≤(l.length:Int) - 1)∨¬(1≤n∧n≤1000000) then (0,[],false) else (n,trimN 16 (l.set s.toNat []),true)
theorem set_small(l:List (List Int))(i b:Nat)(v:List Int)(hx:∀x∈l,x.length≤b)(hv:v.length≤b):∀x∈l.set i v,x.length≤b:=by
  intro x h;rcases List.mem_or_eq_of_mem_set h with h|h
  · exact hx x h
  · rw[h];exact hv
theorem clear_small(lsn:Int)(l:List (List Int))(s n:Int):(clearOf lsn l s n).2.1.length≤16∧∀x∈(clearOf lsn l s n).2.1,x.length≤92:=by
  unfold clearOf;split
  · exact⟨by simp,by simp⟩
  · rename_i h;have hp:=pu_small lsn l (fun h1=>h (Or.inl h1));exact trim_small 16 _ 16 92 (by rw[List.length_set];exact hp.1) (set_small l _ 92 [] hp.2 Z45)
theorem spec_PageClear_f(lsn:Int)(l:List (List Int))(s n:Int)(hl:l.length≤1048576):Ev (fun k=>spec_PageClear.f k lsn l s n) (clearOf lsn l s n):=by
  unfold spec_PageClear.f clearOf;refine Ev.bind (spec_PageUsed_f lsn l hl) ?_;have bad:Ev (fun k=>spec_PageClear.j0 k s n true lsn l) (0,[],false):=Ev.step (fun k=>by rw[spec_PageClear.j0,if_pos rfl]) (Ev.now _);by_cases hu:puOf lsn l<0
  · rw[if_pos (Or.inl hu)];exact ev_pos hu bad
  · refine ev_neg hu ?_;rw[w64 Z8 Z8];refine ev_bind0 (spec_l5in_f s 0 _) ?_;by_cases hs:0≤s∧s≤(l.length:Int) - 1
    · refine ev_pos (decide_eq_true hs) ?_;refine ev_bind0 (spec_l5in_f n 1 1000000) ?_;by_cases hn:1≤n∧n≤1000000
      · rw[decide_eq_true hn,if_neg (fun h=>h.elim hu (fun h=>h.elim (fun h=>h hs) (fun h=>h hn)))];have hp:=pu_small lsn l hu;refine Ev.step (fun k=>by rw[spec_PageClear.j0,if_neg Z45]) (Ev.bind (l7copy_f lsn l hp.1 hp.2) ?_);refine ev_pos hs.1 (ev_pos (by show s<(l.length:Int);omega) ?_);exact trim_spec n 16 _ (by rw[List.length_set];exact hp.1) Z8
      · rw[decide_eq_false hn,if_pos (Or.inr (Or.inr hn))];exact bad
    · refine ev_neg Z134 ?_;rw[if_pos (Or.inr (Or.inl hs))];exact bad
theorem impl_PageClear_f(lsn:Int)(l:List (List Int))(s n:Int)(hl:l.length≤1048576):Ev (fun k=>impl_PageClear.f k lsn l s n) (clearOf lsn l s n):=by
  unfold impl_PageClear.f clearOf;refine Ev.bind (impl_PageUsed_f lsn l hl) ?_;have bad:Ev (fun k=>impl_PageClear.j0 k s n true lsn l) (0,[],false):=Ev.step (fun k=>by rw[impl_PageClear.j0,if_pos rfl]) (Ev.now _);by_cases hu:puOf lsn l<0
  · rw[if_pos (Or.inl hu)];exact ev_pos hu bad
  · refine ev_neg hu ?_;rw[w64 Z8 Z8];refine ev_bind0 (impl_within_f s 0 _) ?_;by_cases hs:0≤s∧s≤(l.length:Int) - 1
    · refine ev_pos (decide_eq_true hs) ?_;refine ev_bind0 (show impl_isLsn.f n=some (decide (1≤n∧n≤1000000)) by unfold impl_isLsn.f;rw[impl_within_f];rfl) ?_;by_cases hn:1≤n∧n≤1000000
      · rw[decide_eq_true hn,if_neg (fun h=>h.elim hu (fun h=>h.elim (fun h=>h hs) (fun h=>h hn)))];have hp:=pu_small lsn l hu;refine Ev.step (fun k=>by rw[impl_PageClear.j0,if_neg Z45]) (Ev.bind (slots_f lsn l hp.1 hp.2) ?_);refine ev_pos hs.1 (ev_pos Z8 ?_);exact trim_impl n 16 _ (by rw[List.length_set];exact hp.1) Z8
      · rw[decide_eq_false hn,if_pos (Or.inr (Or.inr hn))];exact bad
    · refine ev_neg Z134 ?_;rw[if_pos (Or.inr (Or.inl hs))];exact bad
theorem key_isB(kd n:Int)(b:Nat)(t:List Int)(ht:IsBytes t):IsBytes (keyBytesOf kd n b t):=by
  unfold keyBytesOf;split
  · exact itemBytesOf_bytes _ _ _ _ ht
  · exact isB_nil
theorem value_isB(kd n:Int)(b:Nat)(t:List Int)(ht:IsBytes t):IsBytes (valueBytesOf kd n b t):=by
  unfold valueBytesOf;split
  · exact itemBytesOf_bytes _ _ _ _ ht
  · exact isB_nil
theorem pn4_isB(x:Int):IsBytes (pn x 4):=by
  unfold pn;split
  · exact le_bytes _ _
  · exact isB_nil
theorem tuple_isB(x y ka kb:Int)(kf:Nat)(kt:List Int)(va vb:Int)(vf:Nat)(vt:List Int)(hk:IsBytes kt)(hv:IsBytes vt):IsBytes (tupleBytesOf x y ka kb kf kt va vb vf vt):=by
  unfold tupleBytesOf;split
  · exact isB_app (isB_app (isB_app (isB_app (isB_app (pn4_isB x) (pn4_isB y)) (isB_one _)) (key_isB _ _ _ _ hk)) (isB_one _)) (value_isB _ _ _ _ hv)
  · exact isB_nil
def PG(m b:Nat)(p:List (List Int)):Prop:=p.length≤m∧∀x∈p,x.length≤b∧IsBytes x
abbrev PGR:=Int×List (List Int)×Int×Int
def WPg(m b:Nat)(r:PGR):Prop:=PG m b r.2.1∧0≤r.2.2.1
theorem PG.nil(m b:Nat):PG m b []:=⟨Nat.zero_le _,fun x h=>by cases h⟩
theorem PG.snoc{m b:Nat}{p:List (List Int)}(h:PG m b p){x:List Int}(hx:x.length≤b∧IsBytes x):PG (m+1) b (p ++ [x]) :=
  ⟨by rw[List.length_append]; exact Nat.add_le_add_right h.1 1, fun y hy => by
    rcases List.mem_append.1 hy with hy|hy
    · exact h.2 y hy
    · rcases List.mem_cons.1 hy with rfl|hy
      · exact hx
      · cases hy⟩
theorem PG.mono{m b m' b':Nat}{p:List (List Int)}(h:PG m b p)(h1:m≤m')(h2:b≤b'):PG m' b' p:=⟨Nat.le_trans h.1 h1,fun x hx=>⟨Nat.le_trans (h.2 x hx).1 h2,(h.2 x hx).2⟩⟩
theorem isB_zeros(n:Nat):IsBytes (List.replicate n 0):=fun x hx=>by rw[(List.mem_replicate.1 hx).2];decide
theorem trim_mem(n:Nat):∀(l:List (List Int)) (x:List Int),x∈trimN n l→x∈l:=by
  induction n with
  | zero=>intro l x h;exact h
  | succ n ih =>
    intro l x h;rw[trimN]at h;split at h
    · exact List.mem_of_mem_take (ih _ _ h)
    · exact h
theorem clear_pg(lsn:Int)(l:List (List Int))(s n:Int){m b:Nat}(h:PG m b l):PG 16 92 (clearOf lsn l s n).2.1:=by
  obtain⟨h1,h2⟩:=clear_small lsn l s n;refine⟨h1,fun x hx=>⟨h2 x hx,?_⟩⟩;unfold clearOf at hx;split at hx
  · cases hx
  · rcases List.mem_or_eq_of_mem_set (trim_mem 16 _ x hx) with hx|rfl
    · exact (h.2 x hx).2
    · exact isB_nil
theorem put_pg(lsn:Int)(l:List (List Int))(s:Int)(d:List Int)(n:Int){m b:Nat}(h:PG m b l)(hd:IsBytes d):PG 16 92 (putOf lsn l s d n).2.1:=by
  obtain⟨h1,h2⟩:=putOf_small lsn l s d n;refine⟨h1,fun x hx=>⟨h2 x hx,?_⟩⟩;unfold putOf putEnd at hx;repeat' split at hx
  · cases hx
  · cases hx
  · rcases List.mem_or_eq_of_mem_set hx with hx|rfl
    · unfold padTo at hx;rcases List.mem_append.1 hx with hx|hx
      · exact (h.2 x hx).2
      · rw[(List.mem_replicate.1 hx).2];exact isB_nil
    · exact hd
theorem page_l(l:List Int)(hl:l.length≤1048576)(d:Nat):∀(x4 c h lsn:Int) (p:List (List Int)),0≤c→x4≤d→d≤100→PG 16 92 p→Rp (WPg 16 92) (fun k=>spec_l7page.l0 k x4 l c h lsn p):=by
  induction d with
  | zero =>
    intro x4 c h lsn p hc hx hd hp;exact Rp.step (fun k=>by rw[spec_l7page.l0]) (Rp.neg Z8 (Rp.now (P:=WPg 16 92) (r:=(lsn,p,c,h)) ⟨hp,hc⟩))
  | succ d ih =>
    intro x4 c h lsn p hc hx hd hp;refine Rp.step (fun k=>by rw[spec_l7page.l0]) (Rp.both (fun h0=>?_) (fun _=>Rp.now (P:=WPg 16 92) (r:=(lsn,p,c,h)) ⟨hp,hc⟩))
    have hN:∀(c h lsn:Int) (p:List (List Int)),0≤c→PG 16 92 p→Rp (WPg 16 92) (fun k=>spec_l7page.l0 k (wrap64 (x4 - 1)) l c h lsn p):=by
      intro c h lsn p hc hp;rw[w64 Z8 Z8];exact ih (x4 - 1) c h lsn p hc Z8 Z8 hp
    have h3:∀(b:Bool) (c h lsn:Int) (p:List (List Int)),0≤c→PG 16 92 p→Rp (WPg 16 92) (fun k=>spec_l7page.j3 k x4 b l c h lsn p):=by
      intro b c h lsn p hc hp;have hp1:=hp.1;refine Rp.step (fun k=>by rw[spec_l7page.j3]) (Rp.both (fun _=>?_) (fun _=>hN c h lsn p hc hp));obtain⟨y,c1,g1,e1,y0,y1,q1⟩:=below_f l hl c h hc (p.length:Int);obtain⟨z,c2,g2,e2,z0,z1,q2⟩:=below_f l hl c1 g1 q1 50;refine Rp.bind0 e1 (Rp.bind0 e2 (Rp.bind (spec_PageClear_f lsn p y (wrap64 (1+z)) Z8) ?_));exact hN _ _ _ _ q2 (clear_pg lsn p y (wrap64 (1+z)) hp)
    have h2:∀(c h lsn:Int) (p:List (List Int)),0≤c→PG 16 92 p→Rp (WPg 16 92) (fun k=>spec_l7page.j2 k x4 l c h lsn p):=by
      intro c h lsn p hc hp;obtain⟨o,c2,g2,e2,q2⟩:=once_f l hl c h hc 5;exact Rp.step (fun k=>by rw[spec_l7page.j2]) (Rp.bind0 e2 (Rp.both (fun _=>h3 _ _ _ _ _ q2 hp) (fun _=>h3 _ _ _ _ _ q2 hp)))
    have h1:∀(x5:List Int) (c h:Int),0≤c→IsBytes x5→Rp (WPg 16 92) (fun k=>spec_l7page.j1 k x4 x5 l c h lsn p):=by
      intro x5 c h hc hx5;have hp1:=hp.1;obtain⟨y,c1,g1,e1,y0,y1,q1⟩:=below_f l hl c h hc 50;refine Rp.step (fun k=>by rw[spec_l7page.j1]) (Rp.bind (spec_PagePlace_f lsn (x5.length:Int) p Z8) (Rp.bind0 e1 (Rp.bind (spec_PagePut_f lsn p _ x5 (wrap64 (1+y)) Z8) (Rp.both (fun _=>?_) (fun _=>?_)))))
      · exact h2 _ _ _ _ q1 (put_pg lsn p _ x5 (wrap64 (1+y)) hp hx5)
      · exact h2 _ _ _ _ q1 hp
    refine Rp.thn (l6tuple_f l hl c h hc) (fun a ha=>?_);obtain⟨⟨⟨m1,m2⟩,w1,w2⟩,qa⟩:=ha;refine Rp.bind (spec_TupleBytes_f _ _ _ _ _ _ _ _ _ _ w1.2.2.1.1 w2.2.2.1.1 (by have:=w1.2.2.2.2;omega) (by have:=w2.2.2.2.2;omega) Z8 Z8) ?_;obtain⟨o,c2,g2,e2,q2⟩:=once_f l hl _ a.2.2.2.2.2.2.2.2.2.2.2 qa 4;refine Rp.bind0 e2 (Rp.both (fun _=>?_) (fun _=>h1 _ _ _ q2 (tuple_isB _ _ _ _ _ _ _ _ _ _ w1.2.2.2.1 w2.2.2.2.1)));refine Rp.bind0 rfl (Rp.thn (some_f l hl c2 g2 q2 30 Z8) (fun s hs=>?_));refine Rp.pos (show ([1]:List Int).length+s.1.length<140737488355328 from ?_) (h1 _ _ _ hs.2 (isB_app (isBytes_one Z33) hs.1.1));have:=hs.1.2;show 1+s.1.length<140737488355328;omega
theorem page_f(l:List Int)(hl:l.length≤1048576)(i h:Int)(hi:0≤i):Rp (WPg 16 92) (fun k=>spec_l7page.f k l i h):=by
  unfold spec_l7page.f;obtain⟨y,c1,g1,e1,y0,y1,q1⟩:=below_f l hl i h hi 50;obtain⟨z,c2,g2,e2,z0,z1,q2⟩:=below_f l hl c1 g1 q1 9;have z2:=z1 Z8;exact Rp.bind0 e1 (Rp.bind0 e2 (page_l l hl 9 z c2 g2 y [] q2 Z8 Z8 (PG.nil _ _)))
theorem pick3_f(l:List Int)(hl:l.length≤1048576)(i h:Int)(hi:0≤i)(a b c:Int):∃x i' h',spec_l1PickInt.f l i h [a,b,c]=some (x,i',h')∧0≤i':=by
  obtain⟨x,c1,h1,e1,x0,x1,q1⟩:=below_f l hl i h hi 3;unfold spec_l1PickInt.f;refine⟨rd [a,b,c] x,c1,h1,?_,q1⟩;rw[show ((([a,b,c]:List Int)).length:Int)=3 from rfl,e1,Option.bind_some];dsimp only;rw[if_pos x0,if_pos (x1 Z8)]
theorem bent_l(l:List Int)(hl:l.length≤1048576)(lsn:Int)(d:Nat):∀(c h:Int) (p:List (List Int)),0≤c→17≤p.length+d→PG 17 93 p→Rp (WPg 18 93) (fun k=>spec_l7bent.l0 k l c h lsn p):=by
  induction d with
  | zero =>
    intro c h p hc hd hp;obtain⟨y,c1,g1,e1,y0,y1,q1⟩:=below_f l hl c h hc 2;have y2:=y1 Z8;refine Rp.step (fun k=>by rw[spec_l7bent.l0]) (Rp.bind0 e1 (Rp.neg ?_ (Rp.now (P:=WPg 18 93) (r:=(lsn,p,c1,g1)) ⟨hp.mono Z8 Z8,q1⟩)));show ¬(p.length:Int)<wrap64 (16+y);rw[w64 Z8 Z8];omega
  | succ d ih =>
    intro c h p hc hd hp;obtain⟨y,c1,g1,e1,y0,y1,q1⟩:=below_f l hl c h hc 2;have y2:=y1 Z8;have hw:wrap64 (16+y)=16+y:=w64 Z8 Z8;refine Rp.step (fun k=>by rw[spec_l7bent.l0]) (Rp.bind0 e1 (Rp.both (fun hlt=>?_) (fun _=>Rp.now (P:=WPg 18 93) (r:=(lsn,p,c1,g1)) ⟨hp.mono Z8 Z8,q1⟩)));(have hlt2:(p.length:Int)<16+y:=by rw[← hw];exact hlt);have h1:=hp.1;refine Rp.pos (show p.length<5864062014805 by omega) (ih c1 g1 _ q1 (by rw[List.length_append];show 17≤p.length+1+d;omega) ⟨by rw[List.length_append];show p.length+1≤17;omega,(hp.snoc (x:=[7]) ⟨by decide,isBytes_one Z33⟩).2⟩)
theorem bent_f(l:List Int)(hl:l.length≤1048576)(i h lsn:Int)(p:List (List Int))(hi:0≤i)(hp:PG 16 92 p):Rp (WPg 18 93) (fun k=>spec_l7bent.f k l i h lsn p):=by
  unfold spec_l7bent.f;have hp1:=hp.1;have hq:PG 17 93 p:=hp.mono Z8 Z8;obtain⟨y,c1,g1,e1,y0,y1,q1⟩:=below_f l hl i h hi 14;refine Rp.bind0 rfl (Rp.bind0 e1 (Rp.both (fun _=>?_) (fun _=>Rp.both (fun _=>?_) (fun _=>Rp.both (fun _=>?_) (fun _=>Rp.both (fun _=>?_) (fun _=>Rp.both (fun _=>?_) (fun _=>?_)))))))
  · obtain⟨z,c2,g2,e2,q2⟩:=pick3_f l hl c1 g1 q1 (-1) 1000000 1000001;exact Rp.bind0 e2 (Rp.now (P:=WPg 18 93) (r:=(z,p,c2,g2)) ⟨hq.mono Z8 Z8,q2⟩)
  · exact Rp.pos (show p.length<5864062014805 by omega) (Rp.now (P:=WPg 18 93) (r:=(lsn,p ++ [[]],c1,g1)) ⟨hq.snoc ⟨Nat.zero_le _,isB_nil⟩,q1⟩)
  · exact bent_l l hl lsn 17 c1 g1 p q1 Z8 hq
  · obtain⟨z,c2,g2,e2,z0,z1,q2⟩:=below_f l hl c1 g1 q1 2;have z2:=z1 Z8;have hw:wrap64 (92+z)=92+z:=w64 Z8 Z8;refine Rp.bind0 e2 (Rp.pos (show 0≤wrap64 (92+z) by omega) (Rp.pos (show (wrap64 (92+z):Int).toNat≤281474976710656 by omega) (Rp.pos (show p.length<5864062014805 by omega) (Rp.now (P:=WPg 18 93) (r:=(lsn,p ++ [List.replicate (wrap64 (92+z):Int).toNat 0],c2,g2)) ⟨hq.snoc ⟨by rw[List.length_replicate];omega,isB_zeros _⟩,q2⟩))))
  · refine Rp.pos Z8 (Rp.bind0 rfl (Rp.pos (show p.length+2<5864062014805 by omega) (Rp.now (P:=WPg 18 93) (r:=(lsn,p ++ [List.replicate 92 0,List.replicate 92 0],c1,g1)) ⟨?_,q1⟩)));have h1:=(hp.snoc (x:=List.replicate 92 0) ⟨by rw[List.length_replicate];exact Nat.le_refl _,isB_zeros _⟩).snoc (x:=List.replicate 92 0) ⟨by rw[List.length_replicate];exact Nat.le_refl _,isB_zeros _⟩;rw[List.append_assoc]at h1;exact h1.mono (Nat.le_refl _) Z8
  · exact Rp.now (P:=WPg 18 93) (r:=(lsn,p,c1,g1)) ⟨hq.mono Z8 Z8,q1⟩
theorem sumLen_append(a b:List (List Int)):sumLen (a++b)=sumLen a+sumLen b:=by
  induction a with
  | nil=>simp[sumLen]
  | cons x a ih=>simp only[List.cons_append,sumLen,ih];omega
theorem sumLen_set(l:List (List Int))(d:List Int):∀(j:Nat) (h:j<l.length),(l[j]).length=0→sumLen (l.set j d)=sumLen l+d.length:=by
  induction l with
  | nil=>intro j h;simp at h
  | cons x l ih =>
    intro j h hz
    cases j with
    | zero =>
      have hz':x.length=0:=hz;simp only[List.set_cons_zero,sumLen];omega
    | succ j =>
      have:=ih j (by simpa using h) hz;simp only[List.set_cons_succ,sumLen,this];omega
theorem pu_val(lsn:Int)(l:List (List Int))(h:¬puOf lsn l<0):puOf lsn l=1+l.length+sumLen l∧(0≤lsn∧lsn≤1000000)∧l.length≤16∧(∀x∈l,x.length≤92):=by
  unfold puOf at h ⊢;split at h
  · omega
  · rename_i h1;rw[if_neg h1];split at h
    · omega
    · rename_i h2;rw[if_neg h2];split at h
      · omega
      · rename_i h3;rw[if_neg h3];split at h
        · omega
        · rename_i h4;rw[if_neg h4];have h5:=Classical.not_not.1 h1;refine⟨rfl,h5.1,h5.2,fun x hx=>?_⟩;rcases Nat.lt_or_ge 92 x.length with h6|h6
          · exact absurd ⟨x,hx,h6⟩ h2
          · exact h6
theorem pu_all(lsn:Int)(l:List (List Int))(h:¬puOf lsn l<0):((0≤lsn∧lsn≤1000000)∧l.length≤16)∧(∀x∈l,x.length≤92)∧1+l.length+sumLen l≤240:=by
  unfold puOf at h;split at h
  · omega
  · rename_i h1;split at h
    · omega
    · rename_i h2;split at h
      · omega
      · refine⟨Classical.not_not.1 h1,fun x hx=>?_,by omega⟩;rcases Nat.lt_or_ge 92 x.length with h3|h3
        · exact absurd ⟨x,hx,h3⟩ h2
        · exact h3
def pgLens(l:List (List Int)):List Int:=l.map fun x=>(x.length:Int) % 256
def pgHead(l:List (List Int)):List Int:=([(l.length:Int) % 256]:List Int)++pgLens l
def pgBody(l:List (List Int)):List Int:=(pgHead l++l.flatten)++List.replicate (240 - (1+l.length+sumLen l)) 0
theorem flat_length(l:List (List Int)):l.flatten.length=sumLen l:=by
  induction l with
  | nil=>rfl
  | cons x l ih=>simp only[List.flatten_cons,List.length_append,sumLen,ih]
theorem pgHead_length(l:List (List Int)):(pgHead l).length=1+l.length:=by simp[pgHead,pgLens];omega
theorem pgBody_length(l:List (List Int))(h:1+l.length+sumLen l≤240):(pgBody l).length=240:=by
  unfold pgBody;rw[List.length_append,List.length_append,List.length_replicate,pgHead_length,flat_length];omega
def pbOf(lsn:Int)(l:List (List Int)):List Int:=if puOf lsn l<0 then [] else parts 60 (pn lsn 4) (pgBody l) fours
theorem flat_take(l:List (List Int))(i:Nat)(h:i<l.length):(l.take (i+1)).flatten=(l.take i).flatten++l[i]:=by
  rw[List.take_succ_eq_append_getElem h,List.flatten_append];simp
theorem flat_take_le(l:List (List Int))(i:Nat):(l.take i).flatten.length≤sumLen l:=by
  rw[← flat_length];have:=congrArg List.length (congrArg List.flatten (List.take_append_drop i l));rw[List.flatten_append,List.length_append]at this;omega
theorem impl_PageBytes_l1(lsn:Int)(l:List (List Int))(hl:l.length≤16)(hs:1+l.length+sumLen l≤240)(hn:lsn≤1000000)(hx:∀x∈l,x.length≤92)(d:Nat):∀i:Nat,i+d=l.length →
    Ev (fun k=>impl_PageBytes.l1 k (pgHead l++(l.take i).flatten) l (l.length:Int) (i:Int) lsn l) (parts 60 (pn lsn 4) (pgBody l) fours):=by
  have hL:=pn_length lsn 4
  have hh:=pgHead_length l
  induction d with
  | zero =>
    intro i hi;rw[List.take_of_length_le Z8];(have e:(pgHead l++l.flatten).length=1+l.length+sumLen l:=by rw[List.length_append,hh,flat_length]);have hb:=pgBody_length l hs
    have hB:(pgHead l++l.flatten)++List.replicate (wrap64 (240 - ((pgHead l++l.flatten).length:Int)):Int).toNat 0=pgBody l:=by
      rw[w64 Z8 Z8,e]
      unfold pgBody
      congr 2
      omega
    refine Ev.step (f:=fun k=>(impl_PutNum.f k lsn 4).bind fun t=>if 4*t.length+(pgBody l).length<140737488355328 then some (parts 60 t (pgBody l) fours) else none) (fun k=>?_) ?_
    · rw[impl_PageBytes.l1,if_neg Z8,hB,w64 Z8 Z8,if_pos Z8,if_pos Z8];rfl
    · exact Ev.bind (impl_PutNum_f lsn 4 Z8) (ev_pos Z8 (Ev.now _))
  | succ d ih =>
    intro i hi;have hr:=rdl_nat l i Z8;have hb:=hx _ (List.getElem_mem (show i<l.length by omega));have hf:=flat_take_le l i;refine Ev.step (fun k=>by rw[impl_PageBytes.l1,if_pos Z8,if_pos Z8,if_pos Z8,hr,if_pos (by rw[List.length_append];omega),w64 Z8 Z8,List.append_assoc,← flat_take l i Z8]) ?_;exact ih (i+1) Z8
theorem lens_take(l:List (List Int))(i:Nat)(h:i<l.length):pgLens (l.take (i+1))=pgLens (l.take i) ++ [((l[i]).length:Int) % 256]:=by
  unfold pgLens;rw[List.take_succ_eq_append_getElem h,List.map_append];rfl
theorem impl_PageBytes_l0(lsn:Int)(l:List (List Int))(hl:l.length≤16)(hs:1+l.length+sumLen l≤240)(hn:lsn≤1000000)(hx:∀x∈l,x.length≤92)(d:Nat):∀i:Nat,i+d=l.length →
    Ev (fun k=>impl_PageBytes.l0 k (([(l.length:Int) % 256]:List Int)++pgLens (l.take i)) l (l.length:Int) (i:Int) lsn l) (parts 60 (pn lsn 4) (pgBody l) fours):=by
  induction d with
  | zero =>
    intro i hi;rw[List.take_of_length_le Z8];refine Ev.step (fun k=>by rw[impl_PageBytes.l0,if_neg Z8]) ?_;have:=impl_PageBytes_l1 lsn l hl hs hn hx l.length 0 Z8;simpa [pgHead] using this
  | succ d ih =>
    intro i hi;have hr:=rdl_nat l i Z8;refine Ev.step (fun k=>by rw[impl_PageBytes.l0,if_pos Z8,if_pos Z8,if_pos Z8,hr,if_pos (by simp[pgLens];omega),w64 Z8 Z8,List.append_assoc,← lens_take l i Z8]) ?_;exact ih (i+1) Z8
theorem impl_PageBytes_f(lsn:Int)(l:List (List Int))(hn:l.length≤1048576):Ev (fun k=>impl_PageBytes.f k lsn l) (pbOf lsn l):=by
  unfold impl_PageBytes.f pbOf;refine Ev.bind (impl_PageUsed_f lsn l hn) ?_;by_cases h:puOf lsn l<0
  · rw[if_pos h];exact ev_pos h (Ev.now _)
  · rw[if_neg h];obtain⟨⟨h1,h2⟩,h3,h4⟩:=pu_all lsn l h;refine ev_neg h ?_;have:=impl_PageBytes_l0 lsn l h2 h4 h1.2 h3 l.length 0 Z8;simpa [pgLens] using this
theorem pbOf_length(lsn:Int)(l:List (List Int)):(pbOf lsn l).length≤1000:=by
  unfold pbOf;split
  · simp
  · have h1:=parts_len 60 (pn lsn 4) (pgBody l) fours;have h2:=pn_length lsn 4;have h3:fours.length*((pn lsn 4).length+60)≤4*(12+60):=Nat.mul_le_mul Z33 Z8;omega
def prScan(B:List Int):Nat→Nat→Int→List (List Int)→Option (List (List Int))
  | 0,_,_,rows=>some rows
  | d+1,i,p,rows=>if p≤240∧rd B (1+(i:Int))≤240 - p then prScan B d (i+1) (p+rd B (1+(i:Int))) (rows ++ [(B.take (p+rd B (1+(i:Int))).toNat).drop p.toNat]) else none
def prEnd(b:List Int)(lsn:Int):Option (List (List Int))→Int×List (List Int)×Bool
  | none=>(0,[],false)
  | some rows=>if (strOfNums (pbOf lsn rows)).toList=(strOfNums b).toList then (lsn,rows,true) else (0,[],false)
def prOf(b:List Int):Int×List (List Int)×Bool:=if b.length=256 then prEnd b (gn b 0 4).1 (prScan (body64 b) (rd (body64 b) 0).toNat 0 (1+rd (body64 b) 0) []) else (0,[],false)
theorem body64_length(b:List Int)(h:b.length=256):(body64 b).length=240:=by
  simp[body64,cut4,fours,h];rfl
theorem body64_bytes{b:List Int}(h:IsBytes b):IsBytes (body64 b):=by
  intro x hx;obtain⟨j,_,hj⟩:=List.mem_flatMap.1 hx;exact h x (List.mem_of_mem_drop (List.mem_of_mem_take (List.mem_of_mem_drop hj)))
theorem prEnd_ev{F:Nat→Option (Int×List (List Int)×Bool)}(b:List Int)(lsn:Int)(rows:List (List Int)){P:Nat→Option (List Int)}(hP:Ev P (pbOf lsn rows))
    (h:∀k,F (k+1)=(P k).bind fun t=>if (strOfNums t).toList=(strOfNums b).toList then some (lsn,rows,true) else some (0,[],false)):Ev F (prEnd b lsn (some rows)):=by
  refine Ev.step (f:=fun k=>(P k).bind fun t=>if (strOfNums t).toList=(strOfNums b).toList then some (lsn,rows,true) else some (0,[],false)) h (Ev.bind hP ?_);simp only[prEnd];by_cases hc:(strOfNums (pbOf lsn rows)).toList=(strOfNums b).toList
  · simp only[if_pos hc];exact Ev.now _
  · simp only[if_neg hc];exact Ev.now _
theorem impl_PageRead_l(b B:List Int)(hB:B.length=240)(hb:IsBytes B)(lsn:Int)(n:Nat)(hn:n≤255)(d:Nat):∀(i:Nat) (p:Int) (rows:List (List Int)),i+d=n→0≤p→(n≤239∨240<p)→p≤1000→rows.length≤i →
    Ev (fun k=>impl_PageRead.l0 k b B p (n:Int) (i:Int) lsn rows) (prEnd b lsn (prScan B d i p rows)):=by
  induction d with
  | zero =>
    intro i p rows hi h0 hp h1 hr;refine prEnd_ev b lsn rows (impl_PageBytes_f lsn rows Z8) (fun k=>?_)
    rw[impl_PageRead.l0,if_neg Z8]
    congr 1
    funext t
    simp only[bytes_Equal.f,Option.bind_some,beq_iff_eq]
  | succ d ih =>
    intro i p rows hi h0 hp h1 hr;have hk:=rd_byte hb (1+(i:Int));unfold prScan;by_cases hc:p≤240∧rd B (1+(i:Int))≤240 - p
    · rw[if_pos hc];refine Ev.step (fun k=>?_) (ih (i+1) (p+rd B (1+(i:Int))) _ Z8 Z8 Z8 Z8 Z132);rw[impl_PageRead.l0,if_pos Z8,w64 (x:=1+(i:Int)) Z8 Z8,impl_hasBytes_f B Z8];simp only[Option.bind_some];rw[if_pos Z137,if_pos Z8,if_pos Z8,w64 (x:=rd B (1+(i:Int))) Z8 Z8,impl_hasBytes_f B Z8];simp only[Option.bind_some];rw[if_pos Z137,if_pos Z8,w64 (x:=p+rd B (1+(i:Int))) Z8 Z8,if_pos Z8,if_pos Z8,cloneByte_f _ (by simp only[List.length_drop,List.length_take];omega)];simp only[Option.bind_some];rw[if_pos Z8,w64 (x:=(i:Int)+1) Z8 Z8];rfl
    · rw[if_neg hc];refine Ev.step (f:=fun _=>some (0,[],false)) (fun k=>?_) (Ev.now _);rw[impl_PageRead.l0,if_pos Z8,w64 (x:=1+(i:Int)) Z8 Z8,impl_hasBytes_f B Z8];simp only[Option.bind_some];by_cases h2:1+(i:Int)<240
      · rw[if_pos Z137,if_pos Z8,if_pos Z8,w64 (x:=rd B (1+(i:Int))) Z8 Z8,impl_hasBytes_f B Z8];simp only[Option.bind_some];rw[if_neg Z137]
      · rw[if_neg Z137]
theorem impl_PageRead_f(b:List Int)(hb:IsBytes b)(hn:b.length≤1048576):Ev (fun k=>impl_PageRead.f k b) (prOf b):=by
  unfold impl_PageRead.f prOf;by_cases h:b.length=256
  · rw[if_pos h];refine ev_pos Z8 (Ev.bind (impl_GetNum_f b hb hn 0 4) ?_);have hB:=body64_length b h;have hr:=rd_byte (body64_bytes hb) 0;(have e:(((rd (body64 b) 0).toNat:Nat):Int)=rd (body64 b) 0:=by omega);have:=impl_PageRead_l b (body64 b) hB (body64_bytes hb) (gn b 0 4).1 (rd (body64 b) 0).toNat Z8 (rd (body64 b) 0).toNat 0 (1+rd (body64 b) 0) [] Z8 Z8 Z8 Z8 Z45;rw[e]at this;refine ev_pos Z8 (ev_pos Z8 (ev_pos (by simp only[List.length_nil];omega) (ev_bind0 rfl ?_)));rw[List.nil_append];refine ev_pos Z8 ?_;rw[w64 (x:=rd (body64 b) 0) Z8 Z8,w64 (x:=1+rd (body64 b) 0) Z8 Z8];exact this
  · rw[if_neg h];exact ev_neg Z8 (Ev.now _)
theorem pn4_eq(x:Int)(h0:0≤x)(h1:x≤1000000):pn x 4 = [x % 256,x / 256 % 256,x / 256 / 256 % 256,x / 256 / 256 / 256 % 256]:=by
  unfold pn;rw[if_pos ⟨by omega,h0,by show x / 256^4=0;omega⟩];rfl
theorem quarter(B:List Int)(h:B.length=240):∃b0 b1 b2 b3:List Int,B=b0++(b1++(b2++b3))∧b0.length=60∧b1.length=60∧b2.length=60∧b3.length=60:=by
  refine⟨B.take 60,(B.drop 60).take 60,(B.drop 120).take 60,B.drop 180,?_,?_,?_,?_,?_⟩
  · have e1:=List.take_append_drop 60 B;have e2:=List.take_append_drop 60 (B.drop 60);have e3:=List.take_append_drop 60 (B.drop 120);rw[List.drop_drop]at e2 e3;rw[e3,e2,e1]
  all_goals simp only[List.length_take,List.length_drop];omega
theorem parts_four(H b0 b1 b2 b3:List Int)(h0:b0.length=60)(h1:b1.length=60)(h2:b2.length=60)(h3:b3.length=60) :
    parts 60 H (b0++(b1++(b2++b3))) fours=(H++b0)++((H++b1)++((H++b2)++(H++b3))):=by
  have e0:(b0++(b1++(b2++b3))).take 60=b0:=List.take_left' h0;have e1:(b0++(b1++(b2++b3))).drop 60=b1++(b2++b3):=List.drop_left' h0;(have e2:(b0++(b1++(b2++b3))).drop 120=b2++b3:=by rw[show 120=60+60 from rfl,← List.drop_drop,e1];exact List.drop_left' h1);(have e3:(b0++(b1++(b2++b3))).drop 180=b3:=by rw[show 180=120+60 from rfl,← List.drop_drop,e2];exact List.drop_left' h2);show (H++((b0++(b1++(b2++b3))).drop 0).take 60)++((H++((b0++(b1++(b2++b3))).drop 60).take 60)++((H++((b0++(b1++(b2++b3))).drop 120).take 60)++((H++((b0++(b1++(b2++b3))).drop 180).take 60) ++ [])))=_;rw[List.drop_zero,e0,e1,e2,e3,List.take_left' h1,List.take_left' h2,List.take_of_length_le (by omega:b3.length≤60),List.append_nil]
theorem body_parts(H B:List Int)(hH:H.length=4)(h:B.length=240):body64 (parts 60 H B fours)=B∧(parts 60 H B fours).length=256:=by
  obtain⟨b0,b1,b2,b3,rfl,h0,h1,h2,h3⟩:=quarter B h;rw[parts_four H b0 b1 b2 b3 h0 h1 h2 h3];(have l0:(H++b0).length=64:=by rw[List.length_append];omega);(have l1:(H++b1).length=64:=by rw[List.length_append];omega);(have l2:(H++b2).length=64:=by rw[List.length_append];omega);(have l3:(H++b3).length=64:=by rw[List.length_append];omega);generalize hx0:H++b0=X0 at l0 ⊢;generalize hx1:H++b1=X1 at l1 ⊢;generalize hx2:H++b2=X2 at l2 ⊢;generalize hx3:H++b3=X3 at l3 ⊢;have e0:(X0++(X1++(X2++X3))).take 64=X0:=List.take_left' l0;have e1:(X0++(X1++(X2++X3))).drop 64=X1++(X2++X3):=List.drop_left' l0;(have e2:(X0++(X1++(X2++X3))).drop 128=X2++X3:=by rw[show 128=64+64 from rfl,← List.drop_drop,e1];exact List.drop_left' l1);(have e3:(X0++(X1++(X2++X3))).drop 192=X3:=by rw[show 192=128+64 from rfl,← List.drop_drop,e2];exact List.drop_left' l2);refine⟨?_,by simp only[List.length_append];omega⟩;show (((X0++(X1++(X2++X3))).drop 0).take 64).drop 4++((((X0++(X1++(X2++X3))).drop 64).take 64).drop 4++((((X0++(X1++(X2++X3))).drop 128).take 64).drop 4++((((X0++(X1++(X2++X3))).drop 192).take 64).drop 4 ++ [])))=_
  rw[List.drop_zero, e0, e1, e2, e3, List.take_left' l1, List.take_left' l2, List.take_of_length_le (by omega : X3.length ≤ 64), List.append_nil, ← hx0, ← hx1, ← hx2, ← hx3,
    List.drop_left' hH,List.drop_left' hH,List.drop_left' hH,List.drop_left' hH]
theorem gn_pn(x:Int)(h0:0≤x)(h1:x≤1000000)(r:List Int):gn (pn x 4++r) 0 4=(x,true):=by
  rw[pn4_eq x h0 h1]
  have e:gv ([x % 256,x / 256 % 256,x / 256 / 256 % 256,x / 256 / 256 / 256 % 256]++r) 0 4=x:=by
    show (x % 256)+256*((x / 256 % 256)+256*((x / 256 / 256 % 256)+256*((x / 256 / 256 / 256 % 256)+256*0)))=x;omega
  unfold gn;rw[if_pos,show (4:Int).toNat=4 from rfl,e];refine⟨⟨by omega,by omega,?_⟩,?_⟩
  · rw[List.length_append];simp only[List.length_cons,List.length_nil];omega
  · rw[show (4:Int).toNat=4 from rfl,e];omega
theorem flat_take_drop(l:List (List Int))(i:Nat)(h:i<l.length):l.flatten=(l.take i).flatten++(l[i]++(l.drop (i+1)).flatten):=by
  conv=>lhs;rw[← List.take_append_drop i l,List.flatten_append,List.drop_eq_getElem_cons h,List.flatten_cons]
theorem body_rd(l:List (List Int))(hx:∀x∈l,x.length≤92)(i:Nat)(h:i<l.length):rd (pgBody l) (1+(i:Int))=((l[i]).length:Int):=by
  have hb:=hx _ (List.getElem_mem h);(have hl:1+i<(pgHead l).length:=by rw[pgHead_length];omega);(have h2:1+i<(pgBody l).length:=by unfold pgBody;rw[List.length_append,List.length_append];omega);rw[show (1+(i:Int))=((1+i:Nat):Int) by omega,rd_nat _ _ h2]
  have e:(pgBody l)[1+i]=(pgHead l)[1+i]:=by
    (have e1:pgBody l=pgHead l++(l.flatten++List.replicate (240 - (1+l.length+sumLen l)) 0):=by unfold pgBody;rw[List.append_assoc]);simp only[e1];exact List.getElem_append_left hl
  rw[e];(have e2:(pgHead l)[1+i]=((l[i]).length:Int) % 256:=by simp[pgHead,pgLens,Nat.add_comm 1 i]);rw[e2];omega
theorem body_cut(l:List (List Int))(i:Nat)(h:i<l.length)(p:Nat)(hp:p=1+l.length+(l.take i).flatten.length):((pgBody l).take (p+(l[i]).length)).drop p=l[i]:=by
  have e:pgBody l=(pgHead l++(l.take i).flatten)++(l[i]++((l.drop (i+1)).flatten++List.replicate (240 - (1+l.length+sumLen l)) 0)):=by
    unfold pgBody;rw[flat_take_drop l i h];simp only[List.append_assoc]
  (have hl:(pgHead l++(l.take i).flatten).length=p:=by rw[List.length_append,pgHead_length];omega);rw[e,List.drop_take,List.drop_left' hl,show p+(l[i]).length - p=(l[i]).length by omega];exact List.take_left' rfl
theorem scan_back(l:List (List Int))(hx:∀x∈l,x.length≤92)(hs:1+l.length+sumLen l≤240)(d:Nat):∀i:Nat,i+d=l.length→prScan (pgBody l) d i ((1+l.length+(l.take i).flatten.length:Nat):Int) (l.take i)=some l:=by
  induction d with
  | zero =>
    intro i hi;rw[prScan,List.take_of_length_le Z8]
  | succ d ih =>
    intro i hi;(have h:i<l.length:=by omega);have hr:=body_rd l hx i h;(have hf:(l.take (i+1)).flatten.length=(l.take i).flatten.length+(l[i]).length:=by rw[flat_take l i h,List.length_append]);have hs2:=flat_take_le l (i+1);have hc:=body_cut l i h _ rfl;have h2:=ih (i+1) Z8;unfold prScan
    rw[hr, if_pos Z8, show (((1+l.length+(l.take i).flatten.length : Nat) : Int)+((l[i]).length : Int)).toNat = 1+l.length+(l.take i).flatten.length+(l[i]).length by omega, Int.toNat_natCast, hc, ← List.take_succ_eq_append_getElem h,
      show ((1+l.length+(l.take i).flatten.length:Nat):Int)+((l[i]).length:Int)=((1+l.length+(l.take (i+1)).flatten.length:Nat):Int) by omega]
    exact h2
theorem page_back(n:Int)(l:List (List Int))(h:¬puOf n l<0):prOf (pbOf n l)=(n,l,true):=by
  obtain⟨⟨h1,h2⟩,h3,h4⟩:=pu_all n l h;(have hH:(pn n 4).length=4:=by rw[pn4_eq n h1.1 h1.2];rfl);have hB:=pgBody_length l h4;obtain⟨e1,e2⟩:=body_parts (pn n 4) (pgBody l) hH hB;have e3:pbOf n l=parts 60 (pn n 4) (pgBody l) fours:=by unfold pbOf;rw[if_neg h]
  have e4:gn (parts 60 (pn n 4) (pgBody l) fours) 0 4=(n,true):=by
    obtain⟨b0,b1,b2,b3,e,g0,g1,g2,g3⟩:=quarter _ hB;rw[e,parts_four _ _ _ _ _ g0 g1 g2 g3,List.append_assoc];exact gn_pn n h1.1 h1.2 _
  have e5:rd (pgBody l) 0=(l.length:Int):=by
    have:rd (pgBody l) 0=(l.length:Int) % 256:=rfl;omega
  unfold prOf;rw[e3,if_pos e2,e1,e4,e5,Int.toNat_natCast];have hs:=scan_back l h3 h4 l.length 0 Z8;rw[List.take_zero,show ((1+l.length+([]:List (List Int)).flatten.length:Nat):Int)=1+(l.length:Int) by simp]at hs;rw[hs,prEnd,e3,if_pos rfl]
theorem parts_isB(m:Nat)(H B:List Int)(hH:IsBytes H)(hB:IsBytes B)(xs:List (Fin 4)):IsBytes (parts m H B xs):=by
  intro x hx;obtain⟨j,_,hj⟩:=List.mem_flatMap.1 hx;rcases List.mem_append.1 hj with hj|hj
  · exact hH x hj
  · exact hB x (List.mem_of_mem_drop (List.mem_of_mem_take hj))
theorem pb_isB(n:Int)(l:List (List Int))(h:∀x∈l,IsBytes x):IsBytes (pbOf n l):=by
  unfold pbOf;split
  · exact fun x hx=>by cases hx
  · refine parts_isB _ _ _ (pn4_isB n) ?_ _;intro x hx;unfold pgBody pgHead pgLens at hx;rcases List.mem_append.1 hx with hx|hx
    · rcases List.mem_append.1 hx with hx|hx
      · rcases List.mem_append.1 hx with hx|hx
        · exact isB_one _ x hx
        · obtain⟨y,_,rfl⟩:=List.mem_map.1 hx;omega
      · obtain⟨y,hy,hx⟩:=List.mem_flatten.1 hx;exact h y hy x hx
    · rw[(List.mem_replicate.1 hx).2];decide
theorem trim_pre(n:Nat):∀l:List (List Int),∃m,m≤l.length∧trimN n l=l.take m:=by
  induction n with
  | zero=>intro l;exact⟨l.length,Nat.le_refl _,by rw[trimN,List.take_of_length_le (Nat.le_refl _)]⟩
  | succ n ih =>
    intro l;rw[trimN];split
    · obtain⟨m,h,e⟩:=ih (l.take (l.length - 1));rw[List.length_take]at h;exact⟨m,by omega,by rw[e,List.take_take,Nat.min_eq_left Z8]⟩
    · exact⟨l.length,Nat.le_refl _,by rw[List.take_of_length_le (Nat.le_refl _)]⟩
theorem sumLen_take(l:List (List Int))(m:Nat):sumLen (l.take m)≤sumLen l:=by
  have:=congrArg sumLen (List.take_append_drop m l);rw[sumLen_append]at this;omega
theorem pu_le(n:Int)(l:List (List Int)):puOf n l≤1+l.length+sumLen l:=by
  by_cases h:puOf n l<0
  · omega
  · rw[(pu_val n l h).1];exact Int.le_refl _
theorem clear_less(n:Int)(q:List (List Int))(s:Nat)(h:s<q.length)(hd:1≤(q[s]).length)(hu:¬puOf n q<0):puOf n (trimN 16 (q.set s []))<puOf n q:=by
  obtain⟨m,h1,h2⟩:=trim_pre 16 (q.set s []);rw[List.length_set]at h1;have h3:=sumLen_take (q.set s []) m;have h4:=sumLen_set (q.set s []) q[s] s (by rw[List.length_set];exact h) (by rw[List.getElem_set_self];rfl);rw[List.set_set,List.set_getElem_self]at h4;have h5:=pu_le n ((q.set s []).take m);have h6:=(pu_val n q hu).1;(have h7:((q.set s []).take m).length≤q.length:=by rw[List.length_take,List.length_set];omega);rw[h2];omega
abbrev PPR:=Int×List (List Int)×Int×List Int×Int
def WPp(r:PPR):Prop:=PG 18 93 r.2.1∧IsBytes r.2.2.2.1∧r.2.2.2.1.length≤1000
theorem DrawPagePut_f(l:List Int)(hl:l.length≤1048576):Rp WPp (fun k=>spec_DrawPagePut.f k l):=by
  unfold spec_DrawPagePut.f;obtain⟨h,e0⟩:=l1New_f l hl;refine Rp.bind e0 (Rp.thn (page_f l hl 0 h Z8) (fun a ha=>?_))
  have h2:∀(d:List Int) (s c g lsn:Int) (p:List (List Int)),0≤c→PG 18 93 p→IsBytes d→d.length≤1000→Rp WPp (fun k=>spec_DrawPagePut.j2 k d s l c g lsn p):=by
    intro d s c g lsn p hc hp hd1 hd2;obtain⟨y,c1,g1,e1,y0,y1,q1⟩:=below_f l hl c g hc 60;obtain⟨o,c2,g2,e2,q2⟩:=once_f l hl c1 g1 q1 12;refine Rp.step (fun k=>by rw[spec_DrawPagePut.j2]) (Rp.bind0 e1 (Rp.bind0 e2 (Rp.both (fun _=>?_) (fun _=>Rp.now (P:=WPp) (r:=(lsn,p,s,d,wrap64 (1+y))) ⟨hp,hd1,hd2⟩))));obtain⟨z,c3,g3,e3,q3⟩:=pick3_f l hl c2 g2 q2 0 1000000 1000001;exact Rp.bind0 e3 (Rp.now (P:=WPp) (r:=(lsn,p,s,d,z)) ⟨hp,hd1,hd2⟩)
  have h1:∀(d:List Int) (s c g lsn:Int) (p:List (List Int)),0≤c→PG 18 93 p→IsBytes d→d.length≤1000→Rp WPp (fun k=>spec_DrawPagePut.j1 k d s l c g lsn p):=by
    intro d s c g lsn p hc hp hd1 hd2;obtain⟨o,c2,g2,e2,q2⟩:=once_f l hl c g hc 9;refine Rp.step (fun k=>by rw[spec_DrawPagePut.j1]) (Rp.bind0 e2 (Rp.both (fun _=>?_) (fun _=>h2 _ _ _ _ _ _ q2 hp hd1 hd2)));obtain⟨z,c3,g3,e3,z0,z1,q3⟩:=below_f l hl c2 g2 q2 94;have z2:=z1 Z8;exact Rp.bind0 e3 (Rp.pos (show 0≤z from z0) (Rp.pos (show (z:Int).toNat≤281474976710656 by omega) (h2 _ _ _ _ _ _ q3 hp (isB_zeros _) (by rw[List.length_replicate];show (z:Int).toNat≤1000;omega))))
  have h0:∀(c g lsn:Int) (p:List (List Int)),0≤c→PG 18 93 p→Rp WPp (fun k=>spec_DrawPagePut.j0 k l c g lsn p):=by
    intro c g lsn p hc hp;have hp1:=hp.1;refine Rp.step (fun k=>by rw[spec_DrawPagePut.j0]) (Rp.thn (l6tuple_f l hl c g hc) (fun a ha=>?_));obtain⟨⟨⟨m1,m2⟩,w1,w2⟩,qa⟩:=ha;(have t1:a.2.2.2.2.2.1.length≤1048576:=by have:=w1.2.2.2.2;omega);(have t2:a.2.2.2.2.2.2.2.2.2.1.length≤1048576:=by have:=w2.2.2.2.2;omega);refine Rp.bind (spec_TupleBytes_f _ _ _ _ _ _ _ _ _ _ w1.2.2.1.1 w2.2.2.1.1 t1 t2 Z8 Z8) ?_;have hd1:=tuple_isB a.1 a.2.1 a.2.2.1 a.2.2.2.1 a.2.2.2.2.1 a.2.2.2.2.2.1 a.2.2.2.2.2.2.1 a.2.2.2.2.2.2.2.1 a.2.2.2.2.2.2.2.2.1 a.2.2.2.2.2.2.2.2.2.1 w1.2.2.2.1 w2.2.2.2.1;have hd2:=tupleBytesOf_length a.1 a.2.1 a.2.2.1 a.2.2.2.1 a.2.2.2.2.1 a.2.2.2.2.2.1 a.2.2.2.2.2.2.1 a.2.2.2.2.2.2.2.1 a.2.2.2.2.2.2.2.2.1 a.2.2.2.2.2.2.2.2.2.1 t1 t2;obtain⟨y,c1,g1,e1,y0,y1,q1⟩:=below_f l hl _ a.2.2.2.2.2.2.2.2.2.2.2 qa 18;obtain⟨o,c2,g2,e2,q2⟩:=once_f l hl c1 g1 q1 2;refine Rp.bind0 e1 (Rp.bind0 e2 (Rp.both (fun _=>Rp.bind (spec_PagePlace_f lsn _ p Z8) ?_) (fun _=>?_)))
    · exact h1 _ _ _ _ _ _ q2 hp hd1 Z8
    · exact h1 _ _ _ _ _ _ q2 hp hd1 Z8
  obtain⟨o,c2,g2,e2,q2⟩:=once_f l hl _ a.2.2.2 ha.2 9;refine Rp.bind0 e2 (Rp.both (fun _=>?_) (fun _=>h0 _ _ _ _ q2 (ha.1.mono Z8 Z8)));exact Rp.thn (bent_f l hl c2 g2 a.1 a.2.1 q2 ha.1) (fun b hb=>h0 _ _ _ _ hb.2 hb.1)
theorem same_l(n m:Int)(l:List (List Int))(hl:l.length≤16)(d:Nat):∀i:Nat,i+d=l.length→Ev (fun k=>laws_samePage.l0 k (i:Int) n l m l) true:=by
  induction d with
  | zero=>exact fun i hi=>Ev.step (fun k=>by rw[laws_samePage.l0,if_neg Z8]) (Ev.now _)
  | succ d ih =>
    intro i hi;exact Ev.step (fun k=>by rw[laws_samePage.l0,if_pos Z8,if_pos Z8,if_pos Z8,if_pos rfl,w64 Z8 Z8];rfl) (ih (i+1) Z8)
theorem same_f(n:Int)(l:List (List Int))(hl:l.length≤16):Ev (fun k=>laws_samePage.f k n l n l) true:=by
  unfold laws_samePage.f;refine ev_pos rfl ?_;rw[bne_self_eq_false];exact Ev.step (fun k=>by rw[laws_samePage.j0,if_neg Z33];rfl) (same_l n n l hl l.length 0 Z8)
theorem pages_l1(n m:Int)(q r:List (List Int))(s:Nat)(hs:s<q.length)(t:Nat)(hr:r=(q.set s []).take t)(hq:q.length≤16)(d:Nat):∀i:Nat,i+d=r.length→Ev (fun k=>laws_FnPages.l1 k (s:Int) (i:Int) n q m r) true:=by
  have hl:r.length≤q.length:=by rw[hr,List.length_take,List.length_set];omega
  induction d with
  | zero=>exact fun i hi=>Ev.step (fun k=>by rw[laws_FnPages.l1,if_neg Z8]) (Ev.now _)
  | succ d ih =>
    intro i hi;(have hi2:i<(q.set s []).length:=by rw[List.length_set];omega);have hw:wrap64 ((i:Int)+1)=((i+1:Nat):Int):=w64 Z8 Z8;(have e:rd_L1 r (i:Int)=(q.set s [])[i]:=by rw[rdl_nat r i Z8];simp only[hr,List.getElem_take]);refine Ev.step (fun k=>by rw[laws_FnPages.l1,if_pos Z8,e,hw]) ?_;by_cases h:i=s
    · subst h;rw[List.getElem_set_self];exact ev_pos rfl (ev_pos Z8 (ev_neg Z33 (ih (i+1) Z8)))
    · rw[List.getElem_set_ne Z8];refine ev_neg Z8 (ev_pos Z8 (ev_pos Z8 (ev_pos ?_ (ih (i+1) Z8))));rw[rdl_nat q i Z8]
theorem pages_end(n:Int)(q:List (List Int))(s:Nat)(hs:s<q.length)(hd:1≤(q[s]).length)(hn:1≤n)(hu:¬puOf n q<0):Ev (fun k=>laws_FnPages.j2 k (s:Int) n false n q) true:=by
  obtain⟨hv,h1,h2,h3⟩:=pu_val n q hu;obtain⟨t,ht,e⟩:=trim_pre 16 (q.set s []);have hless:=clear_less n q s hs hd hu;(have hc:clearOf n q (s:Int) n=(n,trimN 16 (q.set s []),true):=by unfold clearOf;rw[if_neg Z8,Int.toNat_natCast]);(have hl:(trimN 16 (q.set s [])).length≤16:=by rw[e,List.length_take,List.length_set];omega);refine Ev.step (fun k=>by rw[laws_FnPages.j2,if_neg Z33]) (Ev.bind (impl_PageClear_f n q (s:Int) n Z8) ?_);rw[hc];refine ev_pos rfl (Ev.bind (impl_PageUsed_f n _ (by show (trimN 16 (q.set s [])).length≤1048576;omega)) (Ev.bind (impl_PageUsed_f n q Z8) ?_));show Ev (fun k=>laws_FnPages.j3 k (s:Int) (decide (puOf n (trimN 16 (q.set s [])) ≥ puOf n q)) n q n (trimN 16 (q.set s []))) true;rw[decide_eq_false Z8];exact Ev.step (fun k=>by rw[laws_FnPages.j3,if_neg Z33];rfl) (pages_l1 n n q _ s hs t e h2 (trimN 16 (q.set s [])).length 0 Z8)
theorem pages_l0(lsn n:Int)(p q:List (List Int))(s:Nat)(hs:s<q.length)(hd:1≤(q[s]).length)(hn:1≤n)(hu:¬puOf n q<0)(hb:∀x∈q,IsBytes x)(hp:p.length≤q.length)(he:∀(i:Nat) (h:i<p.length),i≠s→q[i]=p[i])(d:Nat):∀i:Nat,i+d=p.length→Ev (fun k=>laws_FnPages.l0 k (s:Int) n (i:Int) lsn p n q) true:=by
  obtain⟨hv,h1,h2,h3⟩:=pu_val n q hu
  induction d with
  | zero =>
    intro i hi;have hbk:=page_back n q hu;refine Ev.step (fun k=>by rw[laws_FnPages.l0,if_neg Z8]) (Ev.bind (impl_PageBytes_f n q Z8) (Ev.bind (impl_PageRead_f _ (pb_isB n q hb) (by have:=pbOf_length n q;omega)) ?_));rw[hbk];exact ev_pos rfl (Ev.bind (same_f n q h2) (pages_end n q s hs hd hn hu))
  | succ d ih =>
    intro i hi;have hw:wrap64 ((i:Int)+1)=((i+1:Nat):Int):=w64 Z8 Z8;refine Ev.step (fun k=>by rw[laws_FnPages.l0,if_pos Z8,hw]) ?_;by_cases h:i=s
    · exact ev_pos Z8 (ih (i+1) Z8)
    · refine ev_neg Z8 (ev_pos Z8 (ev_pos Z8 (ev_pos ?_ (ih (i+1) Z8))));rw[rdl_nat q i Z8,rdl_nat p i Z8,he i Z8 h]
theorem main:laws_FnPages.Pure:=by
  intro l hm hs hw;refine Ev.rounds ?_;unfold laws_FnPages.f;by_cases hl:l.length≤1048576;(case neg=>exact ev_bind0 (a:=true) (by unfold laws_big.f;rw[decide_eq_true Z8]) (ev_pos rfl (Ev.now _)));refine ev_bind0 (a:=false) (by unfold laws_big.f;rw[decide_eq_false Z8]) (ev_neg (fun h=>by cases h) ?_);obtain⟨⟨lsn,p,s,d,n⟩,e,hp,hd1,hd2⟩:=DrawPagePut_f l hl;dsimp only at hp hd1 hd2;have hp1:=hp.1;refine Ev.bind e (Ev.bind (impl_PagePut_f lsn p s d n Z8 Z8) (Ev.bind (spec_PagePut_f lsn p s d n Z8) ?_));dsimp only;refine ev_neg (by rw[bne_self_eq_false];decide) ?_;have zero:puOf 0 []=1:=rfl;have zc:Ev (fun k=>(impl_PageUsed.f k 0 []).bind fun t=>some (t == 1)) true:=Ev.bind (impl_PageUsed_f 0 [] Z45) (by rw[zero];exact Ev.now _);unfold putOf;by_cases h1:puOf lsn p<0∨¬(0≤s∧s≤15)∨d.length=0∨¬(1≤n∧n≤1000000)
  · rw[if_pos h1];exact ev_neg Z33 zc
  rw[if_neg h1];unfold putEnd;by_cases h2:puOf n ((padTo p s.toNat).set s.toNat d)<0
  · rw[if_pos h2];exact ev_neg Z33 zc
  rw[if_neg h2];obtain⟨S,rfl⟩:=Int.eq_ofNat_of_zero_le (show 0≤s by omega);rw[Int.toNat_natCast]at h2 ⊢;(have hq:((padTo p S).set S d).length=max p.length (S+1):=by rw[List.length_set,padTo_length]);(have hS:S<((padTo p S).set S d).length:=by omega);have hg:((padTo p S).set S d)[S]=d:=List.getElem_set_self _
  have hb:∀x∈(padTo p S).set S d,IsBytes x:=by
    intro x hx;rcases List.mem_or_eq_of_mem_set hx with hx|rfl
    · unfold padTo at hx;rcases List.mem_append.1 hx with hx|hx
      · exact (hp.2 x hx).2
      · rw[(List.mem_replicate.1 hx).2];exact isB_nil
    · exact hd1
  have he:∀(i:Nat) (h:i<p.length),i≠S→((padTo p S).set S d)[i]'Z8=p[i]:=by
    intro i h hi;rw[List.getElem_set_ne Z8];unfold padTo;exact List.getElem_append_left h
  refine ev_pos rfl (ev_pos rfl (ev_neg (by dsimp only;omega) (ev_pos Z8 (ev_pos (by dsimp only;omega) ?_))));dsimp only;rw[rdl_nat _ S hS,hg,bne_self_eq_false];exact Ev.step (fun k=>by rw[laws_FnPages.j0,if_neg Z33];rfl) (pages_l0 lsn n p _ S hS (by rw[hg];omega) Z8 h2 hb Z8 he p.length 0 Z8)
end Go.Proofs.Ytokpniagnbaflaa.Pure.ofFnPages
namespace Go.Proofs.Ytokpniagnbaflaa.PrintWords
abbrev sized_ints:=@Go.Proofs.YtokpniagnbaflaaW.PrintWords.sized_ints
end Go.Proofs.Ytokpniagnbaflaa.PrintWords
namespace Go.Proofs.Ytokpniagnbaflaa.Pure
open Go.Proofs.Ytokpniagnbaflaa.PFnPages
theorem FnPages:laws_FnPages.Pure:=ofFnPages.main
end Go.Proofs.Ytokpniagnbaflaa.Pure

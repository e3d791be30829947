/-
What the reading and the writing of float64 come to where nothing is rounded: products and quotients by powers of two, order, sums, whole numbers.
Conditions: each theorem names its own (a magnitude below 2^53, a place of at least -1074, a value below 2^1024).
-/
import Derived.Test.YtokpniagnbaflaaZFnPages5
namespace Go.Proofs.YtokpniagnbaflaaX
open Ieee YtokpniagnbaflaaW.PrintWords
theorem d_binade:double.binade=4503599627370496:=by decide
theorem d_least:double.leastPlace = -1074:=by decide
theorem d_inf:double.infRung=9218868437227405312:=by decide
theorem d_sign:double.signWeight=9223372036854775808:=by decide
theorem d_frac:double.fractionBits=52:=rfl
theorem word_false(r:Nat):double.word false r=r:=by unfold Format.word;exact if_neg Bool.false_ne_true
def lastOf(N:Nat)(q:Int):Int:=max (q+N.log2 - 52) (-1074)
def fl(N:Nat)(q:Int):Nat:=double.nearest false N q
theorem cut_whole(neg:Bool)(n d:Nat)(s:Nat)(hs:s≤n.log2+2)(hn:n=d*2^s):Toward.even.cut neg n s=d:=by
  unfold Toward.cut
  have hp:0<2^s:=Nat.two_pow_pos s
  rw[Nat.min_eq_left hs,Nat.shiftLeft_eq,Nat.one_mul]
  have h1:n / 2^s=d:=by rw[hn];exact Nat.mul_div_cancel d hp
  have h2:n % 2^s=0:=by rw[hn];exact Nat.mul_mod_left d _
  simp only[h1,h2]
  have h3:¬(2^s<2*0):=by omega
  have h4:(2^s == 2*0)=false:=by rw[beq_eq_false_iff_ne];omega
  simp[h4]
theorem log2_mul(N s:Nat)(h:0<N):(N*2^s).log2=N.log2+s:=by
  have hN:N≠0:=by omega
  have h1:=Nat.log2_self_le hN
  have h2:N<2^(N.log2+1):=Nat.lt_log2_self
  have hne:N*2^s≠0:=Nat.mul_ne_zero hN (Nat.ne_of_gt (Nat.two_pow_pos s))
  have h3:2^(N.log2+s)≤N*2^s:=by rw[Nat.pow_add];exact Nat.mul_le_mul_right _ h1
  have h4:N*2^s<2^(N.log2+s+1):=by
    rw[show N.log2+s+1=(N.log2+1)+s by omega,Nat.pow_add]
    exact Nat.mul_lt_mul_of_pos_right h2 (Nat.two_pow_pos s)
  have h5:=(Nat.le_log2 hne).2 h3
  have h6:=(Nat.log2_lt hne).2 h4
  omega
theorem log2_le(N:Nat)(h:0<N)(h2:N<2^53):N.log2≤52:=by
  have:=(Nat.log2_lt (by omega:N≠0)).2 h2
  omega
theorem last_le(N:Nat)(q:Int)(h:0<N)(h2:N<2^53)(hq:-1074≤q):lastOf N q≤q∧-1074≤lastOf N q:=by
  have:=log2_le N h h2
  unfold lastOf
  omega
theorem nearest_scaled(neg:Bool)(N:Nat)(q:Int)(s:Nat)(h:0<N)(h2:N<2^53)(hq:-1074≤q) :
    double.nearest neg (N*2^s) (q - s)=double.word neg (min ((lastOf N q+1074).toNat*4503599627370496+N*2^(q - lastOf N q).toNat) 9218868437227405312):=by
  have hl:=last_le N q h h2 hq
  have hlog:=log2_le N h h2
  unfold Format.nearest
  rw[if_neg (Nat.mul_ne_zero (by omega) (Nat.ne_of_gt (Nat.two_pow_pos s))),log2_mul N s h,d_least,d_frac,d_binade,d_inf]
  have e1:max (q - s+((N.log2+s:Nat):Int) - (52:Nat)) (-1074)=lastOf N q:=by
    unfold lastOf
    congr 1
    omega
  dsimp only
  rw[e1]
  have e2:Toward.even.cut neg ((N*2^s) <<< (q - s - lastOf N q).toNat) (lastOf N q - (q - s)).toNat=N*2^(q - lastOf N q).toNat:=by
    obtain⟨t,ht⟩:∃t:Nat,(t:Int)=q - lastOf N q:=⟨(q - lastOf N q).toNat,by omega⟩
    rw[show (q - lastOf N q).toNat=t by omega]
    by_cases hts:s≤t
    · rw[show (q - s - lastOf N q).toNat=t - s by omega,show (lastOf N q - (q - s)).toNat=0 by omega,Nat.shiftLeft_eq]
      refine cut_whole neg _ _ 0 (by omega) ?_
      rw[Nat.mul_assoc,← Nat.pow_add,show s+(t - s)=t by omega]
      simp
    · rw[show (q - s - lastOf N q).toNat=0 by omega,show (lastOf N q - (q - s)).toNat=s - t by omega,Nat.shiftLeft_eq]
      refine cut_whole neg _ _ (s - t) ?_ ?_
      · simp only[Nat.pow_zero,Nat.mul_one]
        rw[log2_mul N s h]
        omega
      · simp only[Nat.pow_zero,Nat.mul_one]
        rw[Nat.mul_assoc,← Nat.pow_add,show t+(s - t)=s by omega]
  rw[e2,show lastOf N q - -1074=lastOf N q+1074 by omega]
theorem fl_def(N:Nat)(q:Int)(h:0<N)(h2:N<2^53)(hq:-1074≤q):fl N q=min ((lastOf N q+1074).toNat*4503599627370496+N*2^(q - lastOf N q).toNat) 9218868437227405312:=by
  have:=nearest_scaled false N q 0 h h2 hq
  simp only[Nat.pow_zero,Nat.mul_one]at this
  rw[show q - ((0:Nat):Int)=q by omega]at this
  unfold fl
  rw[this,word_false]
theorem nearest_fl(N:Nat)(q:Int)(s:Nat)(p:Int)(M:Nat)(h:0<N)(h2:N<2^53)(hq:-1074≤q)(hM:M=N*2^s)(hp:p=q - s):double.nearest false M p=fl N q:=by
  subst hM hp
  rw[nearest_scaled false N q s h h2 hq,fl_def N q h h2 hq,word_false]
theorem mag_bound(N:Nat)(q:Int)(h:0<N)(h2:N<2^53)(hq:-1074≤q) :
    0<N*2^(q - lastOf N q).toNat∧N*2^(q - lastOf N q).toNat<9007199254740992∧(-1074<lastOf N q→4503599627370496≤N*2^(q - lastOf N q).toNat):=by
  have hl:=last_le N q h h2 hq
  have hlog:=log2_le N h h2
  obtain⟨t,ht⟩:∃t:Nat,(t:Int)=q - lastOf N q:=⟨(q - lastOf N q).toNat,by omega⟩
  rw[show (q - lastOf N q).toNat=t by omega]
  have hg:=log2_mul N t h
  have hpos:0<N*2^t:=Nat.mul_pos h (Nat.two_pow_pos t)
  have hle:N.log2+t≤52:=by unfold lastOf at ht;omega
  refine⟨hpos,?_,fun hlt=>?_⟩
  · have:=(Nat.log2_lt (by omega:N*2^t≠0)).1 (show (N*2^t).log2<53 by omega)
    simpa using this
  · have he:N.log2+t=52:=by unfold lastOf at ht hlt;omega
    have:=Nat.log2_self_le (by omega:N*2^t≠0)
    rw[hg,he]at this
    simpa using this
theorem fl_finite(N:Nat)(q:Int)(h:0<N)(h2:N<2^53)(hq:-1074≤q)(hv:q+N.log2≤1023) :
    fl N q=(lastOf N q+1074).toNat*4503599627370496+N*2^(q - lastOf N q).toNat∧fl N q<9218868437227405312:=by
  have hl:=last_le N q h h2 hq
  have hm:=mag_bound N q h h2 hq
  have:(lastOf N q+1074).toNat≤2045:=by unfold lastOf;omega
  have hlt:(lastOf N q+1074).toNat*4503599627370496+N*2^(q - lastOf N q).toNat<9218868437227405312:=by omega
  rw[fl_def N q h h2 hq,Nat.min_eq_left (by omega)]
  exact⟨rfl,hlt⟩
theorem fl_read(N:Nat)(q:Int)(h:0<N)(h2:N<2^53)(hq:-1074≤q)(hv:q+N.log2≤1023) :
    double.read (fl N q) = .number false (N*2^(q - lastOf N q).toNat) (lastOf N q):=by
  have hl:=last_le N q h h2 hq
  have hm:=mag_bound N q h h2 hq
  obtain⟨he,hlt⟩:=fl_finite N q h h2 hq hv
  unfold Format.read
  rw[d_sign,d_binade,d_inf,d_least]
  generalize fl N q=R at he hlt
  generalize N*2^(q - lastOf N q).toNat=M at hm he
  generalize lastOf N q=L at hl hm he
  have e1:R / 9223372036854775808 % 2=0:=by omega
  have e2:R % 9223372036854775808=R:=by omega
  simp only[e1,e2]
  by_cases hs:R<4503599627370496
  · rw[if_pos hs]
    have hL:L = -1074:=by
      rcases Nat.lt_or_ge 0 (L+1074).toNat with h0|h0
      · omega
      · omega
    subst hL
    rw[show M=R by omega]
    rfl
  · rw[if_neg hs,if_pos hlt]
    rcases Nat.lt_or_ge 0 (L+1074).toNat with h0|h0
    · have hb:=hm.2.2 (by omega)
      have e3:R / 4503599627370496=(L+1074).toNat+1:=by omega
      have e4:R % 4503599627370496=M - 4503599627370496:=by omega
      rw[e3,e4,show 4503599627370496+(M - 4503599627370496)=M by omega]
      congr 1
      omega
    · have e3:R / 4503599627370496=1:=by omega
      have e4:R % 4503599627370496=M - 4503599627370496:=by omega
      rw[e3,e4,show 4503599627370496+(M - 4503599627370496)=M by omega]
      congr 1
      omega
def mg(b:Nat):Nat:=if b<4503599627370496 then b else 4503599627370496+b % 4503599627370496
def pl(b:Nat):Int:=if b<4503599627370496 then -1074 else -1075+((b / 4503599627370496:Nat):Int)
theorem mg_pl(b:Nat)(hb:b<9218868437227405312):b=(pl b+1074).toNat*4503599627370496+mg b∧-1074≤pl b∧pl b≤971∧mg b<9007199254740992∧(-1074<pl b→4503599627370496≤mg b):=by
  unfold mg pl
  by_cases h:b<4503599627370496
  · simp only[if_pos h]
    omega
  · simp only[if_neg h]
    omega
theorem read_sign(b:Nat)(hb:b<9223372036854775808)(n:Nat)(hn:n=b∨n=9223372036854775808+b):double.read n=if b<4503599627370496 then .number (decide (n=9223372036854775808+b)) b (-1074) else if b<9218868437227405312 then .number (decide (n=9223372036854775808+b)) (4503599627370496+b % 4503599627370496) (-1074+(b / 4503599627370496 - 1:Nat)) else if b=9218868437227405312 then .infinity (decide (n=9223372036854775808+b)) else .nan (decide (n=9223372036854775808+b)) (b - 9218868437227405312):=by
  unfold Format.read
  rw[d_sign,d_binade,d_inf,d_least]
  have e1:(n / 9223372036854775808 % 2 == 1)=decide (n=9223372036854775808+b):=by
    rcases hn with rfl|rfl
    · rw[show n / 9223372036854775808 % 2=0 by omega,decide_eq_false (by omega)]
      rfl
    · rw[show (9223372036854775808+b) / 9223372036854775808 % 2=1 by omega,decide_eq_true rfl]
      rfl
  have e2:n % 9223372036854775808=b:=by omega
  simp only[e1,e2]
theorem read_fin(b:Nat)(hb:b<9218868437227405312):double.read b = .number false (mg b) (pl b):=by
  rw[read_sign b (by omega) b (Or.inl rfl),decide_eq_false (by omega)]
  unfold mg pl
  by_cases h:b<4503599627370496
  · simp only[if_pos h]
  · simp only[if_neg h,if_pos hb]
    congr 1
    omega
theorem read_nfin(b:Nat)(hb:b<9218868437227405312):double.read (9223372036854775808+b) = .number true (mg b) (pl b):=by
  rw[read_sign b (by omega) (9223372036854775808+b) (Or.inr rfl),decide_eq_true rfl]
  unfold mg pl
  by_cases h:b<4503599627370496
  · simp only[if_pos h]
  · simp only[if_neg h,if_pos hb]
    congr 1
    omega
theorem read_inf:double.read 9218868437227405312 = .infinity false:=by
  rw[read_sign 9218868437227405312 (by omega) _ (Or.inl rfl),decide_eq_false (by omega)]
  rfl
theorem read_ninf:double.read 18442240474082181120 = .infinity true:=by
  rw[read_sign 9218868437227405312 (by omega) _ (Or.inr rfl),decide_eq_true (by omega)]
  rfl
theorem read_nan(b:Nat)(h1:9218868437227405312<b)(h2:b<9223372036854775808):double.read b = .nan false (b - 9218868437227405312):=by
  rw[read_sign b h2 b (Or.inl rfl),decide_eq_false (by omega),if_neg (by omega),if_neg (by omega),if_neg (by omega)]
theorem read_nnan(b:Nat)(h1:9218868437227405312<b)(h2:b<9223372036854775808):double.read (9223372036854775808+b) = .nan true (b - 9218868437227405312):=by
  rw[read_sign b h2 _ (Or.inr rfl),decide_eq_true rfl,if_neg (by omega),if_neg (by omega),if_neg (by omega)]
theorem log2_mg(b:Nat)(h0:0<b)(hb:b<9218868437227405312):0<mg b∧mg b<2^53∧lastOf (mg b) (pl b)=pl b∧pl b+(mg b).log2≤1023:=by
  obtain⟨e,hp,hp2,hm,hn⟩:=mg_pl b hb
  have hm0:0<mg b:=by
    rcases Int.lt_or_le (-1074) (pl b) with h|h
    · have:=hn h;omega
    · have:pl b = -1074:=by omega
      rw[this]at e
      omega
  have hlog:=log2_le (mg b) hm0 hm
  refine⟨hm0,hm,?_,by omega⟩
  unfold lastOf
  rcases Int.lt_or_le (-1074) (pl b) with h|h
  · have h2:=(Nat.le_log2 (by omega:mg b≠0)).2 (show 2^52≤mg b from hn h)
    omega
  · omega
theorem fl_eta(b:Nat)(h0:0<b)(hb:b<9218868437227405312):fl (mg b) (pl b)=b:=by
  obtain⟨a1,a2,a3,a4⟩:=log2_mg b h0 hb
  obtain⟨e,hp,hp2,hm,hn⟩:=mg_pl b hb
  rw[(fl_finite (mg b) (pl b) a1 a2 hp a4).1,a3,show (pl b - pl b).toNat=0 by omega,Nat.pow_zero,Nat.mul_one]
  exact e.symm
theorem signed_false(m u:Nat):signed false m u=((m*2^u:Nat):Int):=by
  unfold signed
  rw[Nat.shiftLeft_eq]
  rfl
theorem signed_true(m u:Nat):signed true m u = -((m*2^u:Nat):Int):=by
  unfold signed
  rw[Nat.shiftLeft_eq]
  rfl
def onBase(b:Nat)(base:Int):Nat:=mg b*2^(pl b - base).toNat
theorem base_lt(a b:Nat)(ha:a<9218868437227405312)(hb:b<9218868437227405312)(h:a<b):onBase a (min (pl a) (pl b))<onBase b (min (pl a) (pl b)):=by
  obtain⟨e,hp,hp2,hm,hn⟩:=mg_pl a ha
  obtain⟨e',hp',hp2',hm',hn'⟩:=mg_pl b hb
  unfold onBase
  have hle:pl a≤pl b:=by
    rcases Int.lt_or_le (pl b) (pl a) with hlt|hle
    · have:=hn (by omega)
      omega
    · exact hle
  rw[Int.min_eq_left hle,show (pl a - pl a).toNat=0 by omega,Nat.pow_zero,Nat.mul_one]
  obtain⟨t,ht⟩:∃t:Nat,(t:Int)=pl b - pl a:=⟨(pl b - pl a).toNat,by omega⟩
  rw[show (pl b - pl a).toNat=t by omega]
  cases t with
  | zero =>
    rw[Nat.pow_zero,Nat.mul_one]
    have:pl a=pl b:=by omega
    rw[this]at e
    omega
  | succ t =>
    have h1:=hn' (by omega)
    have h2:9007199254740992≤mg b*2^(t+1):=by
      have hp1:1≤2^t:=Nat.two_pow_pos t
      have h3:mg b*2≤mg b*2^(t+1):=Nat.mul_le_mul_left _ (by rw[Nat.pow_succ];omega)
      omega
    omega
theorem base_cmp(a b:Nat)(ha:a<9218868437227405312)(hb:b<9218868437227405312):compare (onBase a (min (pl a) (pl b))) (onBase b (min (pl a) (pl b)))=compare a b:=by
  rcases Nat.lt_trichotomy a b with h|h|h
  · rw[Nat.compare_eq_lt.2 h,Nat.compare_eq_lt.2 (base_lt a b ha hb h)]
  · subst h
    rw[Nat.compare_eq_eq.2 rfl,Nat.compare_eq_eq.2 rfl]
  · have:=base_lt b a hb ha h
    rw[Int.min_comm]at this
    rw[Nat.compare_eq_gt.2 h,Nat.compare_eq_gt.2 this]
theorem base_zero(b:Nat)(hb:b<9218868437227405312)(base:Int):onBase b base=0↔b=0:=by
  unfold onBase
  rw[Nat.mul_eq_zero]
  constructor
  · rintro (h|h)
    · rcases Nat.eq_zero_or_pos b with h0|h0
      · exact h0
      · have:=(log2_mg b h0 hb).1
        omega
    · have:=Nat.two_pow_pos (pl b - base).toNat
      omega
  · rintro rfl
    exact Or.inl rfl
def isn(b:Nat):Bool:=decide (9218868437227405312<b % 9223372036854775808)
def fkey(b:Nat):Int:=if b<9223372036854775808 then (b:Int) else -((b:Int) - 9223372036854775808)
theorem word_cases(b:Nat)(h:b<2^64):(b<9218868437227405312)∨b=9218868437227405312∨(9218868437227405312<b∧b<9223372036854775808)∨(∃c,b=9223372036854775808+c∧c<9218868437227405312)∨b=18442240474082181120∨(∃c,b=9223372036854775808+c∧9218868437227405312<c∧c<9223372036854775808):=by
  have h2:b<18446744073709551616:=h
  rcases Nat.lt_or_ge b 9223372036854775808 with h3|h3
  · omega
  · right;right;right
    rcases Nat.lt_trichotomy b 18442240474082181120 with h4|h4|h4
    · exact Or.inl ⟨b - 9223372036854775808,by omega,by omega⟩
    · exact Or.inr (Or.inl h4)
    · exact Or.inr (Or.inr ⟨b - 9223372036854775808,by omega,by omega,by omega⟩)
theorem cmp_cast(m n:Nat):compare ((m:Nat):Int) ((n:Nat):Int)=compare m n:=by
  rcases Nat.lt_trichotomy m n with h|h|h
  · rw[Nat.compare_eq_lt.2 h,Int.compare_eq_lt.2 (by omega)]
  · rw[Nat.compare_eq_eq.2 h,Int.compare_eq_eq.2 (by omega)]
  · rw[Nat.compare_eq_gt.2 h,Int.compare_eq_gt.2 (by omega)]
theorem cmp_lt{x y:Int}(h:x<y):compare x y = .lt:=Int.compare_eq_lt.2 h
theorem cmp_gt{x y:Int}(h:y<x):compare x y = .gt:=Int.compare_eq_gt.2 h
theorem cmp_of{x y x' y':Int}(h1:x<y↔x'<y')(h2:x=y↔x'=y'):compare x y=compare x' y':=by
  rcases Int.lt_trichotomy x y with h|h|h
  · rw[cmp_lt h,cmp_lt (h1.1 h)]
  · rw[Int.compare_eq_eq.2 h,Int.compare_eq_eq.2 (h2.1 h)]
  · have:y'<x':=by
      rcases Int.lt_trichotomy x' y' with g|g|g
      · have:=h1.2 g;omega
      · have:=h2.2 g;omega
      · exact g
    rw[cmp_gt h,cmp_gt this]
theorem base_lt_iff(a b:Nat)(ha:a<9218868437227405312)(hb:b<9218868437227405312):onBase a (min (pl a) (pl b))<onBase b (min (pl a) (pl b))↔a<b:=by
  have h:=base_cmp a b ha hb
  constructor
  · intro hl
    rw[Nat.compare_eq_lt.2 hl]at h
    exact Nat.compare_eq_lt.1 h.symm
  · exact base_lt a b ha hb
theorem base_eq_iff(a b:Nat)(ha:a<9218868437227405312)(hb:b<9218868437227405312):onBase a (min (pl a) (pl b))=onBase b (min (pl a) (pl b))↔a=b:=by
  have h:=base_cmp a b ha hb
  constructor
  · intro hl
    rw[Nat.compare_eq_eq.2 hl]at h
    exact Nat.compare_eq_eq.1 h.symm
  · rintro rfl
    rfl
theorem fkey_pos(b:Nat)(h:b<9223372036854775808):fkey b=b:=if_pos h
theorem fkey_neg(c b:Nat)(h:b=9223372036854775808+c):fkey b = -(c:Int):=by
  subst h
  unfold fkey
  rw[if_neg (by omega)]
  omega
theorem order_nn(a b:Nat)(ha:a<9218868437227405312)(hb:b<9218868437227405312):double.order a b=some (compare (a:Int) (b:Int)):=by
  unfold Format.order
  rw[read_fin a ha,read_fin b hb]
  show some (compare (signed false (mg a) _) (signed false (mg b) _))=_
  rw[signed_false,signed_false,cmp_cast,cmp_cast]
  exact congrArg some (base_cmp a b ha hb)
theorem order_np(a b:Nat)(ha:a<9218868437227405312)(hb:b<9218868437227405312):double.order (9223372036854775808+a) b=some (compare (-(a:Int)) (b:Int)):=by
  unfold Format.order
  rw[read_nfin a ha,read_fin b hb]
  show some (compare (signed true (mg a) _) (signed false (mg b) _))=_
  rw[signed_false,signed_true]
  have h1:=base_zero a ha (min (pl a) (pl b))
  have h2:=base_zero b hb (min (pl a) (pl b))
  unfold onBase at h1 h2
  refine congrArg some (cmp_of ?_ ?_) <;> omega
theorem order_pn(a b:Nat)(ha:a<9218868437227405312)(hb:b<9218868437227405312):double.order a (9223372036854775808+b)=some (compare (a:Int) (-(b:Int))):=by
  unfold Format.order
  rw[read_fin a ha,read_nfin b hb]
  show some (compare (signed false (mg a) _) (signed true (mg b) _))=_
  rw[signed_false,signed_true]
  have h1:=base_zero a ha (min (pl a) (pl b))
  have h2:=base_zero b hb (min (pl a) (pl b))
  unfold onBase at h1 h2
  refine congrArg some (cmp_of ?_ ?_) <;> omega
theorem order_mm(a b:Nat)(ha:a<9218868437227405312)(hb:b<9218868437227405312):double.order (9223372036854775808+a) (9223372036854775808+b)=some (compare (-(a:Int)) (-(b:Int))):=by
  unfold Format.order
  rw[read_nfin a ha,read_nfin b hb]
  show some (compare (signed true (mg a) _) (signed true (mg b) _))=_
  rw[signed_true,signed_true]
  have h1:=base_lt_iff b a hb ha
  have h2:=base_eq_iff a b ha hb
  rw[Int.min_comm]at h1
  unfold onBase at h1 h2
  refine congrArg some (cmp_of ?_ ?_) <;> omega
theorem order_fi(a:Nat)(ha:a<9218868437227405312):double.order a 9218868437227405312=some .lt∧double.order a 18442240474082181120=some .gt∧double.order (9223372036854775808+a) 9218868437227405312=some .lt∧double.order (9223372036854775808+a) 18442240474082181120=some .gt∧double.order 9218868437227405312 a=some .gt∧double.order 18442240474082181120 a=some .lt∧double.order 9218868437227405312 (9223372036854775808+a)=some .gt∧double.order 18442240474082181120 (9223372036854775808+a)=some .lt:=by
  unfold Format.order
  rw[read_fin a ha,read_nfin a ha,read_inf,read_ninf]
  exact⟨rfl,rfl,rfl,rfl,rfl,rfl,rfl,rfl⟩
theorem order_ii:double.order 9218868437227405312 9218868437227405312=some .eq∧double.order 9218868437227405312 18442240474082181120=some .gt∧double.order 18442240474082181120 9218868437227405312=some .lt∧double.order 18442240474082181120 18442240474082181120=some .eq:=by
  unfold Format.order
  rw[read_inf,read_ninf]
  exact⟨rfl,rfl,rfl,rfl⟩
theorem word_real(b:Nat)(h:b<2^64)(hn:isn b=false):(b<9218868437227405312)∨b=9218868437227405312∨(∃c,b=9223372036854775808+c∧c<9218868437227405312)∨b=18442240474082181120:=by
  have hn2:¬9218868437227405312<b % 9223372036854775808:=of_decide_eq_false hn
  rcases word_cases b h with h|h|h | ⟨c,rfl,hc⟩|h | ⟨c,rfl,hc⟩
  · exact Or.inl h
  · exact Or.inr (Or.inl h)
  · omega
  · exact Or.inr (Or.inr (Or.inl ⟨c,rfl,hc⟩))
  · exact Or.inr (Or.inr (Or.inr h))
  · omega
theorem order_key(a b:Nat)(ha:a<2^64)(hb:b<2^64)(na:isn a=false)(nb:isn b=false):double.order a b=some (compare (fkey a) (fkey b)):=by
  rcases word_real a ha na with h|h | ⟨c,h,hc⟩|h <;> rcases word_real b hb nb with g|g | ⟨d,g,hd⟩|g
  · rw[order_nn a b h g,fkey_pos a (by omega),fkey_pos b (by omega)]
  · rw[g,(order_fi a h).1,fkey_pos a (by omega),fkey_pos _ (by omega),cmp_lt (by omega)]
  · rw[g,order_pn a d h hd,fkey_pos a (by omega),fkey_neg d _ rfl]
  · rw[g,(order_fi a h).2.1,fkey_pos a (by omega),fkey_neg 9218868437227405312 18442240474082181120 rfl,cmp_gt (by omega)]
  · rw[h,(order_fi b g).2.2.2.2.1,fkey_pos b (by omega),fkey_pos _ (by omega),cmp_gt (by omega)]
  · rw[h,g,order_ii.1,Int.compare_eq_eq.2 rfl]
  · rw[h,g,(order_fi d hd).2.2.2.2.2.2.1,fkey_neg d _ rfl,fkey_pos _ (by omega),cmp_gt (by omega)]
  · rw[h,g,order_ii.2.1,fkey_pos _ (by omega),fkey_neg 9218868437227405312 18442240474082181120 rfl,cmp_gt (by omega)]
  · rw[h,order_np c b hc g,fkey_pos b (by omega),fkey_neg c _ rfl]
  · rw[h,g,(order_fi c hc).2.2.1,fkey_neg c _ rfl,fkey_pos _ (by omega),cmp_lt (by omega)]
  · rw[h,g,order_mm c d hc hd,fkey_neg c _ rfl,fkey_neg d _ rfl]
  · rw[h,g,(order_fi c hc).2.2.2.1,fkey_neg c _ rfl,fkey_neg 9218868437227405312 18442240474082181120 rfl,cmp_gt (by omega)]
  · rw[h,(order_fi b g).2.2.2.2.2.1,fkey_pos b (by omega),fkey_neg 9218868437227405312 18442240474082181120 rfl,cmp_lt (by omega)]
  · rw[h,g,order_ii.2.2.1,fkey_pos 9218868437227405312 (by omega),fkey_neg 9218868437227405312 18442240474082181120 rfl,cmp_lt (by omega)]
  · rw[h,g,(order_fi d hd).2.2.2.2.2.2.2,fkey_neg d _ rfl,fkey_neg 9218868437227405312 18442240474082181120 rfl,cmp_lt (by omega)]
  · rw[h,g,order_ii.2.2.2,Int.compare_eq_eq.2 rfl]
theorem isn_read(b:Nat)(h:b<2^64)(hn:isn b=true):∃s t,double.read b = .nan s t:=by
  have hn2:9218868437227405312<b % 9223372036854775808:=of_decide_eq_true hn
  rcases word_cases b h with h|h|h | ⟨c,rfl,hc⟩|h | ⟨c,rfl,hc⟩
  · omega
  · omega
  · exact⟨_,_,read_nan b h.1 h.2⟩
  · omega
  · omega
  · exact⟨_,_,read_nnan c hc.1 hc.2⟩
theorem order_nan(a b:Nat)(h:(a<2^64∧isn a=true)∨(b<2^64∧isn b=true)):double.order a b=none:=by
  unfold Format.order
  rcases h with ⟨h1,h2⟩ | ⟨h1,h2⟩
  · obtain⟨s,t,e⟩:=isn_read a h1 h2
    rw[e]
    rfl
  · obtain⟨s,t,e⟩:=isn_read b h1 h2
    rw[e]
    cases double.read a <;> rfl
theorem fl_reads(N:Nat)(q:Int)(h:0<N)(h2:N<2^53)(hq:-1074≤q)(hv:q+N.log2≤1023):∃s:Nat,double.read (fl N q) = .number false (N*2^s) (q - s)∧N.log2+s≤52∧(s:Int)=q - lastOf N q:=by
  have hl:=last_le N q h h2 hq
  have hlog:=log2_le N h h2
  refine⟨(q - lastOf N q).toNat,?_,?_,by omega⟩
  · rw[fl_read N q h h2 hq hv]
    congr 1
    omega
  · unfold lastOf at hl ⊢
    omega
theorem read_one:double.read 4607182418800017408 = .number false 4503599627370496 (-52):=read_fin 4607182418800017408 (by omega)
theorem read_two:double.read 4611686018427387904 = .number false 4503599627370496 (-51):=read_fin 4611686018427387904 (by omega)
theorem read_wide:double.read 4841369599423283200 = .number false 4503599627370496 0:=read_fin 4841369599423283200 (by omega)
theorem read_zero:double.read 0 = .number false 0 (-1074):=read_fin 0 (by omega)
theorem read_nzero:double.read 9223372036854775808 = .number true 0 (-1074):=read_nfin 0 (by omega)
theorem quo_pow(N:Nat)(q:Int)(d:Nat)(r:Int)(h:0<N)(h2:N<2^53)(hq:-1074≤q)(hv:q+N.log2≤1023)(hd:double.read d = .number false 4503599627370496 r)(hq2:-1074≤q - r - 52):double.div (fl N q) d=some (fl N (q - r - 52)):=by
  obtain⟨s,e,hs,_⟩:=fl_reads N q h h2 hq hv
  unfold Format.div
  rw[e,hd]
  have hm0:N*2^s≠0:=Nat.mul_ne_zero (by omega) (Nat.ne_of_gt (Nat.two_pow_pos s))
  have hlog:(N*2^s).log2≤52:=by rw[log2_mul N s h];exact hs
  have hq':Datum.quotient (double.fractionBits+2) (.number false (N*2^s) (q - s)) (.number false 4503599627370496 r)=some (.number false (N*2^(s+(106 - (N*2^s).log2 - 51))) (q - s - r - ((106 - (N*2^s).log2:Nat):Int) - 1)):=by
    unfold Datum.quotient
    dsimp only
    rw[if_neg (by omega),d_frac,show (4503599627370496:Nat).log2=52 from Nat.log2_two_pow (n:=52),Nat.shiftLeft_eq]
    generalize (N*2^s).log2=g at hlog
    rw[show 52+2+52 - g=(54 - g)+52 by omega,Nat.pow_add,show (2:Nat)^52=4503599627370496 by rfl,← Nat.mul_assoc,Nat.mul_div_cancel _ (by omega),Nat.mul_mod_left]
    rw[show 54 - g+52 - 51=(54 - g)+1 by omega,show s+(54 - g+1)=(s+(54 - g))+1 by omega,Nat.pow_succ,Nat.pow_add]
    refine congrArg some ?_
    refine congrArg (fun x=>Datum.number false x _) ?_
    show 2*(N*2^s*2^(54 - g))+0=_
    rw[Nat.add_zero,Nat.mul_comm 2,Nat.mul_assoc,Nat.mul_assoc,Nat.mul_assoc]
  rw[hq']
  refine congrArg some ?_
  exact nearest_fl N (q - r - 52) (s+(106 - (N*2^s).log2 - 51)) _ _ h h2 hq2 rfl (by omega)
theorem mul_pow(N:Nat)(q:Int)(d:Nat)(r:Int)(h:0<N)(h2:N<2^53)(hq:-1074≤q)(hv:q+N.log2≤1023)(hd:double.read d = .number false 4503599627370496 r)(hq2:-1074≤q+r+52):double.mul (fl N q) d=some (fl N (q+r+52)):=by
  obtain⟨s,e,hs,_⟩:=fl_reads N q h h2 hq hv
  unfold Format.mul
  rw[e,hd]
  refine congrArg some ?_
  refine nearest_fl N (q+r+52) (s+52) _ _ h h2 hq2 ?_ (by omega)
  rw[Nat.pow_add,Nat.mul_assoc]
theorem write_zero(b:Bool)(p:Int):double.write (.number b 0 p)=double.word b 0:=by
  show double.nearest b 0 p=_
  unfold Format.nearest
  rw[if_pos rfl]
theorem sub_one(N:Nat)(h:0<N)(h2:N<2^53):double.sub (fl N (-(N.log2:Int))) 4607182418800017408=some (if N=2^N.log2 then 0 else fl (N - 2^N.log2) (-(N.log2:Int))):=by
  have hlog:=log2_le N h h2
  obtain⟨s,e,hs,hs2⟩:=fl_reads N (-(N.log2:Int)) h h2 (by omega) (by omega)
  have hs3:s=52 - N.log2:=by unfold lastOf at hs2;omega
  unfold Format.sub
  rw[e,read_one]
  have hp:(-(N.log2:Int)) - s = -52:=by omega
  rw[hp]
  have hle:2^N.log2≤N:=Nat.log2_self_le (by omega)
  have hs4:Datum.sum (.number false (N*2^s) (-52)) (Datum.opposite (.number false 4503599627370496 (-52)))=some (.number false ((N - 2^N.log2)*2^s) (-52)):=by
    show some (Datum.number _ _ _)=_
    rw[signed_false,show (!false)=true from rfl,signed_true]
    have h1:(4503599627370496:Nat)=2^N.log2*2^s:=by
      rw[← Nat.pow_add,show N.log2+s=52 by omega]
    have h3:(((N*2^s*2^((-52:Int) - min (-52) (-52)).toNat:Nat):Int) + -((4503599627370496*2^((-52:Int) - min (-52) (-52)).toNat:Nat):Int))=(((N - 2^N.log2)*2^s:Nat):Int):=by
      show (((N*2^s*1:Nat):Int) + -((4503599627370496*1:Nat):Int))=_
      rw[Nat.mul_one,Nat.mul_one,Nat.sub_mul,← h1]
      have:2^N.log2*2^s≤N*2^s:=Nat.mul_le_mul_right _ hle
      omega
    rw[h3]
    have h4:(if (((N - 2^N.log2)*2^s:Nat):Int)=0 then (false && true) else decide ((((N - 2^N.log2)*2^s:Nat):Int)<0))=false:=by
      split
      · rfl
      · exact decide_eq_false (by omega)
    refine congrArg some ?_
    rw[Int.natAbs_natCast]
    exact congrArg (fun x=>Datum.number x _ _) h4
  rw[hs4]
  refine congrArg some ?_
  by_cases hz:N=2^N.log2
  · rw[if_pos hz,show N - 2^N.log2=0 by omega,Nat.zero_mul]
    rw[write_zero,word_false]
  · rw[if_neg hz]
    exact nearest_fl (N - 2^N.log2) (-(N.log2:Int)) s _ _ (by omega) (Nat.lt_of_le_of_lt (Nat.sub_le _ _) h2) (by omega) rfl (by omega)
theorem cut_whole_zero(neg:Bool)(n d:Nat)(s:Nat)(hs:s≤n.log2+2)(hn:n=d*2^s):Toward.zero.cut neg n s=d:=by
  unfold Toward.cut
  have hp:0<2^s:=Nat.two_pow_pos s
  rw[Nat.min_eq_left hs,Nat.shiftLeft_eq,Nat.one_mul]
  have h1:n / 2^s=d:=by rw[hn];exact Nat.mul_div_cancel d hp
  simp[h1]
theorem toInt_fl(N:Nat)(q:Nat)(h:0<N)(h2:N<2^53)(hv:(q:Int)+N.log2≤1023):(double.read (fl N q)).toInt .zero=some ((N*2^q:Nat):Int):=by
  obtain⟨s,e,hs,hs2⟩:=fl_reads N q h h2 (by omega) hv
  rw[e]
  show some (signed false (Toward.zero.cut false ((N*2^s) <<< ((q:Int) - s).toNat) (-((q:Int) - s)).toNat) 0)=_
  have:Toward.zero.cut false ((N*2^s) <<< ((q:Int) - s).toNat) (-((q:Int) - s)).toNat=N*2^q:=by
    rw[Nat.shiftLeft_eq]
    by_cases hsq:s≤q
    · rw[show ((q:Int) - s).toNat=q - s by omega,show (-((q:Int) - s)).toNat=0 by omega]
      refine cut_whole_zero false _ _ 0 (by omega) ?_
      rw[Nat.mul_assoc,← Nat.pow_add,show s+(q - s)=q by omega]
      simp
    · rw[show ((q:Int) - s).toNat=0 by omega,show (-((q:Int) - s)).toNat=s - q by omega,Nat.pow_zero,Nat.mul_one]
      refine cut_whole_zero false _ _ (s - q) ?_ ?_
      · rw[log2_mul N s h]
        omega
      · rw[Nat.mul_assoc,← Nat.pow_add,show q+(s - q)=s by omega]
  rw[this,signed_false]
  simp
theorem toInt_zero:(double.read 0).toInt .zero=some 0:=by
  rw[read_zero]
  rfl
theorem f64_double:FloatKind.f64.format=double:=rfl
theorem feq_key(a b:Nat)(ha:a<2^64)(hb:b<2^64)(na:isn a=false)(nb:isn b=false):feq a b=decide (fkey a=fkey b):=by
  unfold feq
  rw[f64_double,order_key a b ha hb na nb]
  rcases Int.lt_trichotomy (fkey a) (fkey b) with h|h|h
  · rw[cmp_lt h,decide_eq_false (by omega)];rfl
  · rw[Int.compare_eq_eq.2 h,decide_eq_true h];rfl
  · rw[cmp_gt h,decide_eq_false (by omega)];rfl
theorem fls_key(a b:Nat)(ha:a<2^64)(hb:b<2^64)(na:isn a=false)(nb:isn b=false):fls a b=decide (fkey a<fkey b):=by
  unfold fls
  rw[f64_double,order_key a b ha hb na nb]
  rcases Int.lt_trichotomy (fkey a) (fkey b) with h|h|h
  · rw[cmp_lt h,decide_eq_true h];rfl
  · rw[Int.compare_eq_eq.2 h,decide_eq_false (by omega)];rfl
  · rw[cmp_gt h,decide_eq_false (by omega)];rfl
theorem fgt_key(a b:Nat)(ha:a<2^64)(hb:b<2^64)(na:isn a=false)(nb:isn b=false):fgt a b=decide (fkey b<fkey a):=by
  unfold fgt
  rw[f64_double,order_key a b ha hb na nb]
  rcases Int.lt_trichotomy (fkey a) (fkey b) with h|h|h
  · rw[cmp_lt h,decide_eq_false (by omega)];rfl
  · rw[Int.compare_eq_eq.2 h,decide_eq_false (by omega)];rfl
  · rw[cmp_gt h,decide_eq_true h];rfl
theorem fge_key(a b:Nat)(ha:a<2^64)(hb:b<2^64)(na:isn a=false)(nb:isn b=false):fge a b=decide (fkey b≤fkey a):=by
  unfold fge
  rw[f64_double,order_key a b ha hb na nb]
  rcases Int.lt_trichotomy (fkey a) (fkey b) with h|h|h
  · rw[cmp_lt h,decide_eq_false (by omega)];rfl
  · rw[Int.compare_eq_eq.2 h,decide_eq_true (by omega)];rfl
  · rw[cmp_gt h,decide_eq_true (by omega)];rfl
theorem cmp_nan(a b:Nat)(h:(a<2^64∧isn a=true)∨(b<2^64∧isn b=true)):feq a b=false∧fls a b=false∧fgt a b=false∧fle a b=false∧fge a b=false:=by
  unfold feq fls fgt fle fge
  rw[f64_double,order_nan a b h]
  exact⟨rfl,rfl,rfl,rfl,rfl⟩
theorem isn_pos(b:Nat)(h:b≤9218868437227405312):isn b=false:=decide_eq_false (by omega)
theorem isn_neg(b:Nat)(h:b≤9218868437227405312):isn (9223372036854775808+b)=false:=decide_eq_false (by omega)
theorem feq_self(b:Nat)(h:b<2^64):feq b b = !isn b:=by
  cases hn:isn b with
  | true=>exact (cmp_nan b b (Or.inl ⟨h,hn⟩)).1
  | false=>rw[feq_key b b h h hn hn,decide_eq_true rfl];rfl
theorem fneg_pos(b:Nat)(h:b<9223372036854775808):fneg b=9223372036854775808+b:=by
  show b ^^^ 2^63=_
  have:b ^^^ 2^63=2^63+b:=by
    rw[Nat.xor_comm]
    have h1:=Nat.two_pow_add_eq_or_of_lt (i:=63) (b:=b) h 1
    rw[Nat.mul_one]at h1
    rw[h1]
    apply Nat.eq_of_testBit_eq
    intro i
    rw[Nat.testBit_xor,Nat.testBit_or,Nat.testBit_two_pow]
    by_cases hi:63=i
    · subst hi
      rw[Nat.testBit_lt_two_pow h]
      rfl
    · simp[hi]
  exact this
theorem fneg_neg(c:Nat)(h:c<9223372036854775808):fneg (9223372036854775808+c)=c:=by
  rw[← fneg_pos c h]
  show (c ^^^ 2^63) ^^^ 2^63=c
  rw[Nat.xor_assoc,Nat.xor_self,Nat.xor_zero]
theorem fl_ok{o:BinOp}{a b r:Nat}(h:floatBits o .f64 a b=some r):fok o a b=true∧fval o a b=r:=by
  unfold fok fval
  rw[h]
  exact⟨rfl,rfl⟩
theorem fl_lt(N:Nat)(q:Int)(h:0<N)(h2:N<2^53)(hq:-1074≤q):0<fl N q∧fl N q≤9218868437227405312:=by
  rw[fl_def N q h h2 hq]
  have:=(mag_bound N q h h2 hq).1
  omega
theorem fl_below(N:Nat)(q:Int)(h:0<N)(h2:N<2^53)(hq:-1074≤q)(hv:q+N.log2≤1023)(e:Nat)(he:e≤2045):fl N q<(e+1)*4503599627370496↔q+N.log2<(e:Int) - 1022:=by
  have hl:=last_le N q h h2 hq
  have hm:=mag_bound N q h h2 hq
  rw[(fl_finite N q h h2 hq hv).1]
  have hdef:lastOf N q=max (q+N.log2 - 52) (-1074):=rfl
  generalize lastOf N q=L at *
  rcases Int.lt_or_le (-1074) L with h1|h1
  · have:=hm.2.2 h1
    have e2:q+N.log2=L+52:=by omega
    generalize N*2^(q - L).toNat=M at *
    constructor
    · intro hlt
      omega
    · intro hlt
      omega
  · have e2:L = -1074:=by omega
    subst e2
    have hmul:=log2_mul N (q - -1074).toNat h
    have e3:((N*2^(q - -1074).toNat).log2:Int)=q+N.log2+1074:=by omega
    have hpos:=hm.1
    have hlt:=hm.2.1
    generalize N*2^(q - -1074).toNat=M at *
    rw[show (-1074+1074:Int).toNat=0 by omega,Nat.zero_mul,Nat.zero_add]
    cases e with
    | zero =>
      rw[Nat.zero_add,Nat.one_mul]
      have:=Nat.log2_lt (n:=M) (k:=52) (by omega)
      constructor
      · intro hx
        have:=this.2 hx
        omega
      · intro hx
        exact this.1 (by omega)
    | succ e =>
      constructor
      · intro hx
        omega
      · intro hx
        omega
end Go.Proofs.YtokpniagnbaflaaX

import Derived.Test.YtokpniagnbaflaaZFnPages38
namespace Go.Proofs.Ytokpniagnbaflaa.PFnPages
set_option maxHeartbeats 8000000
set_option maxRecDepth 100000
open Go.RowKit Go.Proofs.YtokpniagnbaflaaW.PrintWords Go.Proofs.YtokpniagnbaflaaW.PrintLast Go.Proofs.YtokpniagnbaflaaW.PrintMore
attribute [local go_sem] max2_int min2_int max_two min_two max_three min_three max_four min_four
attribute [local go_sem high] fl_eql fl_neq fl_lss fl_leq fl_gtr fl_geq fl_add fl_sub fl_mul fl_quo fl_neg fl_ofInt fl_toInt fl_store sub_sign fl_nan_quo fl_nan_add fl_nan_mul fl_nan_sub
open Go.Proofs.YtokpniagnbaflaaW.PrintWords renaming below_alloc → h1, pw_below_drewN → h2, below_drew1 → h3, below_set → h4, blk_drewN → b1, blk_drew → b2, blk_alloc → b3
set_option linter.unusedVariables false
set_option linter.unusedSimpArgs false
def spec_l1PickInt.f(s0_0:List Int)(s0_1:Int)(s0_2:Int)(l1:List Int):Option (Int×Int×Int):=(spec_l1Below.f s0_0 s0_1 s0_2 (l1.length:Int)).bind fun bt623=>(if 0≤bt623.1 then (if bt623.1<(l1.length:Int) then (some (rd l1 bt623.1,bt623.2.1,bt623.2.2)) else (none)) else (none))
theorem spec_l1PickInt.calls(g:Nat)(s0_0:List Int)(s0_1:Int)(s0_2:Int)(A1:Option Addr)(c1:Nat)(l1:List Int)(r1:Int)(r2:Int)(r3:Int)(w0 w:World)(hI:IsS82 w0 w g s0_0 s0_1 s0_2)(hB:Below w0.heap.size w0 w)(hr1:Kd.C (Kd.int .i64) w A1 l1.length l1)(hc1:l1.length≤c1)(hf1:∀ad,A1=some ad→0<l1.length→ad.block≠g)(h:spec_l1PickInt.f s0_0 s0_1 s0_2 l1=some (r1,r2,r3)) :
    Calls Try.prog 64 #[.pointer (some ⟨g,0,none⟩), .slice A1 l1.length c1] w fun e w'=>e = .returned (.int .i64 r1)∧IsS82 w0 w' g s0_0 r2 r3∧Below w0.heap.size w0 w'∧KeepBut w w' g none:=by
  have HR1:=ZA hr1;have HC1:=ZA hc1;clear hr1 hc1;have HI0:=ZA hI;have HK:=ZA (KeepBut.refl w g none);have HL:=ZA hB.size;clear hI;have HW0:=ZA hB.size;have HB:=ZA hB;clear hB;have H:=h;clear h;unfold spec_l1PickInt.f at H;obtain⟨⟨t623,t624,t625⟩,A3,H⟩:=Zo H;(try dsimp only at H);by_cases c4:0≤t623
  · rw[if_pos c4]at H;have c4b0:=decide_eq_true c4;clear c4;by_cases c5:t623<(l1.length:Int)
    · rw[if_pos c5]at H;have c5b0:=decide_eq_true c5;clear c5;simp only[Option.some.injEq,Prod.mk.injEq]at H;obtain⟨rfl,rfl,rfl⟩:=H;(go_enter Try.func64,Try.ntmps64);(go_wp2_with (first|((with_reducible refine gate_callee (f:=63) rfl ?_);refine goesL_ (some 9) rfl rfl Try.func63 Z20 rfl #[.pointer (some ⟨g,0,none⟩), .int .i64 (l1.length:Int)] rfl Z0 ?_;(with_reducible refine (spec_l1Below.calls g s0_0 s0_1 s0_2 (l1.length:Int) t623 t624 t625 w0 _ ?side1 ?side2 A3.out).mono ?_);(case side1=>exact (Z6));(case side2=>exact Z13);rintro e w6 ⟨rfl,hi,hb,hk⟩;refine⟨_,rfl,?_⟩;have _:=ZA (KeepBut.trans Z4 hk (.inl rfl));have _:=ZA (hb);have _:=ZA (hi);clear HK HB HI0;rename_i HK HB HI0;(try clear hb);(try clear hb2);(try clear hk);(try clear hi);have p626:0≤(t623:Int):=of_decide_eq_true Z5;have q626:t623<(l1.length:Int):=of_decide_eq_true Z5;obtain⟨ad626,e626,hx626_0⟩:=Kd.at_int HR1.out t623 p626 q626;cases e626;replace hx626_0:=keep_cell HK.out hx626_0 (by first|(rw[add_block];exact hf1 _ rfl Z8)|exact hf1 _ rfl Z8|exact hf1 ad626 rfl Z8);replace p626:=eq_true p626;replace q626:=eq_true q626)));(go_ret);exact⟨by first|rfl|(simp[errW_none,errW_some] <;> rfl)|(simp[*,errW_none,errW_some] <;> rfl),Z6,Z19,Z17⟩
    · rw[if_neg c5]at H;exact absurd H Z45
  · rw[if_neg c4]at H;exact absurd H Z45
end Go.Proofs.Ytokpniagnbaflaa.PFnPages

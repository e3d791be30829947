import Derived.Test.YtokpniagnbaflaaZFnPages37
namespace Go.Proofs.Ytokpniagnbaflaa.PFnPages
set_option maxHeartbeats 8000000
set_option maxRecDepth 100000
open Go.RowKit Go.Proofs.YtokpniagnbaflaaW.PrintWords Go.Proofs.YtokpniagnbaflaaW.PrintLast Go.Proofs.YtokpniagnbaflaaW.PrintMore
attribute [local go_sem] max2_int min2_int max_two min_two max_three min_three max_four min_four
attribute [local go_sem high] fl_eql fl_neq fl_lss fl_leq fl_gtr fl_geq fl_add fl_sub fl_mul fl_quo fl_neg fl_ofInt fl_toInt fl_store sub_sign fl_nan_quo fl_nan_add fl_nan_mul fl_nan_sub
open Go.Proofs.YtokpniagnbaflaaW.PrintWords renaming below_alloc → h1, pw_below_drewN → h2, below_drew1 → h3, below_set → h4, blk_drewN → b1, blk_drew → b2, blk_alloc → b3
set_option linter.unusedVariables false
set_option linter.unusedSimpArgs false
def spec_l1Byte.f(s0_0:List Int)(s0_1:Int)(s0_2:Int):Option (Int×Int×Int):=if s0_1<(s0_0.length:Int) then (if 0≤s0_1 then (some (Go.bits .and .i64 (wrap64 ((Go.bits .and .i64 (Go.bits .xor .i64 ((wrap64 ((wrap64 (s0_2*6364136223846793005))+1442695040888963407)) / 8589934592) ((wrap64 ((wrap64 (s0_2*6364136223846793005))+1442695040888963407)) / 35184372088832)) 255)+(wrap64 (rd s0_0 s0_1)))) 255,wrap64 (s0_1+1),wrap64 ((wrap64 (s0_2*6364136223846793005))+1442695040888963407))) else (none)) else (some (Go.bits .and .i64 (Go.bits .xor .i64 ((wrap64 ((wrap64 (s0_2*6364136223846793005))+1442695040888963407)) / 8589934592) ((wrap64 ((wrap64 (s0_2*6364136223846793005))+1442695040888963407)) / 35184372088832)) 255,s0_1,wrap64 ((wrap64 (s0_2*6364136223846793005))+1442695040888963407)))
theorem spec_l1Byte.calls(g:Nat)(s0_0:List Int)(s0_1:Int)(s0_2:Int)(r1:Int)(r2:Int)(r3:Int)(w0 w:World)(hI:IsS82 w0 w g s0_0 s0_1 s0_2)(hB:Below w0.heap.size w0 w)(h:spec_l1Byte.f s0_0 s0_1 s0_2=some (r1,r2,r3)) :
    Calls Try.prog 73 #[.pointer (some ⟨g,0,none⟩)] w fun e w'=>e = .returned (.int .i64 r1)∧IsS82 w0 w' g s0_0 r2 r3∧Below w0.heap.size w0 w'∧KeepBut w w' g none:=by
  have HI0:=ZA hI;have HK:=ZA (KeepBut.refl w g none);have HL:=ZA hB.size;clear hI;have HW0:=ZA hB.size;have HB:=ZA hB;clear hB;have H:=h;clear h;unfold spec_l1Byte.f at H;by_cases c2:s0_1<(s0_0.length:Int)
  · rw[if_pos c2]at H;have c2b0:=decide_eq_true c2;clear c2;by_cases c3:0≤s0_1
    · rw[if_pos c3]at H;have c3b0:=decide_eq_true c3;clear c3;simp only[Option.some.injEq,Prod.mk.injEq]at H;obtain⟨rfl,rfl,rfl⟩:=H;obtain⟨ASz4_0,cSz4_0,HGz4,hgz4,HSz4_0⟩:=HI0.out;have hcz4_0:=cellS82_0 HGz4;have hcz4_1:=cellS82_1 HGz4;have hcz4_2:=cellS82_2 HGz4;have hfz4_1:=blk_frozen HGz4 1;have hfz4_2:=blk_frozen HGz4 2;clear HGz4 hgz4;have p272:0≤(s0_1:Int):=of_decide_eq_true Z5;have q272:s0_1<(s0_0.length:Int):=of_decide_eq_true Z5
      obtain⟨ad272,e272,hx272_0⟩:=Kd.at_int HSz4_0 s0_1 p272 q272
      cases e272
      have hn272_0:ad272.block≠g:=Nat.ne_of_lt (Nat.lt_of_lt_of_le (by have:=World.block_lt_of_cell? _ _ hx272_0;first|rwa [add_block]at this|exact this) (IsS82.ge HI0.out));replace hx272_0:=pw_cell_below HB.out hx272_0;replace hx272_0:=(cell_far (p:=⟨g,2,none⟩) (by first|(rw[add_block];exact hn272_0)|(show (Addr.add _ _).block≠_;rw[add_block];exact hn272_0)|exact hn272_0) (.int .i64 (wrap64 ((wrap64 (s0_2*6364136223846793005))+1442695040888963407)))).trans hx272_0;(try have hy272_0:=fun (n_:Nat)=>(show (((w.drewN n_).setCell ⟨g,2,none⟩ (.int .i64 (wrap64 ((wrap64 (s0_2*6364136223846793005))+1442695040888963407))))).cell? _=some _ from hx272_0));clear hn272_0;replace p272:=eq_true p272;replace q272:=eq_true q272;(go_enter Try.func73,Try.ntmps73);(go_wp2);(repeat (go_quiet (fail);try go_wp2));(go_ret);exact⟨by first|rfl|(simp[errW_none,errW_some] <;> rfl)|(simp[*,errW_none,errW_some] <;> rfl),Z6,Z19,Z17⟩
    · rw[if_neg c3]at H;exact absurd H Z45
  · rw[if_neg c2]at H;have c2b0:=decide_eq_false c2;clear c2;simp only[Option.some.injEq,Prod.mk.injEq]at H;obtain⟨rfl,rfl,rfl⟩:=H;obtain⟨ASz5_0,cSz5_0,HGz5,hgz5,HSz5_0⟩:=HI0.out;have hcz5_0:=cellS82_0 HGz5;have hcz5_1:=cellS82_1 HGz5;have hcz5_2:=cellS82_2 HGz5;have hfz5_1:=blk_frozen HGz5 1;have hfz5_2:=blk_frozen HGz5 2;clear HGz5 hgz5;(go_enter Try.func73,Try.ntmps73);(go_wp2);(repeat (go_quiet (fail);try go_wp2));(go_ret);exact⟨by first|rfl|(simp[errW_none,errW_some] <;> rfl)|(simp[*,errW_none,errW_some] <;> rfl),Z6,Z19,Z17⟩
def spec_l1Below.f(s0_0:List Int)(s0_1:Int)(s0_2:Int)(a1:Int):Option (Int×Int×Int):=if a1≤0 then (some (0,s0_1,s0_2)) else (if a1≤256 then ((spec_l1Byte.f s0_0 s0_1 s0_2).bind fun bt273=>(if a1=0 then (none) else (some (Int.tmod bt273.1 a1,bt273.2.1,bt273.2.2)))) else ((spec_l1Byte.f s0_0 s0_1 s0_2).bind fun bt276=>((spec_l1Byte.f s0_0 bt276.2.1 bt276.2.2).bind fun bt279=>((spec_l1Byte.f s0_0 bt279.2.1 bt279.2.2).bind fun bt282=>((spec_l1Byte.f s0_0 bt282.2.1 bt282.2.2).bind fun bt285=>(if a1=0 then (none) else (some (Int.tmod (wrap64 ((wrap64 ((wrap64 ((wrap64 (bt276.1*16777216))+(wrap64 (bt279.1*65536))))+(wrap64 (bt282.1*256))))+bt285.1)) a1,bt285.2.1,bt285.2.2))))))))
theorem spec_l1Below.calls(g:Nat)(s0_0:List Int)(s0_1:Int)(s0_2:Int)(a1:Int)(r1:Int)(r2:Int)(r3:Int)(w0 w:World)(hI:IsS82 w0 w g s0_0 s0_1 s0_2)(hB:Below w0.heap.size w0 w)(h:spec_l1Below.f s0_0 s0_1 s0_2 a1=some (r1,r2,r3)) :
    Calls Try.prog 63 #[.pointer (some ⟨g,0,none⟩), .int .i64 a1] w fun e w'=>e = .returned (.int .i64 r1)∧IsS82 w0 w' g s0_0 r2 r3∧Below w0.heap.size w0 w'∧KeepBut w w' g none:=by
  have HI0:=ZA hI;have HK:=ZA (KeepBut.refl w g none);have HL:=ZA hB.size;clear hI;have HW0:=ZA hB.size;have HB:=ZA hB;clear hB;have H:=h;clear h;unfold spec_l1Below.f at H;by_cases c3:a1≤0
  · rw[if_pos c3]at H;have c3b0:=decide_eq_true c3;clear c3;simp only[Option.some.injEq,Prod.mk.injEq]at H;obtain⟨rfl,rfl,rfl⟩:=H;(go_enter Try.func63,Try.ntmps63);(go_wp2);(go_ret);exact⟨by first|rfl|(simp[errW_none,errW_some] <;> rfl)|(simp[*,errW_none,errW_some] <;> rfl),Z6,Z19,Z17⟩
  · rw[if_neg c3]at H;have c3b0:=decide_eq_false c3;clear c3;by_cases c4:a1≤256
    · rw[if_pos c4]at H;have c4b0:=decide_eq_true c4;clear c4;obtain⟨⟨t273,t274,t275⟩,A5,H⟩:=Zo H;(try dsimp only at H);by_cases c6:a1=0
      · rw[if_pos c6]at H;exact absurd H Z45
      · rw[if_neg c6]at H;have c6b0:(a1 == 0)=false:=beq_eq_false_iff_ne.mpr c6;have c6b1:(a1 != 0)=true:=bne_iff_ne.mpr c6;simp only[Option.some.injEq,Prod.mk.injEq]at H;obtain⟨rfl,rfl,rfl⟩:=H;(go_enter Try.func63,Try.ntmps63);(go_wp2_with (first|((with_reducible refine gate_callee (f:=73) rfl ?_);refine goesL_ (some 14) rfl rfl Try.func73 Z20 rfl #[.pointer (some ⟨g,0,none⟩)] rfl Z0 ?_;(with_reducible refine (spec_l1Byte.calls g s0_0 s0_1 s0_2 t273 t274 t275 w0 _ ?side1 ?side2 A5.out).mono ?_);(case side1=>exact (Z6));(case side2=>exact Z13);rintro e w7 ⟨rfl,hi,hb,hk⟩;refine⟨_,rfl,?_⟩;have _:=ZA (KeepBut.trans Z4 hk (.inl rfl));have _:=ZA (hb);have _:=ZA (hi);clear HK HB HI0;rename_i HK HB HI0;(try clear hb);(try clear hb2);(try clear hk);(try clear hi))));(go_ret);exact⟨by first|rfl|(simp[errW_none,errW_some] <;> rfl)|(simp[*,errW_none,errW_some] <;> rfl),Z6,Z19,Z17⟩
    · rw[if_neg c4]at H;have c4b0:=decide_eq_false c4;clear c4;obtain⟨⟨t276,t277,t278⟩,A8,H⟩:=Zo H;(try dsimp only at H);obtain⟨⟨t279,t280,t281⟩,A9,H⟩:=Zo H;(try dsimp only at H);obtain⟨⟨t282,t283,t284⟩,A10,H⟩:=Zo H;(try dsimp only at H);obtain⟨⟨t285,t286,t287⟩,A11,H⟩:=Zo H;(try dsimp only at H);by_cases c12:a1=0
      · rw[if_pos c12]at H;exact absurd H Z45
      · rw[if_neg c12]at H;have c12b0:(a1 == 0)=false:=beq_eq_false_iff_ne.mpr c12;have c12b1:(a1 != 0)=true:=bne_iff_ne.mpr c12;simp only[Option.some.injEq,Prod.mk.injEq]at H;obtain⟨rfl,rfl,rfl⟩:=H;(go_enter Try.func63,Try.ntmps63);(go_wp2_with (first|((with_reducible refine gate_callee (f:=73) rfl ?_);refine goesL_ (some 18) rfl rfl Try.func73 Z20 rfl #[.pointer (some ⟨g,0,none⟩)] rfl Z0 ?_;(with_reducible refine (spec_l1Byte.calls g s0_0 s0_1 s0_2 t276 t277 t278 w0 _ ?side1 ?side2 A8.out).mono ?_);(case side1=>exact (Z6));(case side2=>exact Z13);rintro e w13 ⟨rfl,hi,hb,hk⟩;refine⟨_,rfl,?_⟩;have _:=ZA (KeepBut.trans Z4 hk (.inl rfl));have _:=ZA (hb);have _:=ZA (hi);clear HK HB HI0;rename_i HK HB HI0;(try clear hb);(try clear hb2);(try clear hk);(try clear hi))|((with_reducible refine gate_callee (f:=73) rfl ?_);refine goesL_ (some 20) rfl rfl Try.func73 Z20 rfl #[.pointer (some ⟨g,0,none⟩)] rfl Z0 ?_;(with_reducible refine (spec_l1Byte.calls g s0_0 t277 t278 t279 t280 t281 w0 _ ?side1 ?side2 A9.out).mono ?_);(case side1=>exact (Z6));(case side2=>exact Z13);rintro e w14 ⟨rfl,hi,hb,hk⟩;refine⟨_,rfl,?_⟩;have _:=ZA (KeepBut.trans Z4 hk (.inl rfl));have _:=ZA (hb);have _:=ZA (hi);clear HK HB HI0;rename_i HK HB HI0;(try clear hb);(try clear hb2);(try clear hk);(try clear hi))|((with_reducible refine gate_callee (f:=73) rfl ?_);refine goesL_ (some 22) rfl rfl Try.func73 Z20 rfl #[.pointer (some ⟨g,0,none⟩)] rfl Z0 ?_;(with_reducible refine (spec_l1Byte.calls g s0_0 t280 t281 t282 t283 t284 w0 _ ?side1 ?side2 A10.out).mono ?_);(case side1=>exact (Z6));(case side2=>exact Z13);rintro e w15 ⟨rfl,hi,hb,hk⟩;refine⟨_,rfl,?_⟩;have _:=ZA (KeepBut.trans Z4 hk (.inl rfl));have _:=ZA (hb);have _:=ZA (hi);clear HK HB HI0;rename_i HK HB HI0;(try clear hb);(try clear hb2);(try clear hk);(try clear hi))|((with_reducible refine gate_callee (f:=73) rfl ?_);refine goesL_ (some 24) rfl rfl Try.func73 Z20 rfl #[.pointer (some ⟨g,0,none⟩)] rfl Z0 ?_;(with_reducible refine (spec_l1Byte.calls g s0_0 t283 t284 t285 t286 t287 w0 _ ?side1 ?side2 A11.out).mono ?_);(case side1=>exact (Z6));(case side2=>exact Z13);rintro e w16 ⟨rfl,hi,hb,hk⟩;refine⟨_,rfl,?_⟩;have _:=ZA (KeepBut.trans Z4 hk (.inl rfl));have _:=ZA (hb);have _:=ZA (hi);clear HK HB HI0;rename_i HK HB HI0;(try clear hb);(try clear hb2);(try clear hk);(try clear hi))));(go_ret);exact⟨by first|rfl|(simp[errW_none,errW_some] <;> rfl)|(simp[*,errW_none,errW_some] <;> rfl),Z6,Z19,Z17⟩
def spec_l1Once.f(s0_0:List Int)(s0_1:Int)(s0_2:Int)(a1:Int):Option (Bool×Int×Int):=(spec_l1Below.f s0_0 s0_1 s0_2 a1).bind fun bt288=>(some ((bt288.1 == 0),bt288.2.1,bt288.2.2))
theorem spec_l1Once.calls(g:Nat)(s0_0:List Int)(s0_1:Int)(s0_2:Int)(a1:Int)(r1:Bool)(r2:Int)(r3:Int)(w0 w:World)(hI:IsS82 w0 w g s0_0 s0_1 s0_2)(hB:Below w0.heap.size w0 w)(h:spec_l1Once.f s0_0 s0_1 s0_2 a1=some (r1,r2,r3)) :
    Calls Try.prog 59 #[.pointer (some ⟨g,0,none⟩), .int .i64 a1] w fun e w'=>e = .returned (.bool r1)∧IsS82 w0 w' g s0_0 r2 r3∧Below w0.heap.size w0 w'∧KeepBut w w' g none:=by
  have HI0:=ZA hI;have HK:=ZA (KeepBut.refl w g none);have HL:=ZA hB.size;clear hI;have HW0:=ZA hB.size;have HB:=ZA hB;clear hB;have H:=h;clear h;unfold spec_l1Once.f at H;obtain⟨⟨t288,t289,t290⟩,A3,H⟩:=Zo H;(try dsimp only at H);simp only[Option.some.injEq,Prod.mk.injEq]at H;obtain⟨rfl,rfl,rfl⟩:=H;(go_enter Try.func59,Try.ntmps59);(go_wp2_with (first|((with_reducible refine gate_callee (f:=63) rfl ?_);refine goesL_ (some 7) rfl rfl Try.func63 Z20 rfl #[.pointer (some ⟨g,0,none⟩), .int .i64 a1] rfl Z0 ?_;(with_reducible refine (spec_l1Below.calls g s0_0 s0_1 s0_2 a1 t288 t289 t290 w0 _ ?side1 ?side2 A3.out).mono ?_);(case side1=>exact (Z6));(case side2=>exact Z13);rintro e w4 ⟨rfl,hi,hb,hk⟩;refine⟨_,rfl,?_⟩;have _:=ZA (KeepBut.trans Z4 hk (.inl rfl));have _:=ZA (hb);have _:=ZA (hi);clear HK HB HI0;rename_i HK HB HI0;(try clear hb);(try clear hb2);(try clear hk);(try clear hi))));(go_ret);exact⟨by first|rfl|(simp[errW_none,errW_some] <;> rfl)|(simp[*,errW_none,errW_some] <;> rfl),Z6,Z19,Z17⟩
mutual
def spec_PutNum.j0:Nat→Int→Int→List Int→Bool→Option (List Int)
  | 0,_,_,_,_=>none
  | k+1,x0,x1,x5,x16=>if x16=true then (some x5) else (spec_PutNum.l0 k x0 x1 x5 0)
def spec_PutNum.l0:Nat→Int→Int→List Int→Int→Option (List Int)
  | 0,_,_,_,_=>none
  | k+1,x0,x1,x5,x6=>if x6<x1 then (if x5.length<140737488355328 then (spec_PutNum.l0 k (wrap64 (Int.tdiv x0 256)) x1 (x5 ++ [(Int.tmod x0 256) % 256]) (wrap64 (x6+1))) else (none)) else (if x0 > 0 then (some ([]:List Int)) else (some x5))
end
def spec_PutNum.f(k:Nat)(a0:Int)(a1:Int):Option (List Int):=if a1<1 then (spec_PutNum.j0 k a0 a1 ([]:List Int) true) else (if a1 > 8 then (spec_PutNum.j0 k a0 a1 ([]:List Int) true) else (spec_PutNum.j0 k a0 a1 ([]:List Int) (decide (a0<0))))
theorem spec_PutNum.mono_l:∀k,(∀y0 y1 y2 y3,LeO (spec_PutNum.j0 k y0 y1 y2 y3) (spec_PutNum.j0 (k+1) y0 y1 y2 y3))∧(∀y0 y1 y2 y3,LeO (spec_PutNum.l0 k y0 y1 y2 y3) (spec_PutNum.l0 (k+1) y0 y1 y2 y3))
  | 0=>⟨fun _ _ _ _ r h=>by simp[spec_PutNum.j0]at h,fun _ _ _ _ r h=>by simp[spec_PutNum.l0]at h⟩
  | k+1=>by
    obtain⟨ih0,ih1⟩:=spec_PutNum.mono_l k;refine⟨?_,?_⟩
    · intro y0 y1 y2 y3;unfold spec_PutNum.j0;repeat' with_reducible first|exact ih0 _ _ _ _|exact ih1 _ _ _ _|exact LeO.refl _|exact LeO.none _|refine LeO.ite ?_ ?_|refine LeO.bind ?_ (fun _=>?_)
    · intro y0 y1 y2 y3;unfold spec_PutNum.l0;repeat' with_reducible first|exact ih0 _ _ _ _|exact ih1 _ _ _ _|exact LeO.refl _|exact LeO.none _|refine LeO.ite ?_ ?_|refine LeO.bind ?_ (fun _=>?_)
theorem spec_PutNum.mono:∀a0 a1 k,LeO (spec_PutNum.f k a0 a1) (spec_PutNum.f (k+1) a0 a1):=by
  intro a0 a1 k;obtain⟨ih0,ih1⟩:=spec_PutNum.mono_l k;unfold spec_PutNum.f;repeat' with_reducible first|exact ih0 _ _ _ _|exact ih1 _ _ _ _|exact LeO.refl _|exact LeO.none _|refine LeO.ite ?_ ?_|refine LeO.bind ?_ (fun _=>?_)
theorem spec_PutNum.calls(k:Nat)(a0:Int)(a1:Int)(r:List Int)(w:World)(h:spec_PutNum.f k a0 a1=some r) :
    Calls Try.prog 50 #[.int .i64 a0, .int .i64 a1] w fun e w'=>∃v0_:Value,e = .returned (v0_)∧Kd.R (Kd.int .u8) 5 w' w.heap.size (fun _=>True) v0_ r∧Below w.heap.size w w':=by
  have HB:=ZA (Below.refl w.heap.size w);have H:=h;clear h;unfold spec_PutNum.f at H;have HC3:=ZA H;clear H;(go_enter Try.func50,Try.ntmps50);(go_upto_region 2 with (fail));go_cut [16] (fun v16 wc=>∃(kq:Nat) (x16_2:Bool),v16 = .bool x16_2∧Aside0 (spec_PutNum.j0 kq a0 a1 ([]:List Int) x16_2=some r)∧Aside0 (kq≤k)∧Aside0 (Kd.R (Kd.int .u8) 5 wc w.heap.size (fun _=>True) (.slice none 0 0) ([]:List Int))∧Aside0 (Below w.heap.size w wc))
  case first =>
    have H:=HC3.out;clear HC3;by_cases c4:a1<1
    · rw[if_pos c4]at H;have c4b0:=decide_eq_true c4;clear c4;(first|rw[c4b0]|(simp only[i64_w,i32_w];rw[c4b0])|skip);have H':=ZA H;clear H;(go_wp2);(go_meet);case rel=>exact⟨_,(true),Z7,H',⟨by first|omega|exact Nat.le_refl _⟩,⟨by first|exact Kd.R_nil _ _ _ _ _|exact Kd.N_nil _ _ _ _ _|exact Kd.V_nil _ _ _ _ _|exact Kd.Q_nil _ _ _ _ _|exact Kd.S_nil _ _ _ _ _⟩,⟨Z39⟩⟩
    · rw[if_neg c4]at H;have c4b0:=decide_eq_false c4;clear c4;(first|rw[c4b0]|(simp only[i64_w,i32_w];rw[c4b0])|skip);by_cases c5:a1 > 8
      · rw[if_pos c5]at H;have c5b0:=decide_eq_true c5;clear c5;have H':=ZA H;clear H;(go_wp2);(go_meet);case rel=>exact⟨_,(true),Z7,H',⟨by first|omega|exact Nat.le_refl _⟩,⟨by first|exact Kd.R_nil _ _ _ _ _|exact Kd.N_nil _ _ _ _ _|exact Kd.V_nil _ _ _ _ _|exact Kd.Q_nil _ _ _ _ _|exact Kd.S_nil _ _ _ _ _⟩,⟨Z39⟩⟩
      · rw[if_neg c5]at H;have c5b0:=decide_eq_false c5;clear c5;have H':=ZA H;clear H;(go_wp2);(go_meet);case rel=>exact⟨_,(decide (a0<0)),Z7,H',⟨by first|omega|exact Nat.le_refl _⟩,⟨by first|exact Kd.R_nil _ _ _ _ _|exact Kd.N_nil _ _ _ _ _|exact Kd.V_nil _ _ _ _ _|exact Kd.Q_nil _ _ _ _ _|exact Kd.S_nil _ _ _ _ _⟩,⟨Z39⟩⟩
  case rest =>
    clear HC3;(try clear p2);(try clear c4);(try clear c4b0);(try clear c5);try clear c5b0
    obtain⟨kq,x16_2,rfl,HA,HJ2,HO_5,HB⟩:=hcut
    cases kq with
    | zero=>exact absurd HA.out (by simp[spec_PutNum.j0])
    | succ kj2 =>
      have H:=HA.out;clear HA;simp only[spec_PutNum.j0]at H;by_cases c6:x16_2=true
      · subst c6;rw[if_pos rfl]at H;(try dsimp only at H);obtain rfl:=Option.some.inj H;(go_wp2);(go_ret);exact⟨_,by first|rfl|(simp[errW_none,errW_some] <;> rfl)|(simp[*,errW_none,errW_some] <;> rfl),by exact Kd.rup HO_5.out,Z39⟩
      · replace c6:=Bool.eq_false_iff.mpr c6;subst c6;rw[if_neg (show ¬(false=true) by decide)]at H;(try dsimp only at H);have H':=ZA H;clear H;(go_wp2);(go_loopg [0,5,6] kj2 (fun kq v0 v5 v6 w'=>∃(x0_2:Int) (x5_2:List Int) (x6_2:Int),v0 = .int .i64 x0_2∧v6 = .int .i64 x6_2∧Aside0 (spec_PutNum.l0 kq x0_2 a1 x5_2 x6_2=some r)∧Aside0 (kq≤kj2)∧Aside0 (Kd.R (Kd.int .u8) 5 w' w.heap.size (fun _=>True) v5 x5_2)∧Aside0 (Below w.heap.size w w')));case atStart=>exact⟨(a0),(([]:List Int)),(0),Z7,Z7,H',⟨Nat.le_refl _⟩,⟨by exact Kd.rup HO_5.out⟩,⟨Z39⟩⟩
        case round =>
          clear H';(try clear p2);(try clear c4);(try clear c4b0);(try clear c5);(try clear c5b0);(try clear c6);try clear p2
          obtain⟨x0_2,x5_2,x6_2,rfl,rfl,HA,HK2,HO_5,HB⟩:=hrel
          cases gk with
          | zero=>exact absurd HA.out (by simp[spec_PutNum.l0])
          | succ k2 =>
            have H:=HA.out;clear HA;simp only[spec_PutNum.l0]at H;by_cases c7:x6_2<a1
            · rw[if_pos c7]at H;have c7b0:=decide_eq_true c7;clear c7;by_cases c8:x5_2.length<140737488355328
              · rw[if_pos c8]at H;have LMc8:=ZA c8;clear c8;obtain⟨y291,hy291⟩:∃y_:List Int,y_=(x5_2 ++ [(Int.tmod x0_2 256) % 256]):=⟨_,rfl⟩;(replace H:(spec_PutNum.l0 k2 (wrap64 (Int.tdiv x0_2 256)) a1 y291 (wrap64 (x6_2+1)))=some r:=by first|(rw[hy291];with_reducible exact H)|(have H2_:=(Option.bind_some _ _).symm.trans H;rw[hy291];with_reducible exact H2_)|(have H2_:=(Option.bind_some _ _).symm.trans H;with_reducible exact H2_)|with_reducible exact H|(rw[hy291];exact H)|exact H);have Ny291:=ZA hy291;clear hy291;have H':=ZA H;clear H;(go_wp2_with (first|((with_reducible refine gate_builtin (b := .append) (xs:=#[.tmp 23, .tmp 27]) rfl ?_);at_builtin;refine Kd.R_append (Kd.int .u8) (w0:=w) w.heap.size rfl (.tmp 23) (.tmp 27) 36 5 (.int .u8 0) 1 rfl Try.underlying36 info5 rfl Z33 Z8 u5 x5_2 ((Int.tmod x0_2 256) % 256) [.int .u8 ((Int.tmod x0_2 256) % 256)] (fun _=>True) (fun _=>False) rfl rfl ?aP (fun _ hk=>hk.elim) ?aF ?aO ?aB ?aS ?aL ?_;(case aP=>exact rfl);(case aB=>exact (hup HB.out));(case aF=>exact (fun _ _=>trivial));(case aO=>exact (Kd.rup HO_5.out));(case aS=>exact (below_size (hup HB.out)));(case aL=>have:=LMc8.out;omega);intro v292 w9 ho hb hg hat;rw[← Ny291.out]at ho;have _:=ZA (hb);have _:=ZA (ho);clear HB HO_5;rename_i HB HO293;clear ho hb hg hat)));(go_roundg k2);(case measure=>have:=HJ2.out;have:=HK2.out;omega);case rel=>exact⟨(wrap64 (Int.tdiv x0_2 256)),(y291),(wrap64 (x6_2+1)),Z7,Z7,H',⟨by have:=HJ2.out;have:=HK2.out;omega⟩,⟨by exact Kd.rup HO293.out⟩,⟨Z39⟩⟩
              · rw[if_neg c8]at H;exact absurd H Z45
            · rw[if_neg c7]at H;have c7b0:=decide_eq_false c7;clear c7;by_cases c10:x0_2 > 0
              · rw[if_pos c10]at H;have c10b0:=decide_eq_true c10;clear c10;obtain rfl:=Option.some.inj H;(go_wp2);(go_ret);exact⟨_,by first|rfl|(simp[errW_none,errW_some] <;> rfl)|(simp[*,errW_none,errW_some] <;> rfl),by first|exact Kd.R_nil _ _ _ _ _|exact Kd.N_nil _ _ _ _ _|exact Kd.V_nil _ _ _ _ _|exact Kd.Q_nil _ _ _ _ _|exact Kd.S_nil _ _ _ _ _,Z39⟩
              · rw[if_neg c10]at H;have c10b0:=decide_eq_false c10;clear c10;obtain rfl:=Option.some.inj H;(go_wp2);(go_ret);exact⟨_,by first|rfl|(simp[errW_none,errW_some] <;> rfl)|(simp[*,errW_none,errW_some] <;> rfl),by exact Kd.rup HO_5.out,Z39⟩
mutual
def spec_FloatBits.j0:Nat→Nat→Int→Nat→Bool→Option (Int)
 | 0,_,_,_,_=>none
 | k+1,x0,x3,x4,x20=>if x20=true then (spec_FloatBits.j1 k 9223372036854775808 (fneg x0)) else (spec_FloatBits.j1 k x3 x4)
def spec_FloatBits.j1:Nat→Int→Nat→Option (Int)
 | 0,_,_=>none
 | k+1,x3,x4=>if (feq x4 0)=true then (some x3) else (if (fgt x4 9218868437227405311)=true then (some (Go.bits .or .u64 x3 9218868437227405312)) else (spec_FloatBits.l0 k x3 x4 0))
def spec_FloatBits.l0:Nat→Int→Nat→Int→Option (Int)
 | 0,_,_,_=>none
 | k+1,x3,x4,x5=>if (fge x4 4611686018427387904)=true then (if (fok .quo x4 4611686018427387904)=true then (spec_FloatBits.l0 k x3 (fval .quo x4 4611686018427387904) (wrap64 (x5+1))) else (none)) else (spec_FloatBits.l1 k x3 x4 x5)
def spec_FloatBits.l1:Nat→Int→Nat→Int→Option (Int)
 | 0,_,_,_=>none
 | k+1,x3,x4,x5=>if (fls x4 4607182418800017408)=true then (if x5 > (-1022) then (if (fok .mul x4 4611686018427387904)=true then (spec_FloatBits.l1 k x3 (fval .mul x4 4611686018427387904) (wrap64 (x5 - 1))) else (none)) else (if (fok .mul x4 4841369599423283200)=true then (if (fiok .u64 (fval .mul x4 4841369599423283200))=true then (some (Go.bits .or .u64 x3 (fival .u64 (fval .mul x4 4841369599423283200)))) else (none)) else (none))) else (if (fok .sub x4 4607182418800017408)=true then (if (fok .mul (fval .sub x4 4607182418800017408) 4841369599423283200)=true then (if (fiok .u64 (fval .mul (fval .sub x4 4607182418800017408) 4841369599423283200))=true then (some (Go.bits .or .u64 (Go.bits .or .u64 x3 (IntKind.u64.wrap ((IntKind.u64.wrap (wrap64 (x5+1023)))*4503599627370496))) (fival .u64 (fval .mul (fval .sub x4 4607182418800017408) 4841369599423283200)))) else (none)) else (none)) else (none))
end
def spec_FloatBits.f(k:Nat)(a0:Nat):Option (Int):=if ((feq a0 a0)=true) then (if (fls a0 0)=true then (spec_FloatBits.j0 k a0 0 a0 true) else (if (feq a0 0)=true then (if (fok .quo 4607182418800017408 a0)=true then (spec_FloatBits.j0 k a0 0 a0 (fls (fval .quo 4607182418800017408 a0) 0)) else (none)) else (spec_FloatBits.j0 k a0 0 a0 false))) else (some 9221120237041090560)
theorem spec_FloatBits.mono_l:∀k,(∀y0 y1 y2 y3,LeO (spec_FloatBits.j0 k y0 y1 y2 y3) (spec_FloatBits.j0 (k+1) y0 y1 y2 y3))∧(∀y0 y1,LeO (spec_FloatBits.j1 k y0 y1) (spec_FloatBits.j1 (k+1) y0 y1))∧(∀y0 y1 y2,LeO (spec_FloatBits.l0 k y0 y1 y2) (spec_FloatBits.l0 (k+1) y0 y1 y2))∧(∀y0 y1 y2,LeO (spec_FloatBits.l1 k y0 y1 y2) (spec_FloatBits.l1 (k+1) y0 y1 y2))
 | 0=>⟨fun _ _ _ _ r h=>by simp[spec_FloatBits.j0]at h,fun _ _ r h=>by simp[spec_FloatBits.j1]at h,fun _ _ _ r h=>by simp[spec_FloatBits.l0]at h,fun _ _ _ r h=>by simp[spec_FloatBits.l1]at h⟩
 | k+1=>by
  obtain⟨ih0,ih1,ih2,ih3⟩:=spec_FloatBits.mono_l k;refine⟨?_,?_,?_,?_⟩
  ·intro y0 y1 y2 y3;unfold spec_FloatBits.j0;repeat' with_reducible first|exact ih0 _ _ _ _|exact ih1 _ _|exact ih2 _ _ _|exact ih3 _ _ _|exact LeO.refl _|exact LeO.none _|refine LeO.ite ?_ ?_|refine LeO.bind ?_ (fun _=>?_)
  ·intro y0 y1;unfold spec_FloatBits.j1;repeat' with_reducible first|exact ih0 _ _ _ _|exact ih1 _ _|exact ih2 _ _ _|exact ih3 _ _ _|exact LeO.refl _|exact LeO.none _|refine LeO.ite ?_ ?_|refine LeO.bind ?_ (fun _=>?_)
  ·intro y0 y1 y2;unfold spec_FloatBits.l0;repeat' with_reducible first|exact ih0 _ _ _ _|exact ih1 _ _|exact ih2 _ _ _|exact ih3 _ _ _|exact LeO.refl _|exact LeO.none _|refine LeO.ite ?_ ?_|refine LeO.bind ?_ (fun _=>?_)
  ·intro y0 y1 y2;unfold spec_FloatBits.l1;repeat' with_reducible first|exact ih0 _ _ _ _|exact ih1 _ _|exact ih2 _ _ _|exact ih3 _ _ _|exact LeO.refl _|exact LeO.none _|refine LeO.ite ?_ ?_|refine LeO.bind ?_ (fun _=>?_)
theorem spec_FloatBits.mono:∀a0 k,LeO (spec_FloatBits.f k a0) (spec_FloatBits.f (k+1) a0):=by
 intro a0 k;obtain⟨ih0,ih1,ih2,ih3⟩:=spec_FloatBits.mono_l k;unfold spec_FloatBits.f;repeat' with_reducible first|exact ih0 _ _ _ _|exact ih1 _ _|exact ih2 _ _ _|exact ih3 _ _ _|exact LeO.refl _|exact LeO.none _|refine LeO.ite ?_ ?_|refine LeO.bind ?_ (fun _=>?_)
theorem spec_FloatBits.calls(k:Nat)(a0:Nat)(r:Int)(w:World)(h:spec_FloatBits.f k a0=some r) :
  Calls Try.prog 78 #[.float .f64 a0] w fun e w'=>e = .returned (.int .u64 r)∧Drawn0 w w':=by
 have H:=h;clear h;unfold spec_FloatBits.f at H;by_cases c2:((feq a0 a0)=true)
 ·rw[if_pos c2]at H;have c2b0:(feq a0 a0)=true:=c2;clear c2;have HC3:=ZA H;clear H;(go_enter Try.func78,Try.ntmps78);(go_upto_region 5 with (fail));go_cut [20] (fun v20 wc=>∃(kq:Nat) (x20_2:Bool),v20 = .bool x20_2∧Aside0 (spec_FloatBits.j0 kq a0 0 a0 x20_2=some r)∧Aside0 (kq≤k)∧Drawn0 w wc)
  case first =>
   have H:=HC3.out;clear HC3;by_cases c4:(fls a0 0)=true
   ·rw[if_pos c4]at H;have c4b0:(fls a0 0)=true:=c4;clear c4;(first|rw[c4b0]|(simp only[i64_w,i32_w];rw[c4b0])|skip);have H':=ZA H;clear H;(go_wp2);(go_meet);case rel=>exact⟨_,(true),Z7,H',⟨by first|omega|exact Nat.le_refl _⟩,Z29⟩
   ·rw[if_neg c4]at H;(have c4b0:(fls a0 0)=false:=by simpa using c4);clear c4;(first|rw[c4b0]|(simp only[i64_w,i32_w];rw[c4b0])|skip);by_cases c5:(feq a0 0)=true
    ·rw[if_pos c5]at H;have c5b0:(feq a0 0)=true:=c5;clear c5;by_cases c6:(fok .quo 4607182418800017408 a0)=true
     ·rw[if_pos c6]at H;have c6b0:(fok .quo 4607182418800017408 a0)=true:=c6;clear c6;have H':=ZA H;clear H;(go_wp2);(go_meet);case rel=>exact⟨_,((fls (fval .quo 4607182418800017408 a0) 0)),Z7,H',⟨by first|omega|exact Nat.le_refl _⟩,Z29⟩
     ·rw[if_neg c6]at H;exact absurd H Z45
    ·rw[if_neg c5]at H;(have c5b0:(feq a0 0)=false:=by simpa using c5);clear c5;have H':=ZA H;clear H;(go_wp2);(go_meet);case rel=>exact⟨_,(false),Z7,H',⟨by first|omega|exact Nat.le_refl _⟩,Z29⟩
  case rest =>
   clear HC3;(try clear c2);(try clear c2b0);(try clear p2);(try clear c4);(try clear c4b0);(try clear c5);(try clear c5b0);(try clear c6);try clear c6b0
   obtain⟨kq,x20_2,rfl,HA,HJ2,⟨mc2,rfl⟩⟩:=hcut
   cases kq with
   | zero=>exact absurd HA.out (by simp[spec_FloatBits.j0])
   | succ kj2 =>
    have H:=HA.out;clear HA;simp only[spec_FloatBits.j0]at H;have HC7:=ZA H;clear H;(go_upto_if 20 with (fail));go_cut [3,4] (fun v3 v4 wc=>∃(kq:Nat) (x3_6:Int) (x4_6:Nat),v3 = .int .u64 x3_6∧v4 = .float .f64 x4_6∧Aside0 (spec_FloatBits.j1 kq x3_6 x4_6=some r)∧Aside0 (kq≤kj2)∧Drawn0 w wc)
    case first =>
     have H:=HC7.out;clear HC7;by_cases c8:x20_2=true
     ·subst c8;rw[if_pos rfl]at H;(try dsimp only at H);have H':=ZA H;clear H;(go_wp2);(go_meet);case rel=>exact⟨_,(9223372036854775808),(fneg a0),Z7,Z7,H',⟨by have:=HJ2.out;first|omega|exact Nat.le_refl _⟩,Z29⟩
     ·replace c8:=Bool.eq_false_iff.mpr c8;subst c8;rw[if_neg (show ¬(false=true) by decide)]at H;(try dsimp only at H);have H':=ZA H;clear H;(go_wp2);(go_meet);case rel=>exact⟨_,(0),(a0),Z7,Z7,H',⟨by have:=HJ2.out;first|omega|exact Nat.le_refl _⟩,Z29⟩
    case rest =>
     clear HC7;(try clear c2);(try clear c2b0);(try clear p2);(try clear c4);(try clear c4b0);(try clear c5);(try clear c5b0);(try clear c6);(try clear c6b0);(try clear c7);(try clear c8);try clear p2
     obtain⟨kq,x3_6,x4_6,rfl,rfl,HA,HJ6,⟨mc6,rfl⟩⟩:=hcut
     cases kq with
     | zero=>exact absurd HA.out (by simp[spec_FloatBits.j1])
     | succ kj6 =>
      have H:=HA.out;clear HA;simp only[spec_FloatBits.j1]at H;by_cases c9:(feq x4_6 0)=true
      ·rw[if_pos c9]at H;have c9b0:(feq x4_6 0)=true:=c9;clear c9;obtain rfl:=Option.some.inj H;(go_wp2);(go_ret);exact⟨by first|rfl|(simp;done)|(simp[*];done),Z29⟩
      ·rw[if_neg c9]at H;(have c9b0:(feq x4_6 0)=false:=by simpa using c9);clear c9;by_cases c10:(fgt x4_6 9218868437227405311)=true
       ·rw[if_pos c10]at H;have c10b0:(fgt x4_6 9218868437227405311)=true:=c10;clear c10;obtain rfl:=Option.some.inj H;(go_wp2);(go_ret);exact⟨by first|rfl|(simp;done)|(simp[*];done),Z29⟩
       ·rw[if_neg c10]at H;(have c10b0:(fgt x4_6 9218868437227405311)=false:=by simpa using c10);clear c10;have H':=ZA H;clear H;(go_wp2);(go_loopg [4,5] kj6 (fun kq v4 v5 w'=>∃(x4_3:Nat) (x5_3:Int),v4 = .float .f64 x4_3∧v5 = .int .i64 x5_3∧Aside0 (spec_FloatBits.l0 kq x3_6 x4_3 x5_3=some r)∧Aside0 (kq≤kj6)∧Drawn0 w w'));case atStart=>exact⟨(x4_6),(0),Z7,Z7,H',⟨Nat.le_refl _⟩,Z29⟩
        case round =>
         clear H';(try clear c1);(try clear c2);(try clear c2b0);(try clear p2);(try clear c4);(try clear c4b0);(try clear c5);(try clear c5b0);(try clear c6);(try clear c6b0);(try clear c7);(try clear c8);(try clear c9);(try clear c9b0);(try clear c10);(try clear c10b0);try clear p2
         obtain⟨x4_3,x5_3,rfl,rfl,HA,HK3,⟨m3,rfl⟩⟩:=hrel
         cases gk with
         | zero=>exact absurd HA.out (by simp[spec_FloatBits.l0])
         | succ k3 =>
          have H:=HA.out;clear HA;simp only[spec_FloatBits.l0]at H;by_cases c11:(fge x4_3 4611686018427387904)=true
          ·rw[if_pos c11]at H;have c11b0:(fge x4_3 4611686018427387904)=true:=c11;clear c11;by_cases c12:(fok .quo x4_3 4611686018427387904)=true
           ·rw[if_pos c12]at H;have c12b0:(fok .quo x4_3 4611686018427387904)=true:=c12;clear c12;have H':=ZA H;clear H;(go_wp2);(go_roundg k3);(case measure=>have:=HJ2.out;have:=HJ6.out;have:=HK3.out;omega);case rel=>exact⟨(fval .quo x4_3 4611686018427387904),(wrap64 (x5_3+1)),Z7,Z7,H',⟨by have:=HJ2.out;have:=HJ6.out;have:=HK3.out;omega⟩,Z29⟩
           ·rw[if_neg c12]at H;exact absurd H Z45
          ·rw[if_neg c11]at H;(have c11b0:(fge x4_3 4611686018427387904)=false:=by simpa using c11);clear c11;have H':=ZA H;clear H;(go_wp2);(go_loopg [4,5] k3 (fun kq v4 v5 w'=>∃(x4_4:Nat) (x5_4:Int),v4 = .float .f64 x4_4∧v5 = .int .i64 x5_4∧Aside0 (spec_FloatBits.l1 kq x3_6 x4_4 x5_4=some r)∧Aside0 (kq≤k3)∧Drawn0 w w'));case atStart=>exact⟨(x4_3),(x5_3),Z7,Z7,H',⟨Nat.le_refl _⟩,Z29⟩
           case round =>
            clear H';(try clear c1);(try clear c2);(try clear c2b0);(try clear p2);(try clear c4);(try clear c4b0);(try clear c5);(try clear c5b0);(try clear c6);(try clear c6b0);(try clear p6);(try clear c7);(try clear c8);(try clear c9);(try clear c9b0);(try clear c10);(try clear c10b0);(try clear c11);(try clear c11b0);(try clear c12);(try clear c12b0);try clear p2
            obtain⟨x4_4,x5_4,rfl,rfl,HA,HK4,⟨m4,rfl⟩⟩:=hrel
            cases gk with
            | zero=>exact absurd HA.out (by simp[spec_FloatBits.l1])
            | succ k4 =>
             have H:=HA.out;clear HA;simp only[spec_FloatBits.l1]at H;by_cases c13:(fls x4_4 4607182418800017408)=true
             ·rw[if_pos c13]at H;have c13b0:(fls x4_4 4607182418800017408)=true:=c13;clear c13;by_cases c14:x5_4 > (-1022)
              ·rw[if_pos c14]at H;have c14b0:=decide_eq_true c14;clear c14;by_cases c15:(fok .mul x4_4 4611686018427387904)=true
               ·rw[if_pos c15]at H;have c15b0:(fok .mul x4_4 4611686018427387904)=true:=c15;clear c15;have H':=ZA H;clear H;(go_wp2);(go_roundg k4);(case measure=>have:=HJ2.out;have:=HJ6.out;have:=HK3.out;have:=HK4.out;omega);case rel=>exact⟨(fval .mul x4_4 4611686018427387904),(wrap64 (x5_4 - 1)),Z7,Z7,H',⟨by have:=HJ2.out;have:=HJ6.out;have:=HK3.out;have:=HK4.out;omega⟩,Z29⟩
               ·rw[if_neg c15]at H;exact absurd H Z45
              ·rw[if_neg c14]at H;have c14b0:=decide_eq_false c14;clear c14;by_cases c16:(fok .mul x4_4 4841369599423283200)=true
               ·rw[if_pos c16]at H;have c16b0:(fok .mul x4_4 4841369599423283200)=true:=c16;clear c16;by_cases c17:(fiok .u64 (fval .mul x4_4 4841369599423283200))=true
                ·rw[if_pos c17]at H;have c17b0:(fiok .u64 (fval .mul x4_4 4841369599423283200))=true:=c17;clear c17;obtain rfl:=Option.some.inj H;(go_wp2);(go_ret);exact⟨by first|rfl|(simp;done)|(simp[*];done),Z29⟩
                ·rw[if_neg c17]at H;exact absurd H Z45
               ·rw[if_neg c16]at H;exact absurd H Z45
             ·rw[if_neg c13]at H;(have c13b0:(fls x4_4 4607182418800017408)=false:=by simpa using c13);clear c13;by_cases c18:(fok .sub x4_4 4607182418800017408)=true
              ·rw[if_pos c18]at H;have c18b0:(fok .sub x4_4 4607182418800017408)=true:=c18;clear c18;by_cases c19:(fok .mul (fval .sub x4_4 4607182418800017408) 4841369599423283200)=true
               ·rw[if_pos c19]at H;have c19b0:(fok .mul (fval .sub x4_4 4607182418800017408) 4841369599423283200)=true:=c19;clear c19;by_cases c20:(fiok .u64 (fval .mul (fval .sub x4_4 4607182418800017408) 4841369599423283200))=true
                ·rw[if_pos c20]at H;have c20b0:(fiok .u64 (fval .mul (fval .sub x4_4 4607182418800017408) 4841369599423283200))=true:=c20;clear c20;obtain rfl:=Option.some.inj H;(go_wp2);(go_ret);exact⟨by first|rfl|(simp;done)|(simp[*];done),Z29⟩
                ·rw[if_neg c20]at H;exact absurd H Z45
               ·rw[if_neg c19]at H;exact absurd H Z45
              ·rw[if_neg c18]at H;exact absurd H Z45
 ·rw[if_neg c2]at H;(have c2b0:(feq a0 a0)=false:=by simpa using c2);clear c2;obtain rfl:=Option.some.inj H;(go_enter Try.func78,Try.ntmps78);(go_wp2);(go_ret);exact⟨by first|rfl|(simp;done)|(simp[*];done),Z29⟩
theorem spec_FloatBits.inv0(k:Nat)(a0:Nat):spec_FloatBits.f k (cn a0)=spec_FloatBits.f k a0:=by
  by_cases h_:nanw a0
  · unfold spec_FloatBits.f
    first
      | (simp only[cn_zeroI,cn_zero,feq_cn_l,feq_cn_r,fls_cn_l,fls_cn_r,fgt_cn_l,fgt_cn_r,fle_cn_l,fle_cn_r,fge_cn_l,fge_cn_r];done)
      | (simp only[cn_zeroI,cn_zero,feq_cn_l,feq_cn_r,fls_cn_l,fls_cn_r,fgt_cn_l,fgt_cn_r,fle_cn_l,fle_cn_r,fge_cn_l,fge_cn_r,feq_nan_l h_,feq_nan_l (cn_nanw h_),Bool.false_eq_true,if_false];done)
      | (simp[feq_nan_l h_,feq_nan_l (cn_nanw h_)];done)
  · rw[cn_num h_]
end Go.Proofs.Ytokpniagnbaflaa.PFnPages

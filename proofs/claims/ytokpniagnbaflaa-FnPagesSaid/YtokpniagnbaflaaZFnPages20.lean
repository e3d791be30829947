/-
A range over a function in a function that is told by the plain walk: a round's region is walked by the plain rules; a body's end behind the loop's mark; the iterator of slices.Chunk over four chunks.
-/
import Derived.RangeFuncNested
import Derived.RangeFuncBound
import Derived.RangeFuncCalls
import Derived.RangeFuncLeaves
import Derived.Shelf.Abstract
import Derived.WalkKit
import Derived.OwnWalkIn
import Derived.TacticsInMore
import Derived.LoopNIn
import Derived.LoopIn
import Derived.Test.YtokpniagnbaflaaZFnPages14
import Derived.Test.YtokpniagnbaflaaProg
set_option linter.unusedVariables false
namespace Go
variable{P:Program}{Q:Exit → Act → World → Prop}
def Op.undeferred:Op→Bool
  | .defer _=>false
  | _=>true
theorem rowsIn_of_rows{l n:Nat}{row:String}{args:Array Value}{w:World}{R:Value→World→Prop}(h:Rows P row args w R):RowsIn (Fence.wide.inRound l) n P row args w R :=
  fun c cs _=>let ⟨v,w',r,s⟩:=h c cs;⟨v,w',r,stepsIn_wide.2 s⟩
theorem Oper.wpIn_round{l n:Nat}{o:Oper}{a:Act}{w:World}{next:Act→World→Prop}(hd:o.op.undeferred=true)(h:o.wp P a w next Q):o.wpIn (Fence.wide.inRound l) n P a w next Q:=by
  refine⟨fun _ _=>trivial,?_⟩
  rw[Oper.semAt_plain _ _ _ (fun c hc=>by rw[hc]at hd;cases hd)]
  unfold Oper.wp at h
  revert h
  generalize (execOp a.eval o).run P w=r
  intro h
  cases r with
  | ok x w' =>
    cases x <;> simp only[Oper.upon,Oper.uponIn]at h ⊢ <;> first
      | exact h
      | exact⟨fun hs=>by simp[Fence.wide]at hs,CallsIn.inRound l (callsIn_wide.2 h)⟩
      | exact⟨fun hs=>by simp[Fence.wide]at hs,rowsIn_of_rows h⟩
      | exact h.elim
  | halt x w'=>cases x <;> simp only[Oper.upon,Oper.uponIn]at h ⊢ <;> first|exact h|exact h.elim
theorem wpOpIn_round{l n:Nat}{ops:Array Oper}{i:Nat}{K K':Act→World→Prop}{a:Act}{w:World}(hnl:¬LetsOut Q)(hnd:ops.all (fun o=>o.op.undeferred)=true)
    (h:wpOp P ops Q i K a w) (hK:∀a w,K a w→K' a w):wpOpIn (Fence.wide.inRound l) n P ops Q i K' a w:=by
  unfold wpOp at h
  unfold wpOpIn
  split at h
  · rename_i hi
    rw[hi]
    exact hK _ _ h
  · rename_i o ho
    rw[ho]
    have hdo:o.op.undeferred=true:=by
      obtain⟨hlt,he⟩:=Array.getElem?_eq_some_iff.1 ho
      rw[Array.all_eq_true]at hnd
      have:=hnd i hlt
      rw[he]at this
      exact this
    dsimp only at h ⊢
    split
    · rename_i hw
      rw[if_pos hw]at h
      rcases h with h | ⟨_,h⟩
      · exact Oper.wpIn_mono hK (Oper.wpIn_round hdo h)
      · exact absurd h hnl
    · rename_i hw
      rw[if_neg hw]at h
      exact⟨fun _ _=>trivial,hK _ _ h⟩
theorem wpAnyIn_round{l n:Nat}{md:Region.Mode}{ops:Array Oper}(hnl:¬LetsOut Q)(hnd:ops.all (fun o=>o.op.undeferred)=true) :
    ∀(fuel:Nat) (listed:Array Bool) (a:Act) (w:World),wpAny P md ops Q fuel listed a w→wpAnyIn (Fence.wide.inRound l) n P md ops Q fuel listed a w
  | 0,_,_,_,h=>h
  | fuel+1,listed,a,w,h=>⟨h.1,fun i hi=>wpOpIn_round hnl hnd (h.2 i hi) (fun a w=>wpAnyIn_round hnl hnd fuel _ a w)⟩
end Go
namespace Go.Proofs.YtokpniagnbaflaaW.PrintWords
open Go.RowKit Go.Shelf Go.Proofs.YtokpniagnbaflaaW.PrintLast
section
variable{P:Program}{ops:Array Oper}{Q:Exit → Act → World → Prop}{S:World → Prop}{ds:List Nat}
theorem start_R{l₀ m id n:Nat}{a:Act}{w:World}(l:Array Bool)(hm:P.follows .mixedOrders=true)(hnl:¬LetsOut Q)(hnd:ops.all (fun o=>o.op.undeferred)=true)(hn:ops.size=n)(hl:Array.replicate n false=l)(hS:S w.drew)
    (h:S w.drew→wpAnyLast P .any ops Q S ds n l a w.drew):(Code.region id ops true).wpIn (Fence.wide.inRound l₀) m P Q a w:=by
  subst hn
  subst hl
  exact wpIn_region_any hm (wpAnyIn_round hnl hnd _ _ _ _ (wpAny_of_last _ _ _ _ (h hS)))
theorem calls_of_wp_marks{f:FuncId}{fn:Func}{c:Code}{args:Array Value}{w:World}{R:Ending→World→Prop}
    (hf:P.funcs[f]? = some fn) (hb:fn.body=some c)
    (h:c.wp P (bodyPostM Fence.wide 5 P fn R) { tmps:=args++Array.replicate (fn.ntmps - args.size) undef,defers:=[] } w):Calls P f args w R :=
  (callsIn_wide (n:=5)).1 (callsIn_of_wp_marks hf hb trivial (wpIn_wide.2 h) rfl)
theorem bodyPostM_ret{fn:Func}{R:Ending→World→Prop}{a:Act}{w:World}{v:Value}(hr:(results fn a.tmps).run P w = .ok v w)(hd:a.defers = [])(h:R (.returned v) w) :
    bodyPostM Fence.wide 5 P fn R .ret a w:=by
  show LeavesInM Fence.wide 5 P fn a.tmps R a.defers .returning w
  rw[hd]
  exact⟨v,hr,h⟩
end
end Go.Proofs.YtokpniagnbaflaaW.PrintWords
namespace Go.Proofs.YtokpniagnbaflaaW.PrintWords
open Go.RowKit Go.Shelf Go.Proofs.YtokpniagnbaflaaW.PrintLast
attribute [local go_sem] Oper.semAt_some
def KeepI(n₁ g:Nat)(W W':World):Prop:=W.heap.size≤W'.heap.size∧∀i,i<n₁→i≠g→W'.heap[i]? = W.heap[i]?
theorem KeepI.refl(n₁ g:Nat)(W:World):KeepI n₁ g W W:=⟨Nat.le_refl _,fun _ _ _=>rfl⟩
theorem KeepI.trans{n₁ g:Nat}{A B C:World}(h:KeepI n₁ g A B)(k:KeepI n₁ g B C):KeepI n₁ g A C:=⟨Nat.le_trans h.1 k.1,fun i h1 h2=>(k.2 i h1 h2).trans (h.2 i h1 h2)⟩
theorem KeepI.below{n₁ g:Nat}{A B:World}(h:Below n₁ A B):KeepI n₁ g A B:=⟨h.size,fun i h1 _=>h.block i h1⟩
theorem KeepI.put{n₁ g:Nat}{w:World}(hn:n₁≤w.heap.size)(W:World)(l:Nat)(o o':Obj)(hl:w.heap.size≤l)(h:W.heap[l]? = some o)(_:o.isCells=false)(_:o.isWalk=false):KeepI n₁ g W (W.putObj l o') :=
  KeepI.below (belowK_b hn W l o o' hl h ‹_› ‹_›)
def fours:List (Fin 4):=[0,1,2,3]
theorem cell_of_block{W:World}{g t:Nat}{v:Value}(h:W.heap[g]? = some (.cells #[v] t (0,0))):W.cell? ⟨g,0,none⟩=some v:=(blk_cell h 0).trans rfl
set_option maxRecDepth 100000 in
set_option maxHeartbeats 4000000 in
theorem chunk60_stops(n:Nat)(hn:1≤n)(bs bn gb b off cap:Nat)(hcap:240≤cap)(w1:World)
    (hbs:w1.heap[bs]? = some (.cells #[.slice (some ⟨b,off,none⟩) 240 cap] 36 (0,0))) (hbn:w1.heap[bn]? = some (.cells #[.int .i64 60] 3 (0,0))) (hs:bs≠gb) (hn2:bn≠gb) :
    SeqStopsK Fence.wide n Try.prog 66 #[.pointer (some ⟨bs,0,none⟩), .pointer (some ⟨bn,0,none⟩)] (fun x:Fin 4=>#[.slice (some ⟨b,off+60*x.1,none⟩) 60 60]) (KeepI w1.heap.size gb) (fun ys=>ys=fours) (fun _=>True) 4 w1:=fun l J Jx W hW hJ _ hY h0=>by
  have hls:bs<w1.heap.size:=blk_lt hbs
  have hln:bn<w1.heap.size:=blk_lt hbn
  have hbsW:=(hW.block bs hls).trans hbs
  have hbnW:=(hW.block bn hln).trans hbn
  refine callsIn_of_wp Try.func66 rfl trivial ?_ rfl
  simp only[Try.ntmps66,List.size_toArray,List.length_cons,List.length_nil,Nat.reduceAdd,Nat.reduceSub,Array.replicate_succ,Array.replicate_zero,List.push_toArray,List.append_toArray,List.nil_append,List.cons_append]
  gi_wp2
  gi_loopw [4] (fun i wr=>∃k:Nat,k≤4∧i = .int .i64 ((60*k:Nat):Int)∧J (fours.take k) wr∧KeepI w1.heap.size gb W wr) (fun i _=>240 - (intOf i).toNat)
  case atStart=>exact⟨0,Nat.zero_le _,rfl,h0,KeepI.refl _ _ _⟩
  case round =>
    obtain⟨k,hk,rfl,hJs,hnx⟩:=hrel
    have hcs:=cell_of_block ((hnx.2 bs hls hs).trans hbsW)
    have hcn:=cell_of_block ((hnx.2 bn hln hn2).trans hbnW)
    by_cases hlt:k<4
    · have hJd:J (fours.take k) wr.drew:=hJ _ wr wr.drew none hJs ⟨rfl,rfl,rfl,Nat.le_refl _,fun _ _ _=>rfl⟩ (fun _ e=>by cases e)
      obtain⟨fn,tmps,assign,body,hy,hR⟩:=hY _ ⟨k,hlt⟩ wr.drew hJd (by simp[fours];omega)
      dsimp only at hy
      have hx:k=0∨k=1∨k=2∨k=3:=by omega
      rcases hx with rfl|rfl|rfl|rfl
      all_goals
        simp only[Nat.mul_zero,Nat.add_zero,Nat.mul_one,Nat.reduceMul,Int.cast_ofNat_Int]at hy ⊢
        gi_wp2
        gi_region
        gi_wp2
        refine hR.mono ?_
        rintro e W3 (⟨rfl,hJ3,hk3⟩ | ⟨rfl,hJx3⟩)
        · have hkd:KeepI w1.heap.size gb W W3:=hnx.trans hk3
          have hcn3:=cell_of_block ((hkd.2 bn hln hn2).trans hbnW)
          gi_wp2
          go_roundw
          case rel=>first|exact⟨1,by omega,by first|rfl|simp,by first|exact hJ3|simpa [fours] using hJ3,hkd⟩|exact⟨2,by omega,by first|rfl|simp,by first|exact hJ3|simpa [fours] using hJ3,hkd⟩|exact⟨3,by omega,by first|rfl|simp,by first|exact hJ3|simpa [fours] using hJ3,hkd⟩|exact⟨4,by omega,by first|rfl|simp,by first|exact hJ3|simpa [fours] using hJ3,hkd⟩
          case measure=>simp[intOf]
        · gi_wp2
          refine bodyPost_ret (results_none rfl _ _ _) rfl ?_
          exact⟨⟨_,rfl⟩, .inr ⟨_,trivial,hJx3⟩⟩
    · obtain rfl:k=4:=by omega
      gi_wp2
      go_end0
      exact⟨⟨_,rfl⟩, .inl ⟨_,rfl,hJs⟩⟩
set_option maxRecDepth 100000 in
set_option maxHeartbeats 4000000 in
theorem chunk64_stops(n:Nat)(hn:1≤n)(bs bn gb:Nat)(ad:Addr)(cap:Nat)(hcap:256≤cap)(w1:World)
    (hbs:w1.heap[bs]? = some (.cells #[.slice (some ad) 256 cap] 36 (0,0))) (hbn:w1.heap[bn]? = some (.cells #[.int .i64 64] 3 (0,0))) (hs:bs≠gb) (hn2:bn≠gb) :
    SeqStopsK Fence.wide n Try.prog 66 #[.pointer (some ⟨bs,0,none⟩), .pointer (some ⟨bn,0,none⟩)] (fun x:Fin 4=>#[.slice (some (ad.add (64*x.1))) 64 64]) (KeepI w1.heap.size gb) (fun ys=>ys=fours) (fun _=>True) 4 w1:=fun l J Jx W hW hJ _ hY h0=>by
  have hls:bs<w1.heap.size:=blk_lt hbs
  have hln:bn<w1.heap.size:=blk_lt hbn
  have hbsW:=(hW.block bs hls).trans hbs
  have hbnW:=(hW.block bn hln).trans hbn
  refine callsIn_of_wp Try.func66 rfl trivial ?_ rfl
  simp only[Try.ntmps66,List.size_toArray,List.length_cons,List.length_nil,Nat.reduceAdd,Nat.reduceSub,Array.replicate_succ,Array.replicate_zero,List.push_toArray,List.append_toArray,List.nil_append,List.cons_append]
  gi_wp2
  gi_loopw [4] (fun i wr=>∃k:Nat,k≤4∧i = .int .i64 ((64*k:Nat):Int)∧J (fours.take k) wr∧KeepI w1.heap.size gb W wr) (fun i _=>256 - (intOf i).toNat)
  case atStart=>exact⟨0,Nat.zero_le _,rfl,h0,KeepI.refl _ _ _⟩
  case round =>
    obtain⟨k,hk,rfl,hJs,hnx⟩:=hrel
    have hcs:=cell_of_block ((hnx.2 bs hls hs).trans hbsW)
    have hcn:=cell_of_block ((hnx.2 bn hln hn2).trans hbnW)
    by_cases hlt:k<4
    · have hJd:J (fours.take k) wr.drew:=hJ _ wr wr.drew none hJs ⟨rfl,rfl,rfl,Nat.le_refl _,fun _ _ _=>rfl⟩ (fun _ e=>by cases e)
      obtain⟨fn,tmps,assign,body,hy,hR⟩:=hY _ ⟨k,hlt⟩ wr.drew hJd (by simp[fours];omega)
      dsimp only at hy
      have hx:k=0∨k=1∨k=2∨k=3:=by omega
      rcases hx with rfl|rfl|rfl|rfl
      all_goals
        simp only[Nat.mul_zero,Nat.mul_one,Nat.reduceMul,Int.cast_ofNat_Int,Addr.add,Nat.reduceEqDiff,↓reduceIte]at hy ⊢
        gi_wp2
        gi_region
        gi_wp2
        refine hR.mono ?_
        rintro e W3 (⟨rfl,hJ3,hk3⟩ | ⟨rfl,hJx3⟩)
        · have hkd:KeepI w1.heap.size gb W W3:=hnx.trans hk3
          have hcn3:=cell_of_block ((hkd.2 bn hln hn2).trans hbnW)
          gi_wp2
          go_roundw
          case rel=>first|exact⟨1,by omega,by first|rfl|simp,by first|exact hJ3|simpa [fours] using hJ3,hkd⟩|exact⟨2,by omega,by first|rfl|simp,by first|exact hJ3|simpa [fours] using hJ3,hkd⟩|exact⟨3,by omega,by first|rfl|simp,by first|exact hJ3|simpa [fours] using hJ3,hkd⟩|exact⟨4,by omega,by first|rfl|simp,by first|exact hJ3|simpa [fours] using hJ3,hkd⟩
          case measure=>simp[intOf]
        · gi_wp2
          refine bodyPost_ret (results_none rfl _ _ _) rfl ?_
          exact⟨⟨_,rfl⟩, .inr ⟨_,trivial,hJx3⟩⟩
    · obtain rfl:k=4:=by omega
      gi_wp2
      go_end0
      exact⟨⟨_,rfl⟩, .inl ⟨_,rfl,hJs⟩⟩
set_option maxHeartbeats 2000000 in
theorem chunk_calls(A:Option Addr)(n c:Nat)(m:Int)(hm:1≤m)(w:World) :
    Calls Try.prog 51 #[.slice A n c, .int .i64 m] w fun e w'=>∃bs bn,e = .returned (.func (.func 66) #[] #[.pointer (some ⟨bs,0,none⟩), .pointer (some ⟨bn,0,none⟩)]) ∧
      w'.heap[bs]? = some (.cells #[.slice A n c] 36 (0,0))∧w'.heap[bn]? = some (.cells #[.int .i64 m] 3 (0,0))∧w.heap.size≤bs∧w.heap.size≤bn∧Below w.heap.size w w':=by
  go_enter Try.func51,Try.ntmps51
  go_wp2
  go_ret
  refine⟨_,_,rfl,?_,?_,?_,?_,below_alloc (below_alloc (Below.refl _ _) _) _⟩
  · exact blk_alloc (World.alloc_heap_new _ _) _
  · have:=World.alloc_heap_new (w.alloc (.cells #[.slice A n c] 36)) (.cells #[.int .i64 m] 3)
    simpa using this
  · exact Nat.le_refl _
  · simp
def parts(m:Nat)(h b:List Int)(xs:List (Fin 4)):List Int:=xs.flatMap fun x=>h++(b.drop (m*x.1)).take m
theorem parts_snoc(m:Nat)(h b:List Int)(xs:List (Fin 4))(x:Fin 4):parts m h b (xs ++ [x])=(parts m h b xs++h)++(b.drop (m*x.1)).take m:=by simp[parts,List.append_assoc]
theorem parts_len(m:Nat)(h b:List Int)(xs:List (Fin 4)):(parts m h b xs).length≤xs.length*(h.length+m):=by
  induction xs with
  | nil=>simp[parts]
  | cons x xs ih =>
    have h1:parts m h b (x :: xs)=(h++(b.drop (m*x.1)).take m)++parts m h b xs:=by simp[parts]
    rw[h1,List.length_append,List.length_append,List.length_take,List.length_cons,Nat.succ_mul]
    have h2:min m (b.drop (m*x.1)).length≤m:=Nat.min_le_left _ _
    omega
theorem box_own{β:Type}{n₁ g t e:Nat}(hg:g<n₁)(f:β→List Int):OwnFrom n₁ (fun (s:β) X=>∃v,X.heap[g]? = some (.cells #[v] t (0,0))∧Kd.R (Kd.int .u8) e X n₁ (fun _=>True) v (f s)):=by
  rintro s A B row ⟨v,hb,hR⟩ hgr hr
  refine⟨v,(hgr.block g (blk_lt hb) (fun h=>?_)).trans hb,?_⟩
  · have:=(hr g h.symm).1
    omega
  · refine Kd.R_mono (Kd.R_step (Kd.R_bound hR) (fun k hk hlt=>hgr.block k hlt (fun h=>?_))) (fun _ _=>trivial)
    obtain⟨_,o,ho,hc⟩:=hr k h.symm
    obtain⟨_,_,_,q,_,cells,hk'⟩:=hk
    rw[hk']at ho
    cases ho
    cases hc
theorem bodyPostM_mark{P:Program}{fn:Func}{R:Ending→World→Prop}{a:Act}{w:World}{v:Value}{D:Nat}{xs:Array Value}(hd:a.defers = [{ target := .collected D,args:=xs }])(hD:w.heap[D]? = some (.deferred (some [])))
    (hr:(results fn a.tmps).run P (w.putObj D (.deferred none)) = .ok v (w.putObj D (.deferred none))) (h:R (.returned v) (w.putObj D (.deferred none))):bodyPostM Fence.wide 5 P fn R .ret a w:=by
  show LeavesInM Fence.wide 5 P fn a.tmps R a.defers .returning w
  rw[hd]
  exact⟨by simp, .inl ⟨_,_,rfl,run_takeDeferred hD,v,hr,h⟩⟩
theorem row_put{e n₁ D:Nat}{X:World}{v:Value}{xs:List Int}{o:Obj}(hR:Kd.R (Kd.int .u8) e X n₁ (fun _=>True) v xs)(hD:X.heap[D]? = some o)(ho:o.isCells=false)(o':Obj):Kd.R (Kd.int .u8) e (X.putObj D o') n₁ (fun _=>True) v xs:=by
  refine Kd.R_mono (Kd.R_step (Kd.R_bound hR) (fun k hk hlt=>(grownBy_putObj' X D o').block k hlt (fun h=>?_))) (fun _ _=>trivial)
  cases h
  obtain⟨_,_,_,q,_,cells,hk'⟩:=hk
  rw[hk']at hD
  cases hD
  cases ho
theorem keepsOthers_below{n:Nat}{W W':World}(h:Below n W W')(hn:W.heap.size≤n):KeepsOthers W W' :=
  ⟨h.size,fun k o hk _=>(h.block k (Nat.lt_of_lt_of_le (Array.getElem?_eq_some_iff.1 hk).1 hn)).trans hk⟩
theorem keepsOthers_row{e n₁:Nat}{ok:Nat→Prop}{X X':World}{v:Value}{xs:List Int}(hR:Kd.R (Kd.int .u8) e X n₁ ok v xs)(hg:X.grownBy X' v.ownBlock):KeepsOthers X X' :=
  KeepsOthers.of_grownBy hg fun j o hj ho=>by
    obtain⟨cells,hc⟩:=Kd.R_typed hR j hj
    rw[hc]at ho
    cases ho
    rfl
def cut4(b:List Int)(xs:List (Fin 4)):List Int:=xs.flatMap fun x=>((b.drop (64*x.1)).take 64).drop 4
def body64(b:List Int):List Int:=cut4 b fours
theorem cut4_snoc(b:List Int)(xs:List (Fin 4))(x:Fin 4):cut4 b (xs ++ [x])=cut4 b xs++((b.drop (64*x.1)).take 64).drop 4:=by simp[cut4]
theorem cut4_len(b:List Int)(xs:List (Fin 4)):(cut4 b xs).length≤xs.length*60:=by
  induction xs with
  | nil=>simp[cut4]
  | cons x xs ih =>
    have h1:cut4 b (x :: xs)=((b.drop (64*x.1)).take 64).drop 4++cut4 b xs:=by simp[cut4]
    have h2:min 64 (b.drop (64*x.1)).length≤64:=Nat.min_le_left _ _
    rw[h1,List.length_append,List.length_drop,List.length_take,List.length_cons,Nat.succ_mul]
    omega
theorem keepI_own{β:Type}{n₁ g:Nat}{w:World}(hn:n₁≤w.heap.size):OwnFrom n₁ (fun (_:β) X=>KeepI n₁ g w X):=by
  intro s A B row hs hgr hr
  refine⟨Nat.le_trans hs.1 hgr.size,fun i h1 h2=>?_⟩
  have h3:=hs.2 i h1 h2
  rw[← h3]
  have hlt:i<A.heap.size:=Nat.lt_of_lt_of_le (Nat.lt_of_lt_of_le h1 hn) hs.1
  exact hgr.block i hlt (fun h=>by have:=(hr i h.symm).1;omega)
theorem S_ne_mark{α:Type}{d:Kd α}{e base:Nat}{w:World}{ok:Nat→Prop}{v:Value}{xs:List α}{D:Nat}{o:Obj}(h:Kd.S d e w base ok v xs)(hD:w.heap[D]? = some o)(ho:o.isCells=false):some D≠v.ownBlock:=fun he=>by
  obtain⟨cells,hc⟩:=Kd.S_typed h D he.symm
  rw[hc]at hD
  cases hD
  cases ho
theorem S_put{α:Type}{d:Kd α}{e base:Nat}{X:World}{ok:Nat→Prop}{v:Value}{xs:List α}{D:Nat}{o:Obj}(hR:Kd.S d e X base ok v xs)(hD:X.heap[D]? = some o)(ho:o.isCells=false)(o':Obj):Kd.S d e (X.putObj D o') base ok v xs:=by
  refine Kd.S_mono (Kd.S_step (Kd.S_bound hR) (fun k hk hlt=>(grownBy_putObj' X D o').block k hlt (fun h=>?_))) (fun _ hk=>hk.1)
  cases h
  obtain⟨_,_,_,q,_,cells,hk'⟩:=hk
  rw[hk']at hD
  cases hD
  cases ho
theorem blk_putObj{X:World}{g D:Nat}{o o':Obj}(h:X.heap[g]? = some o)(hne:g≠D):(X.putObj D o').heap[g]? = some o:=(World.putObj_heap_other hne).trans h
theorem below_put{n:Nat}{w X:World}{D:Nat}{o:Obj}(h:Below n w X)(hD:X.heap[D]? = some o)(hn:n≤D)(o':Obj):Below n w (X.putObj D o'):=by
  refine h.grown (grownBy_putObj' X D o') ?_ (fun k e=>by cases e;exact hn)
  have:=(Array.getElem?_eq_some_iff.1 hD).1
  omega
def bodyPostQ(P:Program)(fn:Func)(R:Ending→World→Prop):Exit→Act→World→Prop
  | .panic _,_,_=>False
  | .normal,a,w=>bodyPostM Fence.wide 5 P fn R .normal a w
  | .ret,a,w=>bodyPostM Fence.wide 5 P fn R .ret a w
  | .outgrown,_,w=>R .outgrown w
  | _,_,_=>False
theorem calls_of_wp_marksQ{P:Program}{f:FuncId}{fn:Func}{c:Code}{args:Array Value}{w:World}{R:Ending→World→Prop}
    (hf:P.funcs[f]? = some fn) (hb:fn.body=some c)
    (h:c.wp P (bodyPostQ P fn R) { tmps:=args++Array.replicate (fn.ntmps - args.size) undef,defers:=[] } w):Calls P f args w R :=
  calls_of_wp_marks hf hb (wp_mono h fun e a w hq=>by cases e <;> first|exact hq|exact hq.elim)
theorem bodyPostQ_ret{P:Program}{fn:Func}{R:Ending→World→Prop}{a:Act}{w:World}{v:Value}(hr:(results fn a.tmps).run P w = .ok v w)(hd:a.defers = [])(h:R (.returned v) w) :
    bodyPostQ P fn R .ret a w:=bodyPostM_ret hr hd h
theorem bodyPostQ_mark{P:Program}{fn:Func}{R:Ending→World→Prop}{a:Act}{w:World}{v:Value}{D:Nat}{xs:Array Value}(hd:a.defers = [{ target := .collected D,args:=xs }])(hD:w.heap[D]? = some (.deferred (some [])))
    (hr:(results fn a.tmps).run P (w.putObj D (.deferred none)) = .ok v (w.putObj D (.deferred none))) (h:R (.returned v) (w.putObj D (.deferred none))):bodyPostQ P fn R .ret a w:=bodyPostM_mark hd hD hr h
theorem blk_farO{W:World}{g:Nat}{o:Obj}(h:W.heap[g]? = some o){p:Addr}(hp:g≠p.block)(u:Value):(W.setCell p u).heap[g]? = some o:=(Below.heap_setCell W p u g hp).trans h
end Go.Proofs.YtokpniagnbaflaaW.PrintWords

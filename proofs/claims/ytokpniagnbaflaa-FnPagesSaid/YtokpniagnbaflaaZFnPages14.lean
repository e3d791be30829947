/-
Rows and boxes between marks of the heap: what is made in one step lies in an interval of blocks of its own, so what is written in one interval leaves the others as they were.
Conditions: each theorem names its own.
-/
import Derived.Test.YtokpniagnbaflaaZFnPages13
set_option linter.unusedVariables false
namespace Go.Proofs.YtokpniagnbaflaaW.PrintWords
open Go.RowKit
def iv(a b:Nat):Nat→Prop:=fun k=>a≤k∧k<b
theorem below_thenB{w W W':World}(h:Below w.heap.size w W)(b:Below w.heap.size W W'):Below w.heap.size w W' :=
  ⟨b.os.trans h.os,b.tape.trans h.tape,b.output.trans h.output,Nat.le_trans h.size b.size,fun k hk=>(b.block k hk).trans (h.block k hk)⟩
theorem size_set(W:World)(p:Addr)(u:Value):(W.setCell p u).heap.size=W.heap.size:=by simp[World.setCell]
namespace Kd
section
variable{α β:Type}{d:Kd α}{e:Nat}{w W W':World}{base lo hi p:Nat}{ok:Nat → Prop}{v:Value}{xs ys:List α}
theorem R_born(h:R d e W' W.heap.size ok v xs)(hw:base≤W.heap.size)(hp:p≤W.heap.size)(hs:W.heap.size≤W'.heap.size):∃lo hi,p≤lo∧lo≤hi∧hi≤W'.heap.size∧R d e W' base (iv lo hi) v xs :=
  ⟨W.heap.size,W'.heap.size,hp,hs,Nat.le_refl _,R_lower (R_mono (R_bound h) (fun k hk=>⟨hk.2.1,hk.2.2.1⟩)) hw⟩
theorem R_ivset(h:R d e W base (iv lo hi) v xs){g:Nat}(hg:g<lo∨hi≤g)(j:Nat)(u:Value):R d e (W.setCell ⟨g,j,none⟩ u) base (iv lo hi) v xs:=R_far (p:=⟨g,j,none⟩) h (fun k hk he=>by have h1:=hk.1;have h2:=hk.2;have h3:k=g:=he;omega) u
theorem FK_own{ok:Nat→Prop}(h:R d e W base ok v xs):FK (slice e d) W ok xs [v]:=by
  obtain⟨A,c,rfl⟩:=R_slice h
  exact FK_slice_mk (R_reads' h).2.1 (R_F h)
end
end Kd
end Go.Proofs.YtokpniagnbaflaaW.PrintWords

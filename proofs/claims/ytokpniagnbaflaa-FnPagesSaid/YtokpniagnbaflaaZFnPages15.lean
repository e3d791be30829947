/-
Short names for tactic lines that a printed walk says again and again.
Conditions: none; each stands for the lines that it names.
-/
import Derived.Test.YtokpniagnbaflaaZFnPages14
namespace Go.Proofs.YtokpniagnbaflaaW.PrintWords
open Go.RowKit
class inductive Up : World → World → Prop where
  | refl (W:World):Up W W
  | alloc {W W':World} (o:Obj) (h:Up W W'):Up W (W'.alloc o)
  | drew {W W':World} (h:Up W W'):Up W W'.drew
  | drewN {W W':World} (n:Nat) (h:Up W W'):Up W (W'.drewN n)
instance(W : World) : Up W W := Up.refl W
instance(W W' : World)(o : Obj)[h : Up W W'] : Up W (W'.alloc o) := Up.alloc o h
instance(W W' : World)[h : Up W W'] : Up W W'.drew := Up.drew h
instance(W W' : World)(n : Nat)[h : Up W W'] : Up W (W'.drewN n) := Up.drewN n h
theorem hup{w W W':World}(h:Below w.heap.size w W)[u:Up W W']:Below w.heap.size w W':=by
  induction u with
  | refl=>exact h
  | alloc o _ ih=>exact below_alloc ih _
  | drew _ ih=>exact below_drew1 ih
  | drewN n _ ih=>exact pw_below_drewN ih n
theorem bup{g:Nat}{o:Obj}{W W':World}(h:W.heap[g]? = some o)[u:Up W W']:W'.heap[g]? = some o:=by
  induction u with
  | refl=>exact h
  | alloc o _ ih=>exact blk_alloc ih _
  | drew _ ih=>exact blk_drew ih
  | drewN n _ ih=>exact blk_drewN ih _
theorem Kd.rup{α:Type}{d:Kd α}{e base:Nat}{ok:Nat→Prop}{v:Value}{xs:List α}{W W':World}(h:Kd.R d e W base ok v xs)[u:Up W W']:Kd.R d e W' base ok v xs:=by
  induction u with
  | refl=>exact h
  | alloc o _ ih=>exact Kd.R_alloc ih _
  | drew _ ih=>exact Kd.R_drew ih
  | drewN n _ ih=>exact Kd.R_drewN ih _
theorem blk_cells2{W:World}{g t:Nat}{v0 v1:Value}(h:W.heap[g]? = some (.cells #[v0,v1] t (0,0))):W.cell? ⟨g,0,none⟩=some v0∧W.cell? ⟨g,1,none⟩=some v1:=⟨(blk_cell h 0).trans rfl,(blk_cell h 1).trans rfl⟩
theorem blk_cells4{W:World}{g t:Nat}{v0 v1 v2 v3:Value}(h:W.heap[g]? = some (.cells #[v0,v1,v2,v3] t (0,0))):W.cell? ⟨g,0,none⟩=some v0∧W.cell? ⟨g,1,none⟩=some v1∧W.cell? ⟨g,2,none⟩=some v2∧W.cell? ⟨g,3,none⟩=some v3:=⟨(blk_cell h 0).trans rfl,(blk_cell h 1).trans rfl,(blk_cell h 2).trans rfl,(blk_cell h 3).trans rfl⟩
theorem blk_cells10{W:World}{g t:Nat}{v0 v1 v2 v3 v4 v5 v6 v7 v8 v9:Value}(h:W.heap[g]? = some (.cells #[v0,v1,v2,v3,v4,v5,v6,v7,v8,v9] t (0,0))):W.cell? ⟨g,0,none⟩=some v0∧W.cell? ⟨g,1,none⟩=some v1∧W.cell? ⟨g,2,none⟩=some v2∧W.cell? ⟨g,3,none⟩=some v3∧W.cell? ⟨g,4,none⟩=some v4∧W.cell? ⟨g,5,none⟩=some v5∧W.cell? ⟨g,6,none⟩=some v6∧W.cell? ⟨g,7,none⟩=some v7∧W.cell? ⟨g,8,none⟩=some v8∧W.cell? ⟨g,9,none⟩=some v9:=⟨(blk_cell h 0).trans rfl,(blk_cell h 1).trans rfl,(blk_cell h 2).trans rfl,(blk_cell h 3).trans rfl,(blk_cell h 4).trans rfl,(blk_cell h 5).trans rfl,(blk_cell h 6).trans rfl,(blk_cell h 7).trans rfl,(blk_cell h 8).trans rfl,(blk_cell h 9).trans rfl⟩
theorem blk_frozens2{W:World}{g t:Nat}{cs:Array Value}(h:W.heap[g]? = some (.cells cs t (0,0))):W.frozen? ⟨g,0,none⟩=false∧W.frozen? ⟨g,1,none⟩=false:=⟨blk_frozen h 0,blk_frozen h 1⟩
theorem blk_frozens4{W:World}{g t:Nat}{cs:Array Value}(h:W.heap[g]? = some (.cells cs t (0,0))):W.frozen? ⟨g,0,none⟩=false∧W.frozen? ⟨g,1,none⟩=false∧W.frozen? ⟨g,2,none⟩=false∧W.frozen? ⟨g,3,none⟩=false:=⟨blk_frozen h 0,blk_frozen h 1,blk_frozen h 2,blk_frozen h 3⟩
theorem blk_frozens10{W:World}{g t:Nat}{cs:Array Value}(h:W.heap[g]? = some (.cells cs t (0,0))):W.frozen? ⟨g,0,none⟩=false∧W.frozen? ⟨g,1,none⟩=false∧W.frozen? ⟨g,2,none⟩=false∧W.frozen? ⟨g,3,none⟩=false∧W.frozen? ⟨g,4,none⟩=false∧W.frozen? ⟨g,5,none⟩=false∧W.frozen? ⟨g,6,none⟩=false∧W.frozen? ⟨g,7,none⟩=false∧W.frozen? ⟨g,8,none⟩=false∧W.frozen? ⟨g,9,none⟩=false:=⟨blk_frozen h 0,blk_frozen h 1,blk_frozen h 2,blk_frozen h 3,blk_frozen h 4,blk_frozen h 5,blk_frozen h 6,blk_frozen h 7,blk_frozen h 8,blk_frozen h 9⟩
end Go.Proofs.YtokpniagnbaflaaW.PrintWords

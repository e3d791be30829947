/-
What stays of a block, a row and the old world behind stores, draws and new blocks, found by instances.
Conditions: none beyond those that each theorem names.
-/
import Derived.Test.YtokpniagnbaflaaZFnPages15
namespace Go.Proofs.YtokpniagnbaflaaW.PrintWords
open Go.RowKit
class Neq(a b : Nat) : Prop where
  out:a≠b
class Geq(a b : Nat) : Prop where
  out:a≤b
class Chg(g : Nat)(W W' : World)(f : outParam (List Value → List Value)) : Prop where
  go:∀ {t:TypeId} {l:List Value},W.heap[g]? = some (.cells l.toArray t (0,0))→W'.heap[g]? = some (.cells (f l).toArray t (0,0))
instance(g : Nat)(W : World) : Chg g W W (fun c => c) := ⟨fun h => h⟩
instance(g : Nat)(W W' : World)(o : Obj)(f : List Value → List Value)[c : Chg g W W' f] : Chg g W (W'.alloc o) f := ⟨fun h => blk_alloc (c.go h) _⟩
instance(g : Nat)(W W' : World)(f : List Value → List Value)[c : Chg g W W' f] : Chg g W W'.drew f := ⟨fun h => blk_drew (c.go h)⟩
instance(g : Nat)(W W' : World)(n : Nat)(f : List Value → List Value)[c : Chg g W W' f] : Chg g W (W'.drewN n) f := ⟨fun h => blk_drewN (c.go h) _⟩
instance(g j : Nat)(W W' : World)(u : Value)(f : List Value → List Value)[c : Chg g W W' f] : Chg g W (W'.setCell ⟨g, j, none⟩ u) (fun x => (f x).set j u) := ⟨fun h => blk_put (c.go h) j u (List.setIfInBounds_toArray _ _ _)⟩
instance(g g' j : Nat)(W W' : World)(u : Value)(f : List Value → List Value)[n : Neq g g'][c : Chg g W W' f] : Chg g W (W'.setCell ⟨g', j, none⟩ u) f := ⟨fun h => blk_far (c.go h) (p := ⟨g', j, none⟩) n.out u⟩
theorem bput{g:Nat}{t:TypeId}{l l':List Value}{W W':World}{f:List Value→List Value}(h:W.heap[g]? = some (.cells l.toArray t (0,0)))[c:Chg g W W' f](e:f l=l':=by rfl):W'.heap[g]? = some (.cells l'.toArray t (0,0)):=e ▸ c.go h
class Mem(g : Nat)(l : List Nat) : Prop where
  out:g∈l
instance(g : Nat)(l : List Nat) : Mem g (g :: l) := ⟨List.mem_cons_self⟩
instance(g x : Nat)(l : List Nat)[h : Mem g l] : Mem g (x :: l) := ⟨List.mem_cons_of_mem _ h.out⟩
class Touch(l : List Nat)(W W' : World) : Prop where
  go:∀k,k ∉ l→k<W.heap.size→W'.heap[k]? = W.heap[k]?
instance(l : List Nat)(W : World) : Touch l W W := ⟨fun _ _ _ => rfl⟩
instance(l : List Nat)(W W' : World)[c : Touch l W W'] : Touch l W W'.drew := ⟨fun k h b => c.go k h b⟩
instance(l : List Nat)(W W' : World)(n : Nat)[c : Touch l W W'] : Touch l W (W'.drewN n) := ⟨fun k h b => c.go k h b⟩
instance(l : List Nat)(W W' : World)(g j : Nat)(u : Value)[m : Mem g l][c : Touch l W W'] : Touch l W (W'.setCell ⟨g, j, none⟩ u) := ⟨fun k h b => (Below.heap_setCell W' ⟨g, j, none⟩ u k (fun e => h (by rw[show k = g from e]; exact m.out))).trans (c.go k h b)⟩
namespace Kd
variable{α:Type}{d:Kd α}{e base:Nat}{ok:Nat → Prop}{v:Value}{xs:List α}{W W':World}
theorem roff1{g t:Nat}{cells:Array Value}(h:R d e W base ok v xs)(hb:W.heap[g]? = some (.cells cells t (0,0)))(ht:∀q,q∈e :: d.E→q≠t)[c:Touch [g] W W']:R d e W' base ok v xs :=
  R_mono (R_step (R_types h hb ht) (fun k hk b=>c.go k (fun m=>by rcases List.mem_cons.1 m with m|m;exact hk.2 m;cases m) b)) (fun _ hk=>hk.1)
theorem roff2{g t g2 t2:Nat}{cells cells2:Array Value}(h:R d e W base ok v xs)(hb:W.heap[g]? = some (.cells cells t (0,0)))(ht:∀q,q∈e :: d.E→q≠t)(hb2:W.heap[g2]? = some (.cells cells2 t2 (0,0)))(ht2:∀q,q∈e :: d.E→q≠t2)[c:Touch [g,g2] W W']:R d e W' base ok v xs :=
  R_mono (R_step (R_types (R_types h hb ht) hb2 ht2) (fun k hk b=>c.go k (fun m=>by rcases List.mem_cons.1 m with m|m;exact hk.1.2 m;rcases List.mem_cons.1 m with m|m;exact hk.2 m;cases m) b)) (fun _ hk=>hk.1.1)
end Kd
class Over(w W W' : World) : Prop where
  go:Below w.heap.size w W→Below w.heap.size w W'
instance(w W : World) : Over w W W := ⟨fun h => h⟩
instance(w W W' : World)(o : Obj)[c : Over w W W'] : Over w W (W'.alloc o) := ⟨fun h => below_alloc (c.go h) _⟩
instance(w W W' : World)[c : Over w W W'] : Over w W W'.drew := ⟨fun h => below_drew1 (c.go h)⟩
instance(w W W' : World)(n : Nat)[c : Over w W W'] : Over w W (W'.drewN n) := ⟨fun h => pw_below_drewN (c.go h) n⟩
instance(w W W' : World)(g j : Nat)(u : Value)[q : Geq w.heap.size g][c : Over w W W'] : Over w W (W'.setCell ⟨g, j, none⟩ u) := ⟨fun h => below_set (c.go h) q.out⟩
theorem hset{w W W':World}(h:Below w.heap.size w W)[c:Over w W W']:Below w.heap.size w W':=c.go h
end Go.Proofs.YtokpniagnbaflaaW.PrintWords

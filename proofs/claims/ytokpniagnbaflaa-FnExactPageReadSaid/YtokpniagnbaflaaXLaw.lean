/-
Rows and boxes between marks of the heap: what is made in one step lies in an interval of blocks of its own, so what is written in one interval leaves the others as they were.
Conditions: each theorem names its own.
-/
import Derived.Test.YtokpniagnbaflaaWWords
import Derived.Test.YtokpniagnbaflaaWFoot
import Derived.Test.YtokpniagnbaflaaWApart
import Derived.Test.YtokpniagnbaflaaWKept
import Derived.Test.YtokpniagnbaflaaWN
import Derived.Test.YtokpniagnbaflaaWMore
set_option linter.unusedVariables false
namespace Go.Proofs.YtokpniagnbaflaaW.PrintWords
open Go.RowKit
/-- the blocks from a up to b -/
def iv (a b : Nat) : Nat → Prop := fun k => a ≤ k ∧ k < b
theorem drawn0_below {w w' : World} (h : Drawn0 w w') : Below w.heap.size w w' := by
  obtain ⟨n, rfl⟩ := h.out
  exact pw_below_drewN (Below.refl _ _) n
theorem below_thenB {w W W' : World} (h : Below w.heap.size w W) (b : Below w.heap.size W W') : Below w.heap.size w W' :=
  ⟨b.os.trans h.os, b.tape.trans h.tape, b.output.trans h.output, Nat.le_trans h.size b.size, fun k hk => (b.block k hk).trans (h.block k hk)⟩
theorem setCell_drewN (W : World) (n : Nat) (p : Addr) (u : Value) : (W.drewN n).setCell p u = (W.setCell p u).drewN n := rfl
theorem size_set (W : World) (p : Addr) (u : Value) : (W.setCell p u).heap.size = W.heap.size := by simp [World.setCell]
theorem calls_args {P : Program} {n : FuncId} {a a' : Array Value} {w : World} {Q : Ending → World → Prop} (h : a = a') (H : Calls P n a' w Q) : Calls P n a w Q := by
  rw [h]
  exact H
theorem cell_set_other (W : World) (g i j : Nat) (u : Value) (h : j ≠ i) : (W.setCell ⟨g, i, none⟩ u).cell? ⟨g, j, none⟩ = W.cell? ⟨g, j, none⟩ := by
  refine World.cell?_setCell_other _ _ _ _ ?_
  intro he
  injection he with _ h2 _
  exact h h2.symm
namespace Kd
section
variable {α β : Type} {d : Kd α} {e : Nat} {w W W' : World} {base lo hi p : Nat} {ok : Nat → Prop} {v : Value} {xs ys : List α}
theorem C_empty (d : Kd α) (W : World) (A : Option Addr) : d.C W A ([] : List α).length [] := ⟨rfl, by simp, fun h => by simp at h⟩
theorem R_born (h : R d e W' W.heap.size ok v xs) (hw : base ≤ W.heap.size) (hp : p ≤ W.heap.size) (hs : W.heap.size ≤ W'.heap.size) : ∃ lo hi, p ≤ lo ∧ lo ≤ hi ∧ hi ≤ W'.heap.size ∧ R d e W' base (iv lo hi) v xs :=
  ⟨W.heap.size, W'.heap.size, hp, hs, Nat.le_refl _, R_lower (R_mono (R_bound h) (fun k hk => ⟨hk.2.1, hk.2.2.1⟩)) hw⟩
theorem S_born (h : S d e W' W.heap.size ok v xs) (hw : base ≤ W.heap.size) (hp : p ≤ W.heap.size) (hs : W.heap.size ≤ W'.heap.size) : ∃ lo hi, p ≤ lo ∧ lo ≤ hi ∧ hi ≤ W'.heap.size ∧ S d e W' base (iv lo hi) v xs :=
  ⟨W.heap.size, W'.heap.size, hp, hs, Nat.le_refl _, S_lower (S_mono (S_bound h) (fun k hk => ⟨hk.2.1, hk.2.2.1⟩)) hw⟩
theorem R_born2 {d2 : Kd β} {e2 : Nat} {ok2 : Nat → Prop} {v2 : Value} {x2 : List β} (h : R d e W' W.heap.size ok v xs) (h2 : R d2 e2 W' W.heap.size ok2 v2 x2) (hw : base ≤ W.heap.size) (hp : p ≤ W.heap.size) (hs : W.heap.size ≤ W'.heap.size) :
    ∃ lo hi, p ≤ lo ∧ lo ≤ hi ∧ hi ≤ W'.heap.size ∧ R d e W' base (iv lo hi) v xs ∧ R d2 e2 W' base (iv lo hi) v2 x2 :=
  ⟨W.heap.size, W'.heap.size, hp, hs, Nat.le_refl _, R_lower (R_mono (R_bound h) (fun k hk => ⟨hk.2.1, hk.2.2.1⟩)) hw, R_lower (R_mono (R_bound h2) (fun k hk => ⟨hk.2.1, hk.2.2.1⟩)) hw⟩
theorem S_born2 {d2 : Kd β} {e2 : Nat} {ok2 : Nat → Prop} {v2 : Value} {x2 : List β} (h : S d e W' W.heap.size ok v xs) (h2 : S d2 e2 W' W.heap.size ok2 v2 x2) (hw : base ≤ W.heap.size) (hp : p ≤ W.heap.size) (hs : W.heap.size ≤ W'.heap.size) :
    ∃ lo hi, p ≤ lo ∧ lo ≤ hi ∧ hi ≤ W'.heap.size ∧ S d e W' base (iv lo hi) v xs ∧ S d2 e2 W' base (iv lo hi) v2 x2 :=
  ⟨W.heap.size, W'.heap.size, hp, hs, Nat.le_refl _, S_lower (S_mono (S_bound h) (fun k hk => ⟨hk.2.1, hk.2.2.1⟩)) hw, S_lower (S_mono (S_bound h2) (fun k hk => ⟨hk.2.1, hk.2.2.1⟩)) hw⟩
theorem S_bornM {d2 : Kd β} {e2 mid : Nat} {v2 : Value} {x2 : List β} (h : S d e W' W.heap.size (fun k_ => k_ < mid) v xs) (h2 : S d2 e2 W' W.heap.size (fun k_ => mid ≤ k_) v2 x2) (hw : base ≤ W.heap.size) (hp : p ≤ W.heap.size) (hs : W.heap.size ≤ W'.heap.size) :
    ∃ lo m hi, p ≤ lo ∧ lo ≤ m ∧ m ≤ hi ∧ hi ≤ W'.heap.size ∧ S d e W' base (iv lo m) v xs ∧ S d2 e2 W' base (iv m hi) v2 x2 :=
  ⟨W.heap.size, max W.heap.size (min mid W'.heap.size), W'.heap.size, hp, by omega, by omega, Nat.le_refl _, S_lower (S_mono (S_bound h) (fun k hk => ⟨hk.2.1, by have := hk.1; have := hk.2.2.1; omega⟩)) hw, S_lower (S_mono (S_bound h2) (fun k hk => ⟨by have := hk.1; have := hk.2.1; omega, hk.2.2.1⟩)) hw⟩
theorem R_tightB (hE : d.E = []) (h : R d e W' W.heap.size ok v xs) (hw : base ≤ W.heap.size) (hp : p ≤ W.heap.size) (hs : W.heap.size ≤ W'.heap.size) : ∃ lo hi, p ≤ lo ∧ lo ≤ hi ∧ hi ≤ W'.heap.size ∧ (lo = hi ∨ hi = lo + 1 ∧ v.ownBlock = some lo) ∧ R d e W' base (iv lo hi) v xs := by
  cases hv : v.ownBlock with
  | none => exact ⟨W.heap.size, W.heap.size, hp, Nat.le_refl _, hs, Or.inl rfl, R_lower (R_mono (R_tight hE h) (fun k hk => by rw [hv] at hk; cases hk)) hw⟩
  | some g =>
    have hb := (R_bound h).1 g hv
    exact ⟨g, g + 1, by omega, by omega, by omega, Or.inr ⟨rfl, rfl⟩, R_lower (R_mono (R_tight hE h) (fun k hk => by rw [hv] at hk; cases hk; exact ⟨Nat.le_refl _, Nat.lt_succ_self _⟩)) hw⟩
/-- two rows whose blocks are not the same one -/
theorem R_bornA {d2 : Kd β} {e2 : Nat} {ok2 : Nat → Prop} {v2 : Value} {x2 : List β} (hE : d.E = []) (hE2 : d2.E = []) (h : R d e W' W.heap.size (fun k_ => some k_ ≠ v2.ownBlock) v xs) (h2 : R d2 e2 W' W.heap.size ok2 v2 x2) (hw : base ≤ W.heap.size) (hp : p ≤ W.heap.size) (hs : W.heap.size ≤ W'.heap.size) :
    ∃ lo hi lo2 hi2 t, p ≤ lo ∧ hi ≤ t ∧ p ≤ lo2 ∧ hi2 ≤ t ∧ (hi ≤ lo2 ∨ hi2 ≤ lo) ∧ t ≤ W'.heap.size ∧ p ≤ t ∧ R d e W' base (iv lo hi) v xs ∧ R d2 e2 W' base (iv lo2 hi2) v2 x2 := by
  obtain ⟨lo, hi, a1, a2, a3, a4, r1⟩ := R_tightB (base := base) (p := p) hE h hw hp hs
  obtain ⟨lo2, hi2, b1, b2, b3, b4, r2⟩ := R_tightB (base := base) (p := p) hE2 h2 hw hp hs
  refine ⟨lo, hi, lo2, hi2, W'.heap.size, a1, a3, b1, b3, ?_, Nat.le_refl _, by omega, r1, r2⟩
  rcases a4 with a4 | ⟨a4, a5⟩
  · omega
  rcases b4 with b4 | ⟨b4, b5⟩
  · omega
  have hne : lo ≠ lo2 := fun he => h.1 lo a5 (by rw [he, b5])
  omega
theorem R_back {e2 : Nat} {W2 : World} {ok2 : Nat → Prop} (h0 : R d e W base ok v xs) (h : R d e2 W2 base ok2 v ys) (hE : d.E = []) : R d e2 W2 base ok v ys := R_mono (R_tight hE h) (fun k hk => h0.1 k hk.symm)
theorem R_ivset (h : R d e W base (iv lo hi) v xs) {g : Nat} (hg : g < lo ∨ hi ≤ g) (j : Nat) (u : Value) : R d e (W.setCell ⟨g, j, none⟩ u) base (iv lo hi) v xs := R_far (p := ⟨g, j, none⟩) h (fun k hk he => by have h1 := hk.1; have h2 := hk.2; have h3 : k = g := he; omega) u
theorem S_ivset (h : S d e W base (iv lo hi) v xs) {g : Nat} (hg : g < lo ∨ hi ≤ g) (j : Nat) (u : Value) : S d e (W.setCell ⟨g, j, none⟩ u) base (iv lo hi) v xs := S_far (p := ⟨g, j, none⟩) h (fun k hk he => by have h1 := hk.1; have h2 := hk.2; have h3 : k = g := he; omega) u
theorem N_born (h : N d e W' W.heap.size (fun k_ => W.heap.size ≤ k_) v xs) (hw : base ≤ W.heap.size) (hp : p ≤ W.heap.size) (hs : W.heap.size ≤ W'.heap.size) : ∃ lo hi, p ≤ lo ∧ lo ≤ hi ∧ hi ≤ W'.heap.size ∧ N d e W' base (iv lo hi) v xs :=
  ⟨W.heap.size, W'.heap.size, hp, hs, Nat.le_refl _, N_lower (N_mono (N_bound h) (fun k hk => ⟨hk.1, hk.2⟩)) hw⟩
theorem N_ivset (h : N d e W base (iv lo hi) v xs) {g : Nat} (hg : g < lo ∨ hi ≤ g) (j : Nat) (u : Value) : N d e (W.setCell ⟨g, j, none⟩ u) base (iv lo hi) v xs := N_far (p := ⟨g, j, none⟩) h (fun k hk he => by have h1 := hk.1; have h2 := hk.2; have h3 : k = g := he; omega) u
theorem FK_own {ok : Nat → Prop} (h : R d e W base ok v xs) : FK (slice e d) W ok xs [v] := by
  obtain ⟨A, c, rfl⟩ := R_slice h
  exact FK_slice_mk (R_reads' h).2.1 (R_F h)
theorem iv_apart {lo hi lo' hi' : Nat} (h : hi ≤ lo' ∨ hi' ≤ lo) : ∀ k, iv lo hi k → ¬ iv lo' hi' k := by
  rintro k ⟨h1, h2⟩ ⟨h3, h4⟩
  omega
theorem iv_out {lo hi g : Nat} (h : g < lo ∨ hi ≤ g) : ¬ iv lo hi g := by
  rintro ⟨h1, h2⟩
  omega
end
end Kd
end Go.Proofs.YtokpniagnbaflaaW.PrintWords

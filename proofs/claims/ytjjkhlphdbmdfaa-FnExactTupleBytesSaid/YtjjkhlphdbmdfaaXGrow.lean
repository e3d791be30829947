/-
slices.Grow of a nil row of bytes, out of the shelf's contract: an empty row of its own.
Conditions: the number that is asked for is at most 2^45.
-/
import Derived.Shelf.Spec.SlicesGrow
import Derived.Test.YtjjkhlphdbmdfaaProg
import Derived.Test.YtjjkhlphdbmdfaaWWords
set_option linter.unusedVariables false
namespace Go.Proofs
open Go.Shelf
shelf_lay_g Lays8.n4 Nm8 4 at Try 96 as Try.growB
end Go.Proofs
namespace Go.Proofs.YtjjkhlphdbmdfaaW.PrintWords
open Go.RowKit
theorem grow_calls (a0 : Nat) (w : World) (hb : a0 ≤ 35184372088832) :
    Calls Try.prog 96 #[.slice none 0 0, .int .i64 (a0 : Int)] w fun e w' => ∃ v0_ : Value, e = .returned (v0_) ∧ Kd.R (Kd.int .u8) 5 w' w.heap.size (fun _ => True) v0_ [] ∧ Below w.heap.size w w' := by
  by_cases h0 : a0 = 0
  · subst h0
    refine (Any8.slices_Grow_room Try.growB none 0 0 0 w (Nat.le_refl _) (by omega) (by omega) (by omega)).mono ?_
    rintro e w' ⟨rfl, rfl⟩
    exact ⟨_, rfl, Kd.R_nil _ _ _ _ _, Below.refl _ _⟩
  · have hq : (Try.prog.info? 5).map (fun i => (i.zero, i.size, i.bytes)) = some (some (.int .u8 0), 1, 1) := by kernel_rfl
    obtain ⟨i, hi, he⟩ := Option.map_eq_some_iff.1 hq
    have hz : i.zero = some (.int .u8 0) := congrArg Prod.fst he
    have hs : i.size = 1 := congrArg (fun x => x.2.1) he
    have hby : i.bytes = 1 := congrArg (fun x => x.2.2) he
    refine (Any8.slices_Grow_grow Try.growB i (.int .u8 0) hi hz (by omega) none 0 0 a0 [] w (Nat.le_refl _) (by omega) (by rw [hby]; omega) (by omega) (by simp) (fun _ => rfl) (fun a h => by cases h)).mono ?_
    rintro e w' ⟨rfl, rfl⟩
    have hg := grownCap_ge w (0 + a0) 0 (Try.growB_ren.t 25)
    have hm := grownCap_le_maxLen w (0 + a0) 0 (Try.growB_ren.t 25) (by unfold maxLen; omega)
    generalize grownCap w (0 + a0) 0 (Try.growB_ren.t 25) = C at *
    have hH := heap_alloc_new w.drew (.cells ([].toArray ++ Builtin.zeroCells (Value.int IntKind.u8 0).cells (0 + a0 - 0) ++ Builtin.zeroCells (Value.int IntKind.u8 0).cells (C - (0 + a0))) (Try.growB_ren.t 25) (0, 0))
    refine ⟨_, rfl, Kd.R_of_own ⟨rfl, Or.inr ⟨w.heap.size, C, _, rfl, Nat.le_refl _, hH, Nat.zero_le _, hm, ?_, ?_⟩⟩ (fun _ _ => trivial), below_alloc (below_drew1 (Below.refl _ _)) _⟩
    · rw [Array.size_append, Array.size_append, size_zeroCells, size_zeroCells]
      show 0 + (0 + a0 - 0) * 1 + (C - (0 + a0)) * 1 = C * 1
      omega
    · simp [encs]
end Go.Proofs.YtjjkhlphdbmdfaaW.PrintWords

/-
slices.Grow of a nil row of bytes, out of the shelf's contract: an empty row of its own.
Conditions: the number that is asked for is at most 2^45.
-/
import Derived.Shelf.Spec.SlicesGrow
import Derived.Test.YtjjkhlphdbmdfaaProg
import Derived.Test.YtjjkhlphdbmdfaaZFnTuples0
set_option linter.unusedVariables false
namespace Go.Proofs
open Go.Shelf
def Try.growB_ren : Go.Shelf.Ren := ⟨fun | 4 => 96 | n => n, fun | 22 => 22 | 25 => 5 | 3 => 3 | 4 => 4 | 9 => 9 | 20 => 20 | 0 => 0 | n => n, fun | n => n⟩
theorem Try.growB : Go.Proofs.Lays8.n4 Try.prog Try.growB_ren := {
  mixed := by kernel_rfl
  f4 := ⟨Try.f96.name, by decide, Try.func96.trans (congrArg some (by kernel_rfl))⟩
  t0 := Try.underlying0
  a0 := Try.isAgg0
  z0 := Try.sizeOf0
  v0 := Try.zeroValue0
  t3 := Try.underlying3
  a3 := Try.isAgg3
  z3 := Try.sizeOf3
  v3 := Try.zeroValue3
  t4 := Try.underlying4
  a4 := Try.isAgg4
  z4 := Try.sizeOf4
  v4 := Try.zeroValue4
  t9 := Try.underlying9
  a9 := Try.isAgg9
  z9 := Try.sizeOf9
  v9 := Try.zeroValue9
  t20 := Try.underlying20
  a20 := Try.isAgg20
  z20 := Try.sizeOf20
  v20 := Try.zeroValue20
  t22 := Try.underlying22
  a22 := Try.isAgg22
  z22 := Try.sizeOf22
  v22 := Try.zeroValue22 }
end Go.Proofs
namespace Go.Proofs.YtjjkhlphdbmdfaaW.PrintWords
open Go.RowKit
theorem grow_calls (a0 : Nat) (w : World) (hb : a0 ≤ 35184372088832) :
    Calls Try.prog 96 #[.slice none 0 0, .int .i64 (a0 : Int)] w fun e w' => ∃ v0_ : Value, e = .returned (v0_) ∧ Kd.R (Kd.int .u8) 5 w' w.heap.size (fun _ => True) v0_ [] ∧ Below w.heap.size w w' := by
  by_cases h0 : a0 = 0
  · subst h0
    refine (Any8.slices_Grow_room Try.growB none 0 0 0 w (Nat.le_refl _) (by omega) (by omega) (by omega)).mono ?_
    rintro e w' ⟨rfl, rfl⟩
    exact ⟨_, rfl, Kd.R_nil _ _ _ _ _, Below.refl _ _⟩
  · have hq : (Try.prog.info? 5).map (fun i => (i.zero, i.size, i.bytes)) = some (some (.int .u8 0), 1, 1) := by kernel_rfl
    obtain ⟨i, hi, he⟩ := Option.map_eq_some_iff.1 hq
    have hz : i.zero = some (.int .u8 0) := congrArg Prod.fst he
    have hs : i.size = 1 := congrArg (fun x => x.2.1) he
    have hby : i.bytes = 1 := congrArg (fun x => x.2.2) he
    refine (Any8.slices_Grow_grow Try.growB i (.int .u8 0) hi hz (by omega) none 0 0 a0 [] w (Nat.le_refl _) (by omega) (by rw [hby]; omega) (by omega) (by simp) (fun _ => rfl) (fun a h => by cases h)).mono ?_
    rintro e w' ⟨rfl, rfl⟩
    have hg := grownCap_ge w (0 + a0) 0 (Try.growB_ren.t 25)
    have hm := grownCap_le_maxLen w (0 + a0) 0 (Try.growB_ren.t 25) (by unfold maxLen; omega)
    generalize grownCap w (0 + a0) 0 (Try.growB_ren.t 25) = C at *
    have hH := heap_alloc_new w.drew (.cells ([].toArray ++ Builtin.zeroCells (Value.int IntKind.u8 0).cells (0 + a0 - 0) ++ Builtin.zeroCells (Value.int IntKind.u8 0).cells (C - (0 + a0))) (Try.growB_ren.t 25) (0, 0))
    refine ⟨_, rfl, Kd.R_of_own ⟨rfl, Or.inr ⟨w.heap.size, C, _, rfl, Nat.le_refl _, hH, Nat.zero_le _, hm, ?_, ?_⟩⟩ (fun _ _ => trivial), below_alloc (below_drew1 (Below.refl _ _)) _⟩
    · rw [Array.size_append, Array.size_append, size_zeroCells, size_zeroCells]
      show 0 + (0 + a0 - 0) * 1 + (C - (0 + a0)) * 1 = C * 1
      omega
    · simp [encs]
end Go.Proofs.YtjjkhlphdbmdfaaW.PrintWords

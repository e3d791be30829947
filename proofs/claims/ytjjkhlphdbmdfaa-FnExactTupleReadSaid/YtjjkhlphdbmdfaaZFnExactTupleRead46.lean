/-
What is read as data stands in memory as the kinds of the printed words tell it: numbers, bools, floats, slices of these, structs.
Conditions: none; each theorem speaks of any program in which the type is laid as told.
-/
import Derived.Test.YtjjkhlphdbmdfaaZFnExactTupleRead0
import Derived.Deep.Slices
import Derived.ChangeArms
import Derived.WideShapes
import Derived.Laws.Cover2
import Derived.Test.YtjjkhlphdbmdfaaZFnExactTupleRead5
namespace Go.Proofs.YtjjkhlphdbmdfaaX
open Go.Proofs.YtjjkhlphdbmdfaaW.PrintWords
/-- Whatever reads as data at type t stands in its cells as kind d tells it, and its numbers fit (wf). -/
def Opens {α : Type} (P : Program) (t : TypeId) (d : Kd α) (wf : α → Prop) : Prop :=
  ∀ {H : Type} {enc : TypeId × Value → H} {w : World} {fuel : Nat} {cs : List Value} {x : DataW H × List MemPlace},
    DataW.trod enc P w 0 (fun _ => true) true fuel t cs = some x → ∃ v, d.K w v cs ∧ wf v
theorem opens_int {P : Program} {t : TypeId} {k : IntKind} (hu : P.underlying t = some (.int k)) : Opens P t (Kd.int k) (fun n => (Lit.int k n).wf = true) := by
  intro H enc w fuel cs x h
  obtain ⟨n, rfl, _, hw⟩ := DataW.trod_int hu h
  exact ⟨n, rfl, hw⟩
theorem elems_exist {α : Type} {q : Nat → α → Prop} (n : Nat) (h : ∀ i, i < n → ∃ v, q i v) : ∃ xs : List α, xs.length = n ∧ ∀ i v, xs[i]? = some v → q i v := by
  induction n with
  | zero => exact ⟨[], rfl, by simp⟩
  | succ n ih =>
    obtain ⟨xs, hl, hx⟩ := ih (fun i hi => h i (by omega))
    obtain ⟨v, hv⟩ := h n (by omega)
    refine ⟨xs ++ [v], by simp [hl], fun i u hu => ?_⟩
    by_cases hi : i < n
    · rw [List.getElem?_append_left (by omega)] at hu
      exact hx i u hu
    · have hin : i = n := by
        have := (List.getElem?_eq_some_iff.1 hu).1
        simp [hl] at this
        omega
      subst hin
      rw [List.getElem?_append_right (by omega)] at hu
      simp [hl] at hu
      subst hu
      exact hv
theorem opens_slice {α : Type} {P : Program} {t e : TypeId} {d : Kd α} {wf : α → Prop} (hu : P.underlying t = some (.slice e)) (hc : P.cellsOf e = d.sz) (he : Opens P e d wf) :
    Opens P t (Kd.slice e d) (fun xs => xs.length ≤ 9223372036854775807 ∧ ∀ x ∈ xs, wf x) := by
  intro H enc w fuel cs x h
  rcases Go.Deep.open_slice hu h with ⟨rfl, _⟩ | ⟨a, len, cap, m, n, D, Pl, rfl, _, hl, hm, hmm, _, hx⟩
  · exact ⟨[], ⟨none, 0, rfl, Nat.le_refl _, Kd.C_nil _ _⟩, by simp, by simp⟩
  · rw [if_pos rfl] at hmm
    subst hmm
    obtain ⟨xs, hlen, hq⟩ := elems_exist (q := fun i v => ∃ c, w.cells? 0 (a.add (i * d.sz)) d.sz = some c ∧ d.K w v c ∧ wf v) len (fun i hi => by
      obtain ⟨c, h1, h2⟩ := hx i (by omega)
      rw [hc] at h1
      obtain ⟨v, hv, hw⟩ := he h2
      exact ⟨v, c, h1, hv, hw⟩)
    unfold maxLen at hm
    refine ⟨xs, ⟨some a, m, by rw [hlen], by omega, rfl, by omega, fun _ => ⟨a, rfl, fun j p hp => ?_⟩⟩, by omega, fun v hv => ?_⟩
    · obtain ⟨c, h1, hK, _⟩ := hq j p hp
      obtain ⟨_, h2, h3⟩ := World.cells?_some h1
      refine ⟨c, h2, hK, fun i u hu => ?_⟩
      have hi : i < d.sz := by
        have := (List.getElem?_eq_some_iff.1 hu).1
        omega
      rw [← Go.Deep.add_add, h3 i hi, hu]
    · obtain ⟨i, hi, rfl⟩ := List.mem_iff_getElem.1 hv
      obtain ⟨_, _, _, hw⟩ := hq i _ (List.getElem?_eq_getElem hi)
      exact hw
end Go.Proofs.YtjjkhlphdbmdfaaX

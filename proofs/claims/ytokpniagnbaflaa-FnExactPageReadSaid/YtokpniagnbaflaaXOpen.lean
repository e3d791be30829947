/-
What is read as data stands in memory as the kinds of the printed words tell it: numbers, bools, floats, slices of these, structs.
Conditions: none; each theorem speaks of any program in which the type is laid as told.
-/
import Derived.Test.YtokpniagnbaflaaWWords
import Derived.Deep.Slices
import Derived.ChangeArms
import Derived.WideShapes
import Derived.Laws.Cover2
import Derived.Test.YtokpniagnbaflaaXFlt
namespace Go.Proofs.YtokpniagnbaflaaX
open Go.Proofs.YtokpniagnbaflaaW.PrintWords
/-- Whatever reads as data at type t stands in its cells as kind d tells it, and its numbers fit (wf). -/
def Opens {α : Type} (P : Program) (t : TypeId) (d : Kd α) (wf : α → Prop) : Prop :=
  ∀ {H : Type} {enc : TypeId × Value → H} {w : World} {fuel : Nat} {cs : List Value} {x : DataW H × List MemPlace},
    DataW.trod enc P w 0 (fun _ => true) true fuel t cs = some x → ∃ v, d.K w v cs ∧ wf v
theorem opens_int {P : Program} {t : TypeId} {k : IntKind} (hu : P.underlying t = some (.int k)) : Opens P t (Kd.int k) (fun n => (Lit.int k n).wf = true) := by
  intro H enc w fuel cs x h
  obtain ⟨n, rfl, _, hw⟩ := DataW.trod_int hu h
  exact ⟨n, rfl, hw⟩
theorem opens_bool {P : Program} {t : TypeId} (hu : P.underlying t = some .bool) : Opens P t Kd.bool (fun _ => True) := by
  intro H enc w fuel cs x h
  obtain ⟨b, rfl, _⟩ := DataW.trod_bool hu h
  exact ⟨b, rfl, trivial⟩
theorem opens_flt {P : Program} {t : TypeId} (hu : P.underlying t = some (.float .f64)) : Opens P t Kd.flt (fun b => b < 2 ^ 64) := by
  intro H enc w fuel cs x h
  cases fuel with
  | zero => simp [DataW.trod] at h
  | succ n =>
    rcases cs with _ | ⟨c, _ | ⟨c2, cs⟩⟩
    · simp [DataW.trod, hu] at h
    · cases c <;> simp [DataW.trod, hu] at h
      obtain ⟨⟨hk, hw⟩, _⟩ := h
      subst hk
      exact ⟨_, rfl, by simpa [Lit.wf] using hw⟩
    · simp [DataW.trod, hu] at h
theorem elems_exist {α : Type} {q : Nat → α → Prop} (n : Nat) (h : ∀ i, i < n → ∃ v, q i v) : ∃ xs : List α, xs.length = n ∧ ∀ i v, xs[i]? = some v → q i v := by
  induction n with
  | zero => exact ⟨[], rfl, by simp⟩
  | succ n ih =>
    obtain ⟨xs, hl, hx⟩ := ih (fun i hi => h i (by omega))
    obtain ⟨v, hv⟩ := h n (by omega)
    refine ⟨xs ++ [v], by simp [hl], fun i u hu => ?_⟩
    by_cases hi : i < n
    · rw [List.getElem?_append_left (by omega)] at hu
      exact hx i u hu
    · have hin : i = n := by
        have := (List.getElem?_eq_some_iff.1 hu).1
        simp [hl] at this
        omega
      subst hin
      rw [List.getElem?_append_right (by omega)] at hu
      simp [hl] at hu
      subst hu
      exact hv
theorem opens_slice {α : Type} {P : Program} {t e : TypeId} {d : Kd α} {wf : α → Prop} (hu : P.underlying t = some (.slice e)) (hc : P.cellsOf e = d.sz) (he : Opens P e d wf) :
    Opens P t (Kd.slice e d) (fun xs => xs.length ≤ 9223372036854775807 ∧ ∀ x ∈ xs, wf x) := by
  intro H enc w fuel cs x h
  rcases Go.Deep.open_slice hu h with ⟨rfl, _⟩ | ⟨a, len, cap, m, n, D, Pl, rfl, _, hl, hm, hmm, _, hx⟩
  · exact ⟨[], ⟨none, 0, rfl, Nat.le_refl _, Kd.C_nil _ _⟩, by simp, by simp⟩
  · rw [if_pos rfl] at hmm
    subst hmm
    obtain ⟨xs, hlen, hq⟩ := elems_exist (q := fun i v => ∃ c, w.cells? 0 (a.add (i * d.sz)) d.sz = some c ∧ d.K w v c ∧ wf v) len (fun i hi => by
      obtain ⟨c, h1, h2⟩ := hx i (by omega)
      rw [hc] at h1
      obtain ⟨v, hv, hw⟩ := he h2
      exact ⟨v, c, h1, hv, hw⟩)
    unfold maxLen at hm
    refine ⟨xs, ⟨some a, m, by rw [hlen], by omega, rfl, by omega, fun _ => ⟨a, rfl, fun j p hp => ?_⟩⟩, by omega, fun v hv => ?_⟩
    · obtain ⟨c, h1, hK, _⟩ := hq j p hp
      obtain ⟨_, h2, h3⟩ := World.cells?_some h1
      refine ⟨c, h2, hK, fun i u hu => ?_⟩
      have hi : i < d.sz := by
        have := (List.getElem?_eq_some_iff.1 hu).1
        omega
      rw [← Go.Deep.add_add, h3 i hi, hu]
    · obtain ⟨i, hi, rfl⟩ := List.mem_iff_getElem.1 hv
      obtain ⟨_, _, _, hw⟩ := hq i _ (List.getElem?_eq_getElem hi)
      exact hw
theorem cells_part (cs : List Value) (o n : Nat) : cs.drop o = (cs.drop o).take n ++ cs.drop (o + n) := by
  rw [← List.drop_drop, List.take_append_drop]
/-- The fields from offset o on. -/
def OpensAt {α : Type} (P : Program) (total : Nat) (fs : List (TypeId × Nat)) (o : Nat) (d : Kd α) (wf : α → Prop) : Prop :=
  ∀ {H : Type} {enc : TypeId × Value → H} {w : World} {fuel : Nat} {cs : List Value}, cs.length = total →
    (∀ f, f ∈ fs → ∃ y, DataW.trod enc P w 0 (fun _ => true) true fuel f.1 ((cs.drop f.2).take (P.cellsOf f.1)) = some y) → ∃ v, d.K w v (cs.drop o) ∧ wf v
theorem at_last {α : Type} {P : Program} {t o total : Nat} {d : Kd α} {wf : α → Prop} (h : Opens P t d wf) (ho : o + P.cellsOf t = total) : OpensAt P total [(t, o)] o d wf := by
  intro H enc w fuel cs hl hf
  obtain ⟨y, hy⟩ := hf (t, o) (by simp)
  dsimp only at hy
  rw [List.take_of_length_le (by rw [List.length_drop]; omega)] at hy
  exact h hy
theorem at_cons {α β : Type} {P : Program} {t o total n : Nat} {fs : List (TypeId × Nat)} {d : Kd α} {d2 : Kd β} {wf : α → Prop} {wf2 : β → Prop} (h : Opens P t d wf) (hn : P.cellsOf t = n)
    (rest : OpensAt P total fs (o + n) d2 wf2) : OpensAt P total ((t, o) :: fs) o (Kd.pair d d2) (fun v => wf v.1 ∧ wf2 v.2) := by
  intro H enc w fuel cs hl hf
  obtain ⟨y, hy⟩ := hf (t, o) (by simp)
  obtain ⟨v, hv, hw⟩ := h hy
  obtain ⟨u, hu, hw2⟩ := rest hl (fun f hf' => hf f (List.mem_cons_of_mem _ hf'))
  refine ⟨(v, u), ⟨_, _, cells_part cs o n, ?_, hu⟩, hw, hw2⟩
  rw [← hn]
  exact hv
theorem opens_struct {α : Type} {P : Program} {t total : Nat} {fs : Array Field} {L : List (TypeId × Nat)} {d : Kd α} {wf : α → Prop} (hu : P.underlying t = some (.struct fs)) (hc : P.cellsOf t = total)
    (hL : fs.toList.map (fun f => (f.type, f.offset)) = L) (h : OpensAt P total L 0 d wf) : Opens P t d wf := by
  intro H enc w fuel cs x hx
  obtain ⟨xs, n, _, _, hl, hlen, hf⟩ := DataW.trod_struct hu hx
  have := h (enc := enc) (w := w) (fuel := n) (cs := cs) (by rw [hl, hc]) (fun f hm => by
    rw [← hL] at hm
    obtain ⟨g, hg, rfl⟩ := List.mem_map.1 hm
    obtain ⟨i, hi, he⟩ := List.mem_iff_getElem.1 hg
    have hi2 : i < fs.size := by simpa using hi
    have h1 := hf i g (by rw [← he]; simp [hi2])
    exact ⟨xs[i]'(by omega), by rw [h1]; exact List.getElem?_eq_getElem (by omega)⟩)
  exact this
theorem opens_iso {α β : Type} {P : Program} {t : Nat} {d : Kd α} {wf : α → Prop} (h : Opens P t d wf) (f : β → α) (g : α → β) (hfg : ∀ v, f (g v) = v) : Opens P t (Kd.iso d f) (fun x => wf (f x)) := by
  intro H enc w fuel cs x hx
  obtain ⟨v, hv, hw⟩ := h hx
  refine ⟨g v, ?_, by show wf (f (g v)); rw [hfg]; exact hw⟩
  show d.K w (f (g v)) cs
  rw [hfg]
  exact hv
theorem okFlt {P : Program} {w : World} {r : Reach} {b0 : Nat} {t : TypeId} {v : Value} (ht : P.underlying t = some (.float .f64)) (h : Value.okWide P w r b0 t v) : ∃ b, v = .float .f64 b := ChangeShapes.okWide_float ht h
end Go.Proofs.YtokpniagnbaflaaX

/-
The law FnExactGetNum answers true: for all bytes, place and size the program's GetNum gives the reference's number and verdict, and the bytes stay as they were.
Conditions: none beyond the bounds of the statement itself.
-/
import Derived.Test.YtkgljbddpbgdgaaPFnExactGetNumx2
import Derived.Test.YtkgljbddpbgdgaaWSized
set_option linter.unusedVariables false
set_option linter.unusedSimpArgs false
namespace Go.Proofs.Ytkgljbddpbgdgaa.Pure.ofFnExactGetNum
open Go.RowKit Go.Proofs.Ytkgljbddpbgdgaa.PFnExactGetNum Go.Proofs.YtkgljbddpbgdgaaW.PrintWords Go.Proofs.YtkgljbddpbgdgaaW.PrintLast Go.Proofs.YtkgljbddpbgdgaaW.PrintMore

theorem ev_pos {α : Type} {c : Prop} [Decidable c] {A B : Nat → Option α} {r : α} (hc : c) (h : Ev A r) : Ev (fun k => if c then A k else B k) r := by
  refine Ev.congr (fun k => ?_) h
  rw [if_pos hc]
theorem ev_neg {α : Type} {c : Prop} [Decidable c] {A B : Nat → Option α} {r : α} (hc : ¬ c) (h : Ev B r) : Ev (fun k => if c then A k else B k) r := by
  refine Ev.congr (fun k => ?_) h
  rw [if_neg hc]
theorem ev_bind0 {α β : Type} {g : Option α} {f : Nat → α → Option β} {a : α} {r : β} (h : g = some a) (k : Ev (fun n => f n a) r) : Ev (fun n => g.bind (f n)) r := by
  refine Ev.congr (fun n => ?_) k
  rw [h]; rfl
theorem w64 {x : Int} (h0 : -9223372036854775808 ≤ x) (h1 : x ≤ 9223372036854775807) : wrap64 x = x := by
  unfold wrap64; omega
theorem rd_cons (x : Int) (l : List Int) : rd (x :: l) 0 = x := rfl
theorem rd_nat (l : List Int) (i : Nat) (h : i < l.length) : rd l (i : Int) = l[i] := by
  simp [rd, List.getD_eq_getElem?_getD, List.getElem?_eq_getElem h]
theorem rd_at (l : List Int) (i : Int) (h0 : 0 ≤ i) (h : i < l.length) : ∃ x, x ∈ l ∧ rd l i = x := by
  obtain ⟨n, rfl⟩ := Int.eq_ofNat_of_zero_le h0
  exact ⟨l[n]'(by omega), List.getElem_mem _, rd_nat l n (by omega)⟩
def marks (m : Int) : Nat → List Int
  | 0 => []
  | n + 1 => m :: marks (m + 1) n
def marksB (m : Int) : Nat → List Int
  | 0 => []
  | n + 1 => (m % 256) :: marksB (m + 1) n
theorem marks_length (n : Nat) : ∀ m, (marks m n).length = n := by
  induction n with
  | zero => intro m; rfl
  | succ n ih => intro m; simp [marks, ih]
theorem marksB_length (n : Nat) : ∀ m, (marksB m n).length = n := by
  induction n with
  | zero => intro m; rfl
  | succ n ih => intro m; simp [marksB, ih]
theorem marks_get (n : Nat) : ∀ m (i : Nat) (h : i < (marks m n).length), (marks m n)[i] = m + i := by
  induction n with
  | zero => intro m i h; simp [marks] at h
  | succ n ih =>
    intro m i h
    cases i with
    | zero => simp [marks]
    | succ i => simp only [marks, List.getElem_cons_succ]; rw [ih]; push_cast; omega
theorem marksB_get (n : Nat) : ∀ m (i : Nat) (h : i < (marksB m n).length), (marksB m n)[i] = (m + i) % 256 := by
  induction n with
  | zero => intro m i h; simp [marksB] at h
  | succ n ih =>
    intro m i h
    cases i with
    | zero => simp [marksB]
    | succ i => simp only [marksB, List.getElem_cons_succ]; rw [ih]; push_cast; omega

theorem impl_within_f (a b c : Int) : impl_within.f a b c = some (decide (b ≤ a ∧ a ≤ c)) := by
  unfold impl_within.f
  by_cases h : b ≤ a <;> simp [h]

def IsBytes (l : List Int) : Prop := ∀ x ∈ l, 0 ≤ x ∧ x ≤ 255
theorem isBytes_of {l : List Int} (h : ∀ x ∈ l, (Lit.int .u8 x).wf = true) : IsBytes l := by
  intro x hx
  have := h x hx
  simpa [Lit.wf, IntKind.min, IntKind.max, IntKind.signed, IntKind.bits] using this
theorem rd_byte {l : List Int} (h : IsBytes l) (i : Int) : 0 ≤ rd l i ∧ rd l i ≤ 255 := by
  by_cases hi : i.toNat < l.length
  · have : rd l i = l[i.toNat] := by simp [rd, List.getD_eq_getElem?_getD, List.getElem?_eq_getElem hi]
    rw [this]
    exact h _ (List.getElem_mem _)
  · have : rd l i = 0 := by simp [rd, List.getD_eq_getElem?_getD, List.getElem?_eq_none (by omega : l.length ≤ i.toNat)]
    omega
/-- the number of d bytes from p on, low first -/
def gv (l : List Int) (p : Int) : Nat → Int
  | 0 => 0
  | d + 1 => rd l p + 256 * gv l (p + 1) d
theorem gv_range {l : List Int} (h : IsBytes l) (d : Nat) : ∀ p, 0 ≤ gv l p d ∧ gv l p d < 256 ^ d := by
  induction d with
  | zero => intro p; simp [gv]
  | succ d ih =>
    intro p
    have h1 := ih (p + 1)
    have h2 := rd_byte h p
    simp only [gv]
    rw [Int.pow_succ]
    constructor
    · omega
    · have : gv l (p + 1) d + 1 ≤ 256 ^ d := h1.2
      omega
theorem gv_small {l : List Int} (h : IsBytes l) (d : Nat) (hd : d ≤ 7) (p : Int) : 0 ≤ gv l p d ∧ gv l p d < 72057594037927936 := by
  refine ⟨(gv_range h d p).1, Int.lt_of_lt_of_le (gv_range h d p).2 ?_⟩
  have : d = 0 ∨ d = 1 ∨ d = 2 ∨ d = 3 ∨ d = 4 ∨ d = 5 ∨ d = 6 ∨ d = 7 := by omega
  rcases this with rfl | rfl | rfl | rfl | rfl | rfl | rfl | rfl <;> decide
theorem gv_eight {l : List Int} (h : IsBytes l) (d : Nat) (hd : d ≤ 8) (p : Int) : 0 ≤ gv l p d ∧ gv l p d < 18446744073709551616 := by
  refine ⟨(gv_range h d p).1, Int.lt_of_lt_of_le (gv_range h d p).2 ?_⟩
  have : d = 0 ∨ d = 1 ∨ d = 2 ∨ d = 3 ∨ d = 4 ∨ d = 5 ∨ d = 6 ∨ d = 7 ∨ d = 8 := by omega
  rcases this with rfl | rfl | rfl | rfl | rfl | rfl | rfl | rfl | rfl <;> decide
def GnOk (l : List Int) (at_ size : Int) : Prop := (1 ≤ size ∧ size ≤ 8) ∧ (0 ≤ at_ ∧ at_ ≤ l.length) ∧ size ≤ l.length - at_
instance (l : List Int) (at_ size : Int) : Decidable (GnOk l at_ size) := by unfold GnOk; infer_instance
def gn (l : List Int) (at_ size : Int) : Int × Bool := if GnOk l at_ size ∧ gv l at_ size.toNat < 9223372036854775808 then (gv l at_ size.toNat, true) else (0, false)
theorem u64_or {x y : Int} (h0 : 0 ≤ x) (h1 : x < 72057594037927936) (h2 : 0 ≤ y) (h3 : y ≤ 255) : Go.bits .or .u64 (IntKind.u64.wrap (x * 256)) y = y + 256 * x := by
  have e : IntKind.u64.wrap (x * 256) = x * 256 := by simp [IntKind.wrap, IntKind.bits, IntKind.signed]; omega
  rw [e, bits_join .u64 64 (by decide) (fun n a b => by simp [IntKind.wrap, IntKind.bits, IntKind.signed]; omega) 8 (x * 256) y (by omega) (by simp) (by omega) h2 (by omega) (by omega)]
  omega
theorem u64_id {x : Int} (h0 : 0 ≤ x) (h1 : x < 18446744073709551616) : IntKind.u64.wrap x = x := by simp [IntKind.wrap, IntKind.bits, IntKind.signed]; omega
theorem gv_le {l : List Int} (h : IsBytes l) (p : Int) (n : Nat) (d : Nat) : d ≤ n → gv l (p + d) (n - d) ≤ gv l p n := by
  induction d with
  | zero => intro _; simp
  | succ d ih =>
    intro hd
    refine Int.le_trans ?_ (ih (by omega))
    rw [show n - d = (n - (d + 1)) + 1 by omega]
    have h1 := (gv_range h (n - (d + 1)) (p + (d : Int) + 1)).1
    have h2 := rd_byte h (p + d)
    simp only [gv]
    rw [show p + ((d + 1 : Nat) : Int) = p + (d : Int) + 1 by omega]
    omega
theorem gv_top {l : List Int} (h : IsBytes l) (p : Int) : rd l (p + 7) > 127 ↔ 9223372036854775808 ≤ gv l p 8 := by
  have h0 := rd_byte h p
  have h1 := rd_byte h (p + 1)
  have h2 := rd_byte h (p + 1 + 1)
  have h3 := rd_byte h (p + 1 + 1 + 1)
  have h4 := rd_byte h (p + 1 + 1 + 1 + 1)
  have h5 := rd_byte h (p + 1 + 1 + 1 + 1 + 1)
  have h6 := rd_byte h (p + 1 + 1 + 1 + 1 + 1 + 1)
  have h7 := rd_byte h (p + 1 + 1 + 1 + 1 + 1 + 1 + 1)
  have e : p + 7 = p + 1 + 1 + 1 + 1 + 1 + 1 + 1 := by omega
  rw [e]
  simp only [gv]
  omega
theorem gv_step (l : List Int) (p : Int) (n d : Nat) (hd : d < n) : gv l (p + d) (n - d) = gv l (p + (d + 1 : Nat)) (n - (d + 1)) * 256 + rd l (p + d) := by
  rw [show n - d = (n - (d + 1)) + 1 by omega]
  simp only [gv]
  rw [show p + (d : Int) + 1 = p + (d + 1 : Nat) by omega]
  omega
theorem gv_high {l : List Int} (hl : IsBytes l) (p : Int) (n : Nat) (hn : n ≤ 8) (hG : ¬ gv l p n < 9223372036854775808) : n = 8 := by
  by_cases h : n = 8
  · exact h
  · have := gv_small hl n (by omega) p
    omega
theorem spec_GetNum_l (l : List Int) (hl : IsBytes l) (hn : l.length ≤ 1048576) (p size : Int) (ok : GnOk l p size) (hG : gv l p size.toNat < 9223372036854775808) (d : Nat) : ∀ (i : Int), i + 1 = d → d ≤ size →
    Ev (fun k => spec_GetNum.l0 k l p (gv l (p + d) (size.toNat - d)) i) (gv l p size.toNat, true) := by
  obtain ⟨⟨s1, s2⟩, ⟨p1, p2⟩, hs⟩ := ok
  induction d with
  | zero =>
    intro i hi _
    refine Ev.step (f := fun _ => some (gv l p size.toNat, true)) (fun k => ?_) (Ev.now _)
    simp only [spec_GetNum.l0]
    rw [if_neg (by omega)]
    simp
  | succ d ih =>
    intro i hi hd
    have hid : i = d := by omega
    subst hid
    have e : wrap64 (p + d) = p + d := w64 (by omega) (by omega)
    have hb := rd_byte hl (p + d)
    have hm := gv_le hl p size.toNat d (by omega)
    have hs' := gv_step l p size.toNat d (by omega)
    have hg := (gv_range hl (size.toNat - (d + 1)) (p + (d + 1 : Nat))).1
    have er : wrap64 (rd l (p + d)) = rd l (p + d) := w64 (by omega) (by omega)
    refine Ev.step (fun k => ?_) (ih ((d : Int) - 1) (by omega) (by omega))
    simp only [spec_GetNum.l0]
    rw [e, er, if_pos (by omega), if_pos (by omega), if_pos (by omega), w64 (x := gv l (p + (d + 1 : Nat)) (size.toNat - (d + 1)) * 256) (by omega) (by omega),
      w64 (x := gv l (p + (d + 1 : Nat)) (size.toNat - (d + 1)) * 256 + rd l (p + d)) (by omega) (by omega), ← hs', w64 (x := (d : Int) - 1) (by omega) (by omega)]
    by_cases h8 : d = 7
    · subst h8
      have h9 : size.toNat = 8 := by omega
      have h10 := gv_top hl p
      rw [h9] at hG
      rw [if_pos (by omega), if_neg (by push_cast; omega)]
    · rw [if_neg (by omega)]
theorem spec_GetNum_f (l : List Int) (hl : IsBytes l) (hn : l.length ≤ 1048576) (p size : Int) (h0 : -9223372036854775808 ≤ p) (h1 : p ≤ 9223372036854775807) : Ev (fun k => spec_GetNum.f k l p size) (gn l p size) := by
  unfold spec_GetNum.f
  by_cases s1 : size < 1
  · refine ev_pos s1 (Ev.step (f := fun _ => some (0, false)) (fun k => by simp only [spec_GetNum.j0, if_true]) ?_)
    rw [gn, if_neg (fun h => by have := h.1.1; omega)]
    exact Ev.now _
  refine ev_neg s1 ?_
  by_cases s2 : size > 8
  · refine ev_pos s2 (Ev.step (f := fun _ => some (0, false)) (fun k => by simp only [spec_GetNum.j0, if_true]) ?_)
    rw [gn, if_neg (fun h => by have := h.1.1; omega)]
    exact Ev.now _
  refine ev_neg s2 ?_
  by_cases s3 : p < 0
  · refine ev_pos s3 (Ev.step (f := fun _ => some (0, false)) (fun k => by simp only [spec_GetNum.j0, if_true]) ?_)
    rw [gn, if_neg (fun h => by have := h.1.2.1; omega)]
    exact Ev.now _
  refine ev_neg s3 ?_
  by_cases s4 : p > (l.length : Int)
  · refine ev_pos s4 (Ev.step (f := fun _ => some (0, false)) (fun k => by simp only [spec_GetNum.j0, if_true]) ?_)
    rw [gn, if_neg (fun h => by have := h.1.2.1; omega)]
    exact Ev.now _
  refine ev_neg s4 ?_
  have e : wrap64 ((l.length : Int) - p) = l.length - p := w64 (by omega) (by omega)
  by_cases s5 : size > l.length - p
  · refine Ev.step (f := fun _ => some (0, false)) (fun k => by simp only [spec_GetNum.j0]; rw [e, if_pos (decide_eq_true s5)]) ?_
    rw [gn, if_neg (fun h => by have := h.1.2.2; omega)]
    exact Ev.now _
  have ok : GnOk l p size := ⟨⟨by omega, by omega⟩, ⟨by omega, by omega⟩, by omega⟩
  refine Ev.step (f := fun k => spec_GetNum.l0 k l p 0 (size - 1)) (fun k => ?_) ?_
  · simp only [spec_GetNum.j0]
    rw [e, if_neg (by simpa using s5), w64 (x := size - 1) (by omega) (by omega)]
  by_cases hG : gv l p size.toNat < 9223372036854775808
  · rw [gn, if_pos ⟨ok, hG⟩]
    have := spec_GetNum_l l hl hn p size ok hG size.toNat (size - 1) (by omega) (by omega)
    rw [Nat.sub_self] at this
    exact this
  · rw [gn, if_neg (fun h => hG h.2)]
    have h8 := gv_high hl p size.toNat (by omega) hG
    obtain rfl : size = 8 := by omega
    have ht := (gv_top hl p).2 (by simpa using hG)
    have hb := rd_byte hl (p + 7)
    refine Ev.step (f := fun _ => some (0, false)) (fun k => ?_) (Ev.now _)
    simp only [spec_GetNum.l0]
    have e7 : wrap64 (p + (8 - 1)) = p + 7 := by rw [w64 (by omega) (by omega)]; omega
    rw [e7, if_pos (by omega), if_pos (by omega), if_pos (by omega), if_pos (by omega), if_pos (by rw [w64 (by omega) (by omega)]; exact ht)]
theorem impl_GetNum_l (l : List Int) (hl : IsBytes l) (hn : l.length ≤ 1048576) (p size : Int) (ok : GnOk l p size) (d : Nat) : ∀ (i : Int), i + 1 = d → d ≤ size →
    Ev (fun k => impl_GetNum.l0 k l p (gv l (p + d) (size.toNat - d)) i) (gn l p size) := by
  have ok' := ok
  obtain ⟨⟨s1, s2⟩, ⟨p1, p2⟩, hs⟩ := ok
  induction d with
  | zero =>
    intro i hi _
    refine Ev.step (f := fun _ => some (gn l p size)) (fun k => ?_) (Ev.now _)
    have e0 : gv l (p + ((0 : Nat) : Int)) (size.toNat - 0) = gv l p size.toNat := by simp
    have h := gv_eight hl size.toNat (by omega) p
    simp only [impl_GetNum.l0]
    rw [e0, if_neg (by omega)]
    by_cases hG : gv l p size.toNat < 9223372036854775808
    · have hgn : gn l p size = (gv l p size.toNat, true) := by rw [gn, if_pos ⟨ok', hG⟩]
      rw [hgn, if_neg (by omega), w64 (by omega) (by omega)]
    · have hgn : gn l p size = (0, false) := by rw [gn, if_neg (fun h => hG h.2)]
      rw [hgn, if_pos (by omega)]
  | succ d ih =>
    intro i hi hd
    have hid : i = d := by omega
    subst hid
    have e : wrap64 (p + d) = p + d := w64 (by omega) (by omega)
    have hb := rd_byte hl (p + d)
    have hs' := gv_step l p size.toNat d (by omega)
    have hg := gv_small hl (size.toNat - (d + 1)) (by omega) (p + (d + 1 : Nat))
    refine Ev.step (fun k => ?_) (ih ((d : Int) - 1) (by omega) (by omega))
    simp only [impl_GetNum.l0]
    rw [e, if_pos (by omega), if_pos (by omega), if_pos (by omega), u64_id (x := rd l (p + d)) (by omega) (by omega), u64_or hg.1 hg.2 hb.1 hb.2, w64 (x := (d : Int) - 1) (by omega) (by omega), hs', Int.mul_comm 256, Int.add_comm]
theorem impl_hasBytes_f (l : List Int) (hn : l.length ≤ 1048576) (p many : Int) : impl_hasBytes.f l p many = some (decide ((0 ≤ p ∧ p ≤ l.length) ∧ many ≤ l.length - p)) := by
  unfold impl_hasBytes.f
  rw [impl_within_f]
  simp only [Option.bind_some, decide_eq_true_eq]
  by_cases h : 0 ≤ p ∧ p ≤ l.length
  · rw [if_pos h, w64 (by omega) (by omega)]
    simp [h]
  · rw [if_neg h]
    simp [h]
theorem impl_GetNum_f (l : List Int) (hl : IsBytes l) (hn : l.length ≤ 1048576) (p size : Int) : Ev (fun k => impl_GetNum.f k l p size) (gn l p size) := by
  unfold impl_GetNum.f
  refine ev_bind0 (impl_within_f _ _ _) ?_
  by_cases s1 : 1 ≤ size ∧ size ≤ 8
  · refine ev_pos (decide_eq_true s1) ?_
    refine ev_bind0 (impl_hasBytes_f l hn p size) ?_
    by_cases s2 : (0 ≤ p ∧ p ≤ l.length) ∧ size ≤ l.length - p
    · have ok : GnOk l p size := ⟨s1, s2.1, s2.2⟩
      refine Ev.step (f := fun k => impl_GetNum.l0 k l p 0 (size - 1)) (fun k => ?_) ?_
      · simp only [impl_GetNum.j0]
        rw [if_neg (by simp [s2]), w64 (x := size - 1) (by omega) (by omega)]
      · have := impl_GetNum_l l hl hn p size ok size.toNat (size - 1) (by omega) (by omega)
        rw [Nat.sub_self] at this
        exact this
    · refine Ev.step (f := fun _ => some (0, false)) (fun k => by simp only [impl_GetNum.j0]; rw [if_pos (by simp only [decide_eq_false s2, Bool.not_false])]) ?_
      rw [gn, if_neg (fun h => s2 ⟨h.1.2.1, h.1.2.2⟩)]
      exact Ev.now _
  · refine ev_neg (by simpa using s1) ?_
    refine Ev.step (f := fun _ => some (0, false)) (fun k => by simp only [impl_GetNum.j0, if_true]) ?_
    rw [gn, if_neg (fun h => s1 h.1.1)]
    exact Ev.now _

theorem toByteS_l (l : List Int) (hn : l.length ≤ 1048576) (d : Nat) : ∀ (i : Nat) (y : List Int), i + d = l.length → y.length = l.length → (∀ j, j < i → y[j]? = l[j]?) → Ev (fun k => laws_toByteS.l0 k l y (i : Int)) l := by
  induction d with
  | zero =>
    intro i y hi hy hj
    refine Ev.step (f := fun _ => some l) (fun k => ?_) (Ev.now _)
    simp only [laws_toByteS.l0]
    rw [if_neg (by omega)]
    congr 1
    refine List.ext_getElem? fun j => ?_
    by_cases h : j < i
    · exact hj j h
    · rw [List.getElem?_eq_none (by omega), List.getElem?_eq_none (by omega)]
  | succ d ih =>
    intro i y hi hy hj
    refine Ev.step (f := fun k => laws_toByteS.l0 k l (y.set i (rd l i)) ((i + 1 : Nat) : Int)) (fun k => ?_) (ih (i + 1) _ (by omega) (by simp [hy]) ?_)
    · simp only [laws_toByteS.l0]
      rw [if_pos (by omega), if_pos (by omega), if_pos (by omega), w64 (by omega) (by omega)]
      simp
    · intro j hlt
      by_cases h : j = i
      · subst h
        rw [List.getElem?_set_self (by omega), rd_nat l j (by omega), List.getElem?_eq_getElem (by omega)]
      · rw [List.getElem?_set_ne (by omega)]
        exact hj j (by omega)
theorem toByteS_f (l : List Int) (hn : l.length ≤ 1048576) : Ev (fun k => laws_toByteS.f k l) l := by
  unfold laws_toByteS.f
  refine ev_pos (by omega) (ev_pos (by omega) ?_)
  exact toByteS_l l hn l.length 0 _ (by omega) (by simp) (by intro j h; omega)

theorem eqByteS_l (a b : List Int) (hn : a.length ≤ 1048576) (hab : a.length = b.length) (d : Nat) : ∀ (i : Nat), i + d = a.length → (∀ j, j < i → a[j]? = b[j]?) → Ev (fun k => laws_eqByteS.l0 k a b (i : Int)) (decide (a = b)) := by
  induction d with
  | zero =>
    intro i hi hj
    refine Ev.step (f := fun _ => some true) (fun k => ?_) ?_
    · simp only [laws_eqByteS.l0]
      rw [if_neg (by omega)]
    · have : a = b := by
        refine List.ext_getElem? fun j => ?_
        by_cases h : j < i
        · exact hj j h
        · rw [List.getElem?_eq_none (by omega), List.getElem?_eq_none (by omega)]
      rw [decide_eq_true this]
      exact Ev.now _
  | succ d ih =>
    intro i hi hj
    have ha : rd a (i : Int) = a[i]'(by omega) := rd_nat a i (by omega)
    have hb : rd b (i : Int) = b[i]'(by omega) := rd_nat b i (by omega)
    by_cases he : rd a (i : Int) = rd b (i : Int)
    · refine Ev.step (f := fun k => laws_eqByteS.l0 k a b ((i + 1 : Nat) : Int)) (fun k => ?_) (ih (i + 1) (by omega) ?_)
      · simp only [laws_eqByteS.l0]
        rw [if_pos (by omega), if_pos (by omega), if_pos (by omega), if_pos he, w64 (by omega) (by omega)]
        simp
      · intro j hlt
        by_cases h : j = i
        · subst h
          rw [List.getElem?_eq_getElem (by omega), List.getElem?_eq_getElem (by omega), ← ha, ← hb, he]
        · exact hj j (by omega)
    · refine Ev.step (f := fun _ => some false) (fun k => ?_) ?_
      · simp only [laws_eqByteS.l0]
        rw [if_pos (by omega), if_pos (by omega), if_pos (by omega), if_neg he]
      · have : ¬ a = b := by
          rintro rfl
          exact he rfl
        rw [decide_eq_false this]
        exact Ev.now _
theorem eqByteS_f (a b : List Int) (hn : a.length ≤ 1048576) : Ev (fun k => laws_eqByteS.f k a b) (decide (a = b)) := by
  unfold laws_eqByteS.f
  by_cases h : a.length = b.length
  · refine ev_pos (by omega) ?_
    exact eqByteS_l a b hn h a.length 0 (by omega) (by intro j h; omega)
  · refine ev_neg (by omega) ?_
    rw [decide_eq_false (by rintro rfl; exact h rfl)]
    exact Ev.now _
theorem eqByteS_same (a : List Int) (hn : a.length ≤ 1048576) : Ev (fun k => laws_eqByteS.f k a a) true := by
  have := eqByteS_f a a hn
  rwa [decide_eq_true rfl] at this

theorem main : laws_FnExactGetNum.Pure := by
  intro l p size _ _ hw wp ws
  have hl := isBytes_of hw
  have hp : -9223372036854775808 ≤ p ∧ p ≤ 9223372036854775807 := by simpa [Lit.wf, IntKind.min, IntKind.max, IntKind.signed, IntKind.bits] using wp
  refine Ev.rounds ?_
  unfold laws_FnExactGetNum.f
  by_cases hb : (l.length : Int) > 1048576
  · exact ev_pos hb (Ev.now _)
  have hn : l.length ≤ 1048576 := by omega
  refine ev_neg hb ?_
  refine Ev.bind (toByteS_f l hn) ?_
  refine Ev.bind (spec_GetNum_f l hl hn p size hp.1 hp.2) ?_
  refine Ev.bind (toByteS_f l hn) ?_
  refine Ev.bind (impl_GetNum_f l hl hn p size) ?_
  refine ev_pos rfl ?_
  refine Ev.step (fun k => by simp only [laws_FnExactGetNum.j0]; rw [if_neg (by simp)]) ?_
  refine Ev.bind (toByteS_f l hn) ?_
  refine Ev.bind (eqByteS_same l hn) ?_
  exact ev_pos rfl (Ev.now _)

end Go.Proofs.Ytkgljbddpbgdgaa.Pure.ofFnExactGetNum
namespace Go.Proofs.Ytkgljbddpbgdgaa.PrintWords
/-- The word that the printed row asks for, under the name by which it asks. -/
abbrev sized_ints := @Go.Proofs.YtkgljbddpbgdgaaW.PrintWords.sized_ints
end Go.Proofs.Ytkgljbddpbgdgaa.PrintWords
namespace Go.Proofs.Ytkgljbddpbgdgaa.Pure
open Go.Proofs.Ytkgljbddpbgdgaa.PFnExactGetNum
theorem FnExactGetNum : laws_FnExactGetNum.Pure := ofFnExactGetNum.main
end Go.Proofs.Ytkgljbddpbgdgaa.Pure

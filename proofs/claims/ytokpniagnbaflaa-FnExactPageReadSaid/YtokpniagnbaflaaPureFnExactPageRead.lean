/-
The law FnExactPageRead answers true: for all bytes the program's PageRead gives the reference's page, in new memory each time, and the bytes stay as they were.
Conditions: none beyond the bounds of the statement itself.
-/
import Derived.Test.YtokpniagnbaflaaPFnExactPageReadx8
import Derived.Test.YtokpniagnbaflaaWSized
set_option linter.unusedVariables false
set_option linter.unusedSimpArgs false
namespace Go.Proofs.Ytokpniagnbaflaa.Pure.ofFnExactPageRead
open Go.RowKit Go.Proofs.Ytokpniagnbaflaa.PFnExactPageRead Go.Proofs.YtokpniagnbaflaaW.PrintWords Go.Proofs.YtokpniagnbaflaaW.PrintLast Go.Proofs.YtokpniagnbaflaaW.PrintMore

theorem ev_pos {α : Type} {c : Prop} [Decidable c] {A B : Nat → Option α} {r : α} (hc : c) (h : Ev A r) : Ev (fun k => if c then A k else B k) r := by
  refine Ev.congr (fun k => ?_) h
  rw [if_pos hc]
theorem ev_neg {α : Type} {c : Prop} [Decidable c] {A B : Nat → Option α} {r : α} (hc : ¬ c) (h : Ev B r) : Ev (fun k => if c then A k else B k) r := by
  refine Ev.congr (fun k => ?_) h
  rw [if_neg hc]
theorem ev_bind0 {α β : Type} {g : Option α} {f : Nat → α → Option β} {a : α} {r : β} (h : g = some a) (k : Ev (fun n => f n a) r) : Ev (fun n => g.bind (f n)) r := by
  refine Ev.congr (fun n => ?_) k
  rw [h]; rfl
theorem w64 {x : Int} (h0 : -9223372036854775808 ≤ x) (h1 : x ≤ 9223372036854775807) : wrap64 x = x := by
  unfold wrap64; omega
theorem rd_cons (x : Int) (l : List Int) : rd (x :: l) 0 = x := rfl
theorem rd_nat (l : List Int) (i : Nat) (h : i < l.length) : rd l (i : Int) = l[i] := by
  simp [rd, List.getD_eq_getElem?_getD, List.getElem?_eq_getElem h]
theorem rd_at (l : List Int) (i : Int) (h0 : 0 ≤ i) (h : i < l.length) : ∃ x, x ∈ l ∧ rd l i = x := by
  obtain ⟨n, rfl⟩ := Int.eq_ofNat_of_zero_le h0
  exact ⟨l[n]'(by omega), List.getElem_mem _, rd_nat l n (by omega)⟩
def marks (m : Int) : Nat → List Int
  | 0 => []
  | n + 1 => m :: marks (m + 1) n
def marksB (m : Int) : Nat → List Int
  | 0 => []
  | n + 1 => (m % 256) :: marksB (m + 1) n
theorem marks_length (n : Nat) : ∀ m, (marks m n).length = n := by
  induction n with
  | zero => intro m; rfl
  | succ n ih => intro m; simp [marks, ih]
theorem marksB_length (n : Nat) : ∀ m, (marksB m n).length = n := by
  induction n with
  | zero => intro m; rfl
  | succ n ih => intro m; simp [marksB, ih]
theorem marks_get (n : Nat) : ∀ m (i : Nat) (h : i < (marks m n).length), (marks m n)[i] = m + i := by
  induction n with
  | zero => intro m i h; simp [marks] at h
  | succ n ih =>
    intro m i h
    cases i with
    | zero => simp [marks]
    | succ i => simp only [marks, List.getElem_cons_succ]; rw [ih]; push_cast; omega
theorem marksB_get (n : Nat) : ∀ m (i : Nat) (h : i < (marksB m n).length), (marksB m n)[i] = (m + i) % 256 := by
  induction n with
  | zero => intro m i h; simp [marksB] at h
  | succ n ih =>
    intro m i h
    cases i with
    | zero => simp [marksB]
    | succ i => simp only [marksB, List.getElem_cons_succ]; rw [ih]; push_cast; omega


theorem impl_within_f (a b c : Int) : impl_within.f a b c = some (decide (b ≤ a ∧ a ≤ c)) := by
  unfold impl_within.f
  by_cases h : b ≤ a <;> simp [h]


theorem spec_l5in_f (a b c : Int) : spec_l5in.f a b c = some (decide (b ≤ a ∧ a ≤ c)) := by
  unfold spec_l5in.f
  by_cases h : b ≤ a <;> simp [h]


def IsBytes (l : List Int) : Prop := ∀ x ∈ l, 0 ≤ x ∧ x ≤ 255
theorem isBytes_of {l : List Int} (h : ∀ x ∈ l, (Lit.int .u8 x).wf = true) : IsBytes l := by
  intro x hx
  have := h x hx
  simpa [Lit.wf, IntKind.min, IntKind.max, IntKind.signed, IntKind.bits] using this
theorem rd_byte {l : List Int} (h : IsBytes l) (i : Int) : 0 ≤ rd l i ∧ rd l i ≤ 255 := by
  by_cases hi : i.toNat < l.length
  · have : rd l i = l[i.toNat] := by simp [rd, List.getD_eq_getElem?_getD, List.getElem?_eq_getElem hi]
    rw [this]
    exact h _ (List.getElem_mem _)
  · have : rd l i = 0 := by simp [rd, List.getD_eq_getElem?_getD, List.getElem?_eq_none (by omega : l.length ≤ i.toNat)]
    omega


/-- the number of d bytes from p on, low first -/
def gv (l : List Int) (p : Int) : Nat → Int
  | 0 => 0
  | d + 1 => rd l p + 256 * gv l (p + 1) d
theorem gv_range {l : List Int} (h : IsBytes l) (d : Nat) : ∀ p, 0 ≤ gv l p d ∧ gv l p d < 256 ^ d := by
  induction d with
  | zero => intro p; simp [gv]
  | succ d ih =>
    intro p
    have h1 := ih (p + 1)
    have h2 := rd_byte h p
    simp only [gv]
    rw [Int.pow_succ]
    constructor
    · omega
    · have : gv l (p + 1) d + 1 ≤ 256 ^ d := h1.2
      omega
theorem gv_small {l : List Int} (h : IsBytes l) (d : Nat) (hd : d ≤ 7) (p : Int) : 0 ≤ gv l p d ∧ gv l p d < 72057594037927936 := by
  refine ⟨(gv_range h d p).1, Int.lt_of_lt_of_le (gv_range h d p).2 ?_⟩
  have : d = 0 ∨ d = 1 ∨ d = 2 ∨ d = 3 ∨ d = 4 ∨ d = 5 ∨ d = 6 ∨ d = 7 := by omega
  rcases this with rfl | rfl | rfl | rfl | rfl | rfl | rfl | rfl <;> decide
theorem gv_eight {l : List Int} (h : IsBytes l) (d : Nat) (hd : d ≤ 8) (p : Int) : 0 ≤ gv l p d ∧ gv l p d < 18446744073709551616 := by
  refine ⟨(gv_range h d p).1, Int.lt_of_lt_of_le (gv_range h d p).2 ?_⟩
  have : d = 0 ∨ d = 1 ∨ d = 2 ∨ d = 3 ∨ d = 4 ∨ d = 5 ∨ d = 6 ∨ d = 7 ∨ d = 8 := by omega
  rcases this with rfl | rfl | rfl | rfl | rfl | rfl | rfl | rfl | rfl <;> decide
def GnOk (l : List Int) (at_ size : Int) : Prop := (1 ≤ size ∧ size ≤ 8) ∧ (0 ≤ at_ ∧ at_ ≤ l.length) ∧ size ≤ l.length - at_
instance (l : List Int) (at_ size : Int) : Decidable (GnOk l at_ size) := by unfold GnOk; infer_instance
def gn (l : List Int) (at_ size : Int) : Int × Bool := if GnOk l at_ size ∧ gv l at_ size.toNat < 9223372036854775808 then (gv l at_ size.toNat, true) else (0, false)
theorem u64_or {x y : Int} (h0 : 0 ≤ x) (h1 : x < 72057594037927936) (h2 : 0 ≤ y) (h3 : y ≤ 255) : Go.bits .or .u64 (IntKind.u64.wrap (x * 256)) y = y + 256 * x := by
  have e : IntKind.u64.wrap (x * 256) = x * 256 := by simp [IntKind.wrap, IntKind.bits, IntKind.signed]; omega
  rw [e, bits_join .u64 64 (by decide) (fun n a b => by simp [IntKind.wrap, IntKind.bits, IntKind.signed]; omega) 8 (x * 256) y (by omega) (by simp) (by omega) h2 (by omega) (by omega)]
  omega
theorem u64_id {x : Int} (h0 : 0 ≤ x) (h1 : x < 18446744073709551616) : IntKind.u64.wrap x = x := by simp [IntKind.wrap, IntKind.bits, IntKind.signed]; omega
theorem gv_le {l : List Int} (h : IsBytes l) (p : Int) (n : Nat) (d : Nat) : d ≤ n → gv l (p + d) (n - d) ≤ gv l p n := by
  induction d with
  | zero => intro _; simp
  | succ d ih =>
    intro hd
    refine Int.le_trans ?_ (ih (by omega))
    rw [show n - d = (n - (d + 1)) + 1 by omega]
    have h1 := (gv_range h (n - (d + 1)) (p + (d : Int) + 1)).1
    have h2 := rd_byte h (p + d)
    simp only [gv]
    rw [show p + ((d + 1 : Nat) : Int) = p + (d : Int) + 1 by omega]
    omega
theorem gv_top {l : List Int} (h : IsBytes l) (p : Int) : rd l (p + 7) > 127 ↔ 9223372036854775808 ≤ gv l p 8 := by
  have h0 := rd_byte h p
  have h1 := rd_byte h (p + 1)
  have h2 := rd_byte h (p + 1 + 1)
  have h3 := rd_byte h (p + 1 + 1 + 1)
  have h4 := rd_byte h (p + 1 + 1 + 1 + 1)
  have h5 := rd_byte h (p + 1 + 1 + 1 + 1 + 1)
  have h6 := rd_byte h (p + 1 + 1 + 1 + 1 + 1 + 1)
  have h7 := rd_byte h (p + 1 + 1 + 1 + 1 + 1 + 1 + 1)
  have e : p + 7 = p + 1 + 1 + 1 + 1 + 1 + 1 + 1 := by omega
  rw [e]
  simp only [gv]
  omega
theorem gv_step (l : List Int) (p : Int) (n d : Nat) (hd : d < n) : gv l (p + d) (n - d) = gv l (p + (d + 1 : Nat)) (n - (d + 1)) * 256 + rd l (p + d) := by
  rw [show n - d = (n - (d + 1)) + 1 by omega]
  simp only [gv]
  rw [show p + (d : Int) + 1 = p + (d + 1 : Nat) by omega]
  omega
theorem gv_high {l : List Int} (hl : IsBytes l) (p : Int) (n : Nat) (hn : n ≤ 8) (hG : ¬ gv l p n < 9223372036854775808) : n = 8 := by
  by_cases h : n = 8
  · exact h
  · have := gv_small hl n (by omega) p
    omega
theorem spec_GetNum_l (l : List Int) (hl : IsBytes l) (hn : l.length ≤ 1048576) (p size : Int) (ok : GnOk l p size) (hG : gv l p size.toNat < 9223372036854775808) (d : Nat) : ∀ (i : Int), i + 1 = d → d ≤ size →
    Ev (fun k => spec_GetNum.l0 k l p (gv l (p + d) (size.toNat - d)) i) (gv l p size.toNat, true) := by
  obtain ⟨⟨s1, s2⟩, ⟨p1, p2⟩, hs⟩ := ok
  induction d with
  | zero =>
    intro i hi _
    refine Ev.step (f := fun _ => some (gv l p size.toNat, true)) (fun k => ?_) (Ev.now _)
    simp only [spec_GetNum.l0]
    rw [if_neg (by omega)]
    simp
  | succ d ih =>
    intro i hi hd
    have hid : i = d := by omega
    subst hid
    have e : wrap64 (p + d) = p + d := w64 (by omega) (by omega)
    have hb := rd_byte hl (p + d)
    have hm := gv_le hl p size.toNat d (by omega)
    have hs' := gv_step l p size.toNat d (by omega)
    have hg := (gv_range hl (size.toNat - (d + 1)) (p + (d + 1 : Nat))).1
    have er : wrap64 (rd l (p + d)) = rd l (p + d) := w64 (by omega) (by omega)
    refine Ev.step (fun k => ?_) (ih ((d : Int) - 1) (by omega) (by omega))
    simp only [spec_GetNum.l0]
    rw [e, er, if_pos (by omega), if_pos (by omega), if_pos (by omega), w64 (x := gv l (p + (d + 1 : Nat)) (size.toNat - (d + 1)) * 256) (by omega) (by omega),
      w64 (x := gv l (p + (d + 1 : Nat)) (size.toNat - (d + 1)) * 256 + rd l (p + d)) (by omega) (by omega), ← hs', w64 (x := (d : Int) - 1) (by omega) (by omega)]
    by_cases h8 : d = 7
    · subst h8
      have h9 : size.toNat = 8 := by omega
      have h10 := gv_top hl p
      rw [h9] at hG
      rw [if_pos (by omega), if_neg (by push_cast; omega)]
    · rw [if_neg (by omega)]
theorem spec_GetNum_f (l : List Int) (hl : IsBytes l) (hn : l.length ≤ 1048576) (p size : Int) (h0 : -9223372036854775808 ≤ p) (h1 : p ≤ 9223372036854775807) : Ev (fun k => spec_GetNum.f k l p size) (gn l p size) := by
  unfold spec_GetNum.f
  by_cases s1 : size < 1
  · refine ev_pos s1 (Ev.step (f := fun _ => some (0, false)) (fun k => by simp only [spec_GetNum.j0, if_true]) ?_)
    rw [gn, if_neg (fun h => by have := h.1.1; omega)]
    exact Ev.now _
  refine ev_neg s1 ?_
  by_cases s2 : size > 8
  · refine ev_pos s2 (Ev.step (f := fun _ => some (0, false)) (fun k => by simp only [spec_GetNum.j0, if_true]) ?_)
    rw [gn, if_neg (fun h => by have := h.1.1; omega)]
    exact Ev.now _
  refine ev_neg s2 ?_
  by_cases s3 : p < 0
  · refine ev_pos s3 (Ev.step (f := fun _ => some (0, false)) (fun k => by simp only [spec_GetNum.j0, if_true]) ?_)
    rw [gn, if_neg (fun h => by have := h.1.2.1; omega)]
    exact Ev.now _
  refine ev_neg s3 ?_
  by_cases s4 : p > (l.length : Int)
  · refine ev_pos s4 (Ev.step (f := fun _ => some (0, false)) (fun k => by simp only [spec_GetNum.j0, if_true]) ?_)
    rw [gn, if_neg (fun h => by have := h.1.2.1; omega)]
    exact Ev.now _
  refine ev_neg s4 ?_
  have e : wrap64 ((l.length : Int) - p) = l.length - p := w64 (by omega) (by omega)
  by_cases s5 : size > l.length - p
  · refine Ev.step (f := fun _ => some (0, false)) (fun k => by simp only [spec_GetNum.j0]; rw [e, if_pos (decide_eq_true s5)]) ?_
    rw [gn, if_neg (fun h => by have := h.1.2.2; omega)]
    exact Ev.now _
  have ok : GnOk l p size := ⟨⟨by omega, by omega⟩, ⟨by omega, by omega⟩, by omega⟩
  refine Ev.step (f := fun k => spec_GetNum.l0 k l p 0 (size - 1)) (fun k => ?_) ?_
  · simp only [spec_GetNum.j0]
    rw [e, if_neg (by simpa using s5), w64 (x := size - 1) (by omega) (by omega)]
  by_cases hG : gv l p size.toNat < 9223372036854775808
  · rw [gn, if_pos ⟨ok, hG⟩]
    have := spec_GetNum_l l hl hn p size ok hG size.toNat (size - 1) (by omega) (by omega)
    rw [Nat.sub_self] at this
    exact this
  · rw [gn, if_neg (fun h => hG h.2)]
    have h8 := gv_high hl p size.toNat (by omega) hG
    obtain rfl : size = 8 := by omega
    have ht := (gv_top hl p).2 (by simpa using hG)
    have hb := rd_byte hl (p + 7)
    refine Ev.step (f := fun _ => some (0, false)) (fun k => ?_) (Ev.now _)
    simp only [spec_GetNum.l0]
    have e7 : wrap64 (p + (8 - 1)) = p + 7 := by rw [w64 (by omega) (by omega)]; omega
    rw [e7, if_pos (by omega), if_pos (by omega), if_pos (by omega), if_pos (by omega), if_pos (by rw [w64 (by omega) (by omega)]; exact ht)]
theorem impl_GetNum_l (l : List Int) (hl : IsBytes l) (hn : l.length ≤ 1048576) (p size : Int) (ok : GnOk l p size) (d : Nat) : ∀ (i : Int), i + 1 = d → d ≤ size →
    Ev (fun k => impl_GetNum.l0 k l p (gv l (p + d) (size.toNat - d)) i) (gn l p size) := by
  have ok' := ok
  obtain ⟨⟨s1, s2⟩, ⟨p1, p2⟩, hs⟩ := ok
  induction d with
  | zero =>
    intro i hi _
    refine Ev.step (f := fun _ => some (gn l p size)) (fun k => ?_) (Ev.now _)
    have e0 : gv l (p + ((0 : Nat) : Int)) (size.toNat - 0) = gv l p size.toNat := by simp
    have h := gv_eight hl size.toNat (by omega) p
    simp only [impl_GetNum.l0]
    rw [e0, if_neg (by omega)]
    by_cases hG : gv l p size.toNat < 9223372036854775808
    · have hgn : gn l p size = (gv l p size.toNat, true) := by rw [gn, if_pos ⟨ok', hG⟩]
      rw [hgn, if_neg (by omega), w64 (by omega) (by omega)]
    · have hgn : gn l p size = (0, false) := by rw [gn, if_neg (fun h => hG h.2)]
      rw [hgn, if_pos (by omega)]
  | succ d ih =>
    intro i hi hd
    have hid : i = d := by omega
    subst hid
    have e : wrap64 (p + d) = p + d := w64 (by omega) (by omega)
    have hb := rd_byte hl (p + d)
    have hs' := gv_step l p size.toNat d (by omega)
    have hg := gv_small hl (size.toNat - (d + 1)) (by omega) (p + (d + 1 : Nat))
    refine Ev.step (fun k => ?_) (ih ((d : Int) - 1) (by omega) (by omega))
    simp only [impl_GetNum.l0]
    rw [e, if_pos (by omega), if_pos (by omega), if_pos (by omega), u64_id (x := rd l (p + d)) (by omega) (by omega), u64_or hg.1 hg.2 hb.1 hb.2, w64 (x := (d : Int) - 1) (by omega) (by omega), hs', Int.mul_comm 256, Int.add_comm]
theorem impl_hasBytes_f (l : List Int) (hn : l.length ≤ 1048576) (p many : Int) : impl_hasBytes.f l p many = some (decide ((0 ≤ p ∧ p ≤ l.length) ∧ many ≤ l.length - p)) := by
  unfold impl_hasBytes.f
  rw [impl_within_f]
  simp only [Option.bind_some, decide_eq_true_eq]
  by_cases h : 0 ≤ p ∧ p ≤ l.length
  · rw [if_pos h, w64 (by omega) (by omega)]
    simp [h]
  · rw [if_neg h]
    simp [h]
theorem impl_GetNum_f (l : List Int) (hl : IsBytes l) (hn : l.length ≤ 1048576) (p size : Int) : Ev (fun k => impl_GetNum.f k l p size) (gn l p size) := by
  unfold impl_GetNum.f
  refine ev_bind0 (impl_within_f _ _ _) ?_
  by_cases s1 : 1 ≤ size ∧ size ≤ 8
  · refine ev_pos (decide_eq_true s1) ?_
    refine ev_bind0 (impl_hasBytes_f l hn p size) ?_
    by_cases s2 : (0 ≤ p ∧ p ≤ l.length) ∧ size ≤ l.length - p
    · have ok : GnOk l p size := ⟨s1, s2.1, s2.2⟩
      refine Ev.step (f := fun k => impl_GetNum.l0 k l p 0 (size - 1)) (fun k => ?_) ?_
      · simp only [impl_GetNum.j0]
        rw [if_neg (by simp [s2]), w64 (x := size - 1) (by omega) (by omega)]
      · have := impl_GetNum_l l hl hn p size ok size.toNat (size - 1) (by omega) (by omega)
        rw [Nat.sub_self] at this
        exact this
    · refine Ev.step (f := fun _ => some (0, false)) (fun k => by simp only [impl_GetNum.j0]; rw [if_pos (by simp only [decide_eq_false s2, Bool.not_false])]) ?_
      rw [gn, if_neg (fun h => s2 ⟨h.1.2.1, h.1.2.2⟩)]
      exact Ev.now _
  · refine ev_neg (by simpa using s1) ?_
    refine Ev.step (f := fun _ => some (0, false)) (fun k => by simp only [impl_GetNum.j0, if_true]) ?_
    rw [gn, if_neg (fun h => s1 h.1.1)]
    exact Ev.now _


theorem cloneByte_f (l : List Int) (hn : l.length ≤ 1048576) : slices_Clone_byte_byte.f l = some l := by
  unfold slices_Clone_byte_byte.f
  simp only [Option.bind_some, List.nil_append, List.length_nil]
  rw [if_pos (by omega)]


/-- a number as d bytes, low first -/
def le (n : Int) : Nat → List Int
  | 0 => []
  | d + 1 => (n % 256) :: le (n / 256) d
theorem le_length (d : Nat) : ∀ n, (le n d).length = d := by
  induction d with
  | zero => intro n; rfl
  | succ d ih => intro n; simp [le, ih]
theorem le_bytes (d : Nat) : ∀ n, ∀ x ∈ le n d, 0 ≤ x ∧ x ≤ 255 := by
  induction d with
  | zero => intro n x hx; simp [le] at hx
  | succ d ih =>
    intro n x hx
    simp only [le, List.mem_cons] at hx
    rcases hx with rfl | hx
    · omega
    · exact ih _ x hx
def PnOk (n size : Int) : Prop := (1 ≤ size ∧ size ≤ 8) ∧ 0 ≤ n ∧ n / 256 ^ size.toNat = 0
instance (n size : Int) : Decidable (PnOk n size) := by unfold PnOk; infer_instance
def pn (n size : Int) : List Int := if PnOk n size then le n size.toNat else []
theorem pow256 (d : Nat) (n : Int) : n / 256 / 256 ^ d = n / 256 ^ (d + 1) := by
  rw [Int.pow_succ, Int.mul_comm, Int.ediv_ediv_of_nonneg (by decide)]
theorem spec_PutNum_l (size : Int) (hs : size ≤ 8) (d : Nat) : ∀ (n i : Int) (out : List Int), 0 ≤ n → n ≤ 9223372036854775807 → 0 ≤ i → i + d = size → out.length ≤ 100 - d →
    Ev (fun k => spec_PutNum.l0 k n size out i) (if n / 256 ^ d > 0 then [] else out ++ le n d) := by
  induction d with
  | zero =>
    intro n i out h0 h1 hi he ho
    refine Ev.step (f := fun _ => some (if n / 256 ^ 0 > 0 then [] else out ++ le n 0)) (fun k => ?_) (Ev.now _)
    simp only [spec_PutNum.l0]
    rw [if_neg (by omega)]
    by_cases hn : n > 0
    · rw [if_pos hn, if_pos (by simpa using hn)]
    · rw [if_neg hn, if_neg (by simpa using hn)]
      simp [le]
  | succ d ih =>
    intro n i out h0 h1 hi he ho
    have hq : Int.tdiv n 256 = n / 256 := Int.tdiv_eq_ediv_of_nonneg h0
    have hm : Int.tmod n 256 = n % 256 := Int.tmod_eq_emod_of_nonneg h0
    have := ih (n / 256) (i + 1) (out ++ [n % 256]) (by omega) (by omega) (by omega) (by omega) (by simp; omega)
    rw [pow256] at this
    simp only [List.append_assoc, List.cons_append, List.nil_append] at this
    refine Ev.step (fun k => ?_) this
    simp only [spec_PutNum.l0]
    rw [if_pos (by omega), if_pos (by omega), hq, hm, w64 (by omega) (by omega), w64 (by omega) (by omega), show n % 256 % 256 = n % 256 by omega]
theorem impl_PutNum_l (size : Int) (hs : size ≤ 8) (d : Nat) : ∀ (n i : Int) (out : List Int), 0 ≤ i → i + d = size → out.length ≤ 100 - d →
    Ev (fun k => impl_PutNum.l0 k n out size i) (out ++ le n d) := by
  induction d with
  | zero =>
    intro n i out hi he ho
    refine Ev.step (f := fun _ => some (out ++ le n 0)) (fun k => ?_) (Ev.now _)
    simp only [impl_PutNum.l0]
    rw [if_neg (by omega)]
    simp [le]
  | succ d ih =>
    intro n i out hi he ho
    have := ih (n / 256) (i + 1) (out ++ [n % 256]) (by omega) (by omega) (by simp; omega)
    simp only [List.append_assoc, List.cons_append, List.nil_append] at this
    refine Ev.step (fun k => ?_) this
    simp only [impl_PutNum.l0]
    rw [if_pos (by omega), if_pos (by omega), w64 (by omega) (by omega)]
theorem pn_off (n size : Int) (h : ¬ PnOk n size) : pn n size = [] := by rw [pn, if_neg h]
theorem div_small (n : Int) (d : Nat) (h0 : 0 ≤ n) : ¬ n / 256 ^ d > 0 ↔ n / 256 ^ d = 0 := by
  have : 0 ≤ n / 256 ^ d := Int.ediv_nonneg h0 (Int.le_of_lt (Int.pow_pos (by decide)))
  omega
theorem spec_PutNum_f (n size : Int) (h1 : n ≤ 9223372036854775807) : Ev (fun k => spec_PutNum.f k n size) (pn n size) := by
  unfold spec_PutNum.f
  by_cases s1 : size < 1
  · refine ev_pos s1 (Ev.step (f := fun _ => some []) (fun k => by simp only [spec_PutNum.j0, if_true]) ?_)
    rw [pn_off n size (fun h => by have := h.1; omega)]
    exact Ev.now _
  refine ev_neg s1 ?_
  by_cases s2 : size > 8
  · refine ev_pos s2 (Ev.step (f := fun _ => some []) (fun k => by simp only [spec_PutNum.j0, if_true]) ?_)
    rw [pn_off n size (fun h => by have := h.1; omega)]
    exact Ev.now _
  refine ev_neg s2 ?_
  by_cases s3 : n < 0
  · refine Ev.step (f := fun _ => some []) (fun k => by simp only [spec_PutNum.j0]; rw [if_pos (decide_eq_true s3)]) ?_
    rw [pn_off n size (fun h => by have := h.2.1; omega)]
    exact Ev.now _
  refine Ev.step (f := fun k => spec_PutNum.l0 k n size [] 0) (fun k => by simp only [spec_PutNum.j0]; rw [if_neg (by simpa using s3)]) ?_
  have := spec_PutNum_l size (by omega) size.toNat n 0 [] (by omega) h1 (by omega) (by omega) (by simp)
  by_cases hz : n / 256 ^ size.toNat > 0
  · rw [if_pos hz] at this
    rw [pn_off n size (fun h => by have := h.2.2; omega)]
    exact this
  · rw [if_neg hz] at this
    rw [pn, if_pos ⟨⟨by omega, by omega⟩, by omega, (div_small n _ (by omega)).1 hz⟩]
    exact this
theorem shr_pow (n size : Int) (h1 : 1 ≤ size) (h2 : size < 8) : shr .i64 n (wrap64 (8 * size)) = n / 256 ^ size.toNat := by
  rw [w64 (by omega) (by omega)]
  unfold shr
  rw [Nat.min_eq_left (by simp [IntKind.bits]; omega)]
  obtain ⟨m, rfl⟩ := Int.eq_ofNat_of_zero_le (show 0 ≤ size by omega)
  have : (8 * (m : Int)).toNat = 8 * m := by omega
  rw [this, Int.toNat_natCast, Int.pow_mul]
  rfl
theorem impl_PutNum_f (n size : Int) (h1 : n ≤ 9223372036854775807) : Ev (fun k => impl_PutNum.f k n size) (pn n size) := by
  unfold impl_PutNum.f
  refine ev_bind0 (impl_within_f _ _ _) ?_
  by_cases s1 : 1 ≤ size ∧ size ≤ 8
  · refine ev_pos (decide_eq_true s1) ?_
    by_cases s2 : n < 0
    · refine ev_pos s2 (Ev.step (f := fun _ => some []) (fun k => by simp only [impl_PutNum.j0, if_true]) ?_)
      rw [pn_off n size (fun h => by have := h.2.1; omega)]
      exact Ev.now _
    refine ev_neg s2 ?_
    have hl := impl_PutNum_l size (by omega) size.toNat n 0 [] (by omega) (by omega) (by simp)
    by_cases s3 : size < 8
    · refine ev_pos s3 (ev_pos (by rw [w64 (by omega) (by omega)]; omega) ?_)
      rw [shr_pow n size s1.1 s3]
      by_cases hz : n / 256 ^ size.toNat = 0
      · refine Ev.step (f := fun k => impl_PutNum.l0 k n [] size 0) (fun k => by simp only [impl_PutNum.j0]; rw [if_neg (by simp [hz])]) ?_
        rw [pn, if_pos ⟨s1, by omega, hz⟩]
        exact hl
      · refine Ev.step (f := fun _ => some []) (fun k => by simp only [impl_PutNum.j0]; rw [if_pos (by simp [hz])]) ?_
        rw [pn_off n size (fun h => hz h.2.2)]
        exact Ev.now _
    · refine ev_neg s3 ?_
      obtain rfl : size = 8 := by omega
      refine Ev.step (f := fun k => impl_PutNum.l0 k n [] 8 0) (fun k => by simp only [impl_PutNum.j0, Bool.false_eq_true, if_false]) ?_
      have hz : n / 256 ^ (8 : Int).toNat = 0 := by
        have : (256 : Int) ^ (8 : Int).toNat = 18446744073709551616 := by decide
        rw [this]; omega
      rw [pn, if_pos ⟨s1, by omega, hz⟩]
      exact hl
  · refine ev_neg (by simpa using s1) (Ev.step (f := fun _ => some []) (fun k => by simp only [impl_PutNum.j0, if_true]) ?_)
    rw [pn_off n size (fun h => s1 h.1)]
    exact Ev.now _
theorem pn_length (n size : Int) : (pn n size).length ≤ 8 := by
  unfold pn
  split
  · rename_i h
    rw [le_length]
    have := h.1
    omega
  · simp


theorem toByteS_l (l : List Int) (hn : l.length ≤ 1048576) (d : Nat) : ∀ (i : Nat) (y : List Int), i + d = l.length → y.length = l.length → (∀ j, j < i → y[j]? = l[j]?) → Ev (fun k => laws_toByteS.l0 k l y (i : Int)) l := by
  induction d with
  | zero =>
    intro i y hi hy hj
    refine Ev.step (f := fun _ => some l) (fun k => ?_) (Ev.now _)
    simp only [laws_toByteS.l0]
    rw [if_neg (by omega)]
    congr 1
    refine List.ext_getElem? fun j => ?_
    by_cases h : j < i
    · exact hj j h
    · rw [List.getElem?_eq_none (by omega), List.getElem?_eq_none (by omega)]
  | succ d ih =>
    intro i y hi hy hj
    refine Ev.step (f := fun k => laws_toByteS.l0 k l (y.set i (rd l i)) ((i + 1 : Nat) : Int)) (fun k => ?_) (ih (i + 1) _ (by omega) (by simp [hy]) ?_)
    · simp only [laws_toByteS.l0]
      rw [if_pos (by omega), if_pos (by omega), if_pos (by omega), w64 (by omega) (by omega)]
      simp
    · intro j hlt
      by_cases h : j = i
      · subst h
        rw [List.getElem?_set_self (by omega), rd_nat l j (by omega), List.getElem?_eq_getElem (by omega)]
      · rw [List.getElem?_set_ne (by omega)]
        exact hj j (by omega)
theorem toByteS_f (l : List Int) (hn : l.length ≤ 1048576) : Ev (fun k => laws_toByteS.f k l) l := by
  unfold laws_toByteS.f
  refine ev_pos (by omega) (ev_pos (by omega) ?_)
  exact toByteS_l l hn l.length 0 _ (by omega) (by simp) (by intro j h; omega)


theorem eqByteS_l (a b : List Int) (hn : a.length ≤ 1048576) (hab : a.length = b.length) (d : Nat) : ∀ (i : Nat), i + d = a.length → (∀ j, j < i → a[j]? = b[j]?) → Ev (fun k => laws_eqByteS.l0 k a b (i : Int)) (decide (a = b)) := by
  induction d with
  | zero =>
    intro i hi hj
    refine Ev.step (f := fun _ => some true) (fun k => ?_) ?_
    · simp only [laws_eqByteS.l0]
      rw [if_neg (by omega)]
    · have : a = b := by
        refine List.ext_getElem? fun j => ?_
        by_cases h : j < i
        · exact hj j h
        · rw [List.getElem?_eq_none (by omega), List.getElem?_eq_none (by omega)]
      rw [decide_eq_true this]
      exact Ev.now _
  | succ d ih =>
    intro i hi hj
    have ha : rd a (i : Int) = a[i]'(by omega) := rd_nat a i (by omega)
    have hb : rd b (i : Int) = b[i]'(by omega) := rd_nat b i (by omega)
    by_cases he : rd a (i : Int) = rd b (i : Int)
    · refine Ev.step (f := fun k => laws_eqByteS.l0 k a b ((i + 1 : Nat) : Int)) (fun k => ?_) (ih (i + 1) (by omega) ?_)
      · simp only [laws_eqByteS.l0]
        rw [if_pos (by omega), if_pos (by omega), if_pos (by omega), if_pos he, w64 (by omega) (by omega)]
        simp
      · intro j hlt
        by_cases h : j = i
        · subst h
          rw [List.getElem?_eq_getElem (by omega), List.getElem?_eq_getElem (by omega), ← ha, ← hb, he]
        · exact hj j (by omega)
    · refine Ev.step (f := fun _ => some false) (fun k => ?_) ?_
      · simp only [laws_eqByteS.l0]
        rw [if_pos (by omega), if_pos (by omega), if_pos (by omega), if_neg he]
      · have : ¬ a = b := by
          rintro rfl
          exact he rfl
        rw [decide_eq_false this]
        exact Ev.now _
theorem eqByteS_f (a b : List Int) (hn : a.length ≤ 1048576) : Ev (fun k => laws_eqByteS.f k a b) (decide (a = b)) := by
  unfold laws_eqByteS.f
  by_cases h : a.length = b.length
  · refine ev_pos (by omega) ?_
    exact eqByteS_l a b hn h a.length 0 (by omega) (by intro j h; omega)
  · refine ev_neg (by omega) ?_
    rw [decide_eq_false (by rintro rfl; exact h rfl)]
    exact Ev.now _
theorem eqByteS_same (a : List Int) (hn : a.length ≤ 1048576) : Ev (fun k => laws_eqByteS.f k a a) true := by
  have := eqByteS_f a a hn
  rwa [decide_eq_true rfl] at this


theorem markByteS_l (a : List Int) (hn : a.length ≤ 1048576) (m0 : Int) (h0 : 0 ≤ m0) (h1 : m0 ≤ 1000000000000) (d : Nat) : ∀ (i : Nat) (y : List Int), i + d = a.length → y.length = a.length → (∀ j, j < i → y[j]? = (marksB m0 a.length)[j]?) → Ev (fun k => laws_markByteS.l0 k y (m0 + i) (i : Int)) (m0 + a.length, marksB m0 a.length) := by
  have hml := marksB_length a.length m0
  induction d with
  | zero =>
    intro i y hi hy hj
    refine Ev.step (f := fun _ => some (m0 + a.length, marksB m0 a.length)) (fun k => ?_) (Ev.now _)
    simp only [laws_markByteS.l0]
    rw [if_neg (by omega)]
    have hy2 : y = marksB m0 a.length := by
      refine List.ext_getElem? fun j => ?_
      by_cases h : j < i
      · exact hj j h
      · rw [List.getElem?_eq_none (by omega), List.getElem?_eq_none (by omega)]
    rw [hy2, show (i : Int) = a.length by omega]
  | succ d ih =>
    intro i y hi hy hj
    refine Ev.step (f := fun k => laws_markByteS.l0 k (y.set i ((m0+i)%256)) (m0 + (i + 1 : Nat)) ((i + 1 : Nat) : Int)) (fun k => ?_) (ih (i + 1) _ (by omega) (by simp [hy]) ?_)
    · simp only [laws_markByteS.l0]
      rw [if_pos (by omega), if_pos (by omega), w64 (by omega) (by omega), w64 (by omega) (by omega)]
      simp [Int.add_assoc]
    · intro j hlt
      by_cases h : j = i
      · subst h
        rw [List.getElem?_set_self (by omega), List.getElem?_eq_getElem (by omega), marksB_get]
      · rw [List.getElem?_set_ne (by omega)]
        exact hj j (by omega)
theorem markByteS_f (a : List Int) (hn : a.length ≤ 1048576) (m : Int) (h0 : 0 ≤ m) (h1 : m ≤ 1000000000000) : Ev (fun k => laws_markByteS.f k a m) (m + a.length, marksB m a.length) := by
  unfold laws_markByteS.f
  have := markByteS_l a hn m h0 h1 a.length 0 a (by omega) rfl (by intro j h; omega)
  simpa using this


theorem heldByteS_l (n : Nat) (hn : n ≤ 1048576) (m0 : Int) (h0 : 0 ≤ m0) (h1 : m0 ≤ 1000000000000) (d : Nat) : ∀ (i : Nat), i + d = n → Ev (fun k => laws_heldByteS.l0 k (marksB m0 n) (m0 + i) (i : Int)) (m0 + n) := by
  have hml := marksB_length n m0
  induction d with
  | zero =>
    intro i hi
    refine Ev.step (f := fun _ => some (m0 + n)) (fun k => ?_) (Ev.now _)
    simp only [laws_heldByteS.l0]
    rw [if_neg (by omega), show (i : Int) = n by omega]
  | succ d ih =>
    intro i hi
    refine Ev.step (f := fun k => laws_heldByteS.l0 k (marksB m0 n) (m0 + (i + 1 : Nat)) ((i + 1 : Nat) : Int)) (fun k => ?_) (ih (i + 1) (by omega))
    simp only [laws_heldByteS.l0]
    rw [if_pos (by omega), if_pos (by omega), if_pos (by rw [rd_nat _ i (by omega), marksB_get]), w64 (by omega) (by omega), w64 (by omega) (by omega)]
    simp [Int.add_assoc]
theorem heldByteS_f (n : Nat) (hn : n ≤ 1048576) (m : Int) (h0 : 0 ≤ m) (h1 : m ≤ 1000000000000) : Ev (fun k => laws_heldByteS.f k (marksB m n) m) (m + n) := by
  unfold laws_heldByteS.f
  have := heldByteS_l n hn m h0 h1 n 0 (by omega)
  simpa using this



def sumLen : List (List Int) → Nat
  | [] => 0
  | x :: l => x.length + sumLen l
theorem rdl_nat (l : List (List Int)) (i : Nat) (h : i < l.length) : rd_L1 l (i : Int) = l[i] := by
  simp [rd_L1, List.getD_eq_getElem?_getD, List.getElem?_eq_getElem h]
theorem sumLen_drop (l : List (List Int)) (i : Nat) (h : i < l.length) : sumLen (l.drop i) = (l[i]).length + sumLen (l.drop (i + 1)) := by
  rw [List.drop_eq_getElem_cons h]
  rfl
theorem sumLen_mem {l : List (List Int)} {x : List Int} (h : x ∈ l) : x.length ≤ sumLen l := by
  induction l with
  | nil => cases h
  | cons y l ih =>
    simp only [sumLen]
    rcases List.mem_cons.1 h with rfl | h
    · omega
    · have := ih h; omega

theorem eqByteSS_l (l : List (List Int)) (hn : l.length ≤ 1048576) (hx : ∀ x ∈ l, x.length ≤ 1048576) (d : Nat) : ∀ (i : Nat), i + d = l.length → Ev (fun k => laws_eqByteSS.l0 k l l (i : Int)) true := by
  induction d with
  | zero =>
    intro i hi
    refine Ev.step (f := fun _ => some true) (fun k => ?_) (Ev.now _)
    simp only [laws_eqByteSS.l0]
    rw [if_neg (by omega)]
  | succ d ih =>
    intro i hi
    have hr := rdl_nat l i (by omega)
    have ht := eqByteS_same (l[i]'(by omega)) (hx _ (List.getElem_mem _))
    refine Ev.step (f := fun k => (laws_eqByteS.f k (l[i]'(by omega)) (l[i]'(by omega))).bind fun t => if t = true then laws_eqByteSS.l0 k l l (wrap64 ((i : Int) + 1)) else some false) (fun k => ?_) (Ev.bind ht (ev_pos rfl ?_))
    · simp only [laws_eqByteSS.l0]
      rw [if_pos (by omega), if_pos (by omega), hr]
      rw [if_pos (by omega)]
    · rw [w64 (by omega) (by omega)]
      exact ih (i + 1) (by omega)
theorem eqByteSS_same (l : List (List Int)) (hn : l.length ≤ 1048576) (hx : ∀ x ∈ l, x.length ≤ 1048576) : Ev (fun k => laws_eqByteSS.f k l l) true := by
  unfold laws_eqByteSS.f
  exact ev_pos rfl (eqByteSS_l l hn hx l.length 0 (by omega))


theorem eqPage_same (lsn : Int) (l : List (List Int)) (hn : l.length ≤ 1048576) (hx : ∀ x ∈ l, x.length ≤ 1048576) : Ev (fun k => laws_eqPage.f k lsn l lsn l) true := by
  unfold laws_eqPage.f
  exact ev_pos rfl (Ev.bind (eqByteSS_same l hn hx) (ev_pos rfl (Ev.now _)))


/-- how many bytes a page uses, or -1 -/
def puOf (lsn : Int) (l : List (List Int)) : Int :=
  if ¬ ((0 ≤ lsn ∧ lsn ≤ 1000000) ∧ l.length ≤ 16) then -1
  else if ∃ x ∈ l, 92 < x.length then -1
  else if 240 < 1 + l.length + sumLen l then -1
  else if 0 < l.length ∧ (rd_L1 l ((l.length : Int) - 1)).length = 0 then -1
  else 1 + l.length + sumLen l
theorem small_sum (l : List (List Int)) (h : ¬ ∃ x ∈ l, 92 < x.length) : sumLen l ≤ 92 * l.length := by
  induction l with
  | nil => simp [sumLen]
  | cons x l ih =>
    have h1 := ih (fun ⟨y, hy, hz⟩ => h ⟨y, List.mem_cons_of_mem _ hy, hz⟩)
    have h2 : ¬ 92 < x.length := fun hz => h ⟨x, List.mem_cons_self .., hz⟩
    simp only [sumLen, List.length_cons]
    omega
def sumTake (l : List (List Int)) (i : Nat) : Nat := sumLen (l.take i)
theorem sumTake_succ (l : List (List Int)) (i : Nat) (h : i < l.length) : sumTake l (i + 1) = sumTake l i + (l[i]).length := by
  have hs : ∀ a b : List (List Int), sumLen (a ++ b) = sumLen a + sumLen b := by
    intro a b
    induction a with
    | nil => simp [sumLen]
    | cons x a ih => simp only [List.cons_append, sumLen, ih]; omega
  unfold sumTake
  rw [List.take_succ_eq_append_getElem h, hs]
  simp [sumLen]
theorem sumTake_le (l : List (List Int)) (i : Nat) (hl : l.length ≤ 16) (hi : i ≤ l.length) (h : ∀ j (hj : j < l.length), j < i → (l[j]).length ≤ 92) : sumTake l i ≤ 92 * i := by
  induction i with
  | zero => simp [sumTake, sumLen]
  | succ i ih =>
    have h1 := ih (by omega) (fun j hj hji => h j hj (by omega))
    have h2 := h i (by omega) (by omega)
    rw [sumTake_succ l i (by omega)]
    omega
theorem spec_PageUsed_end (lsn : Int) (l : List (List Int)) (hp : (0 ≤ lsn ∧ lsn ≤ 1000000) ∧ l.length ≤ 16) (hs : ¬ ∃ x ∈ l, 92 < x.length) : ∀ (i : Nat), i = l.length →
    Ev (fun k => spec_PageUsed.l0 k (1 + l.length + sumLen l : Int) (i : Int) lsn l) (puOf lsn l) := by
  intro i hi
  have hb := small_sum l hs
  unfold puOf
  rw [if_neg (not_not_intro hp), if_neg hs]
  have last : ∀ b : Bool, b = decide (0 < l.length ∧ (rd_L1 l ((l.length : Int) - 1)).length = 0) → Ev (fun k => spec_PageUsed.j2 k (1 + l.length + sumLen l : Int) b) (if 240 < 1 + l.length + sumLen l then -1 else if 0 < l.length ∧ (rd_L1 l ((l.length : Int) - 1)).length = 0 then -1 else 1 + l.length + sumLen l) := by
    intro b hb2
    refine Ev.step (f := fun _ => some (if 240 < 1 + l.length + sumLen l then (-1 : Int) else if 0 < l.length ∧ (rd_L1 l ((l.length : Int) - 1)).length = 0 then -1 else 1 + l.length + sumLen l)) (fun k => ?_) (Ev.now _)
    simp only [spec_PageUsed.j2, hb2, decide_eq_true_eq]
    by_cases h1 : 0 < l.length ∧ (rd_L1 l ((l.length : Int) - 1)).length = 0
    · rw [if_pos h1, if_pos h1]
      split <;> rfl
    · rw [if_neg h1, if_neg h1]
      by_cases h2 : 240 < 1 + l.length + sumLen l
      · rw [if_pos (by omega), if_pos h2]
      · rw [if_neg (by omega), if_neg h2]
  by_cases h0 : (l.length : Int) > 0
  · refine Ev.step (fun k => ?_) (last _ rfl)
    simp only [spec_PageUsed.l0]
    rw [if_neg (by omega), if_pos h0, w64 (by omega) (by omega), if_pos (by omega), if_pos (by omega)]
    congr 1
    by_cases h1 : (rd_L1 l ((l.length : Int) - 1)).length = 0
    · rw [decide_eq_true ⟨by omega, h1⟩, h1]; rfl
    · rw [decide_eq_false (fun h => h1 h.2)]
      simpa using h1
  · refine Ev.step (fun k => ?_) (last false (by rw [decide_eq_false]; omega))
    simp only [spec_PageUsed.l0]
    rw [if_neg (by omega), if_neg h0]
theorem spec_PageUsed_l (lsn : Int) (l : List (List Int)) (hp : (0 ≤ lsn ∧ lsn ≤ 1000000) ∧ l.length ≤ 16) (d : Nat) : ∀ (i : Nat), i + d = l.length → (∀ j (hj : j < l.length), j < i → (l[j]).length ≤ 92) →
    Ev (fun k => spec_PageUsed.l0 k (1 + l.length + sumTake l i : Int) (i : Int) lsn l) (puOf lsn l) := by
  induction d with
  | zero =>
    intro i hi hj
    have e : sumTake l i = sumLen l := by unfold sumTake; rw [List.take_of_length_le (by omega)]
    rw [e]
    refine spec_PageUsed_end lsn l hp ?_ i (by omega)
    rintro ⟨x, hx, h⟩
    obtain ⟨j, hjl, rfl⟩ := List.mem_iff_getElem.1 hx
    have := hj j hjl (by omega)
    omega
  | succ d ih =>
    intro i hi hj
    have hr := rdl_nat l i (by omega)
    have hb := sumTake_le l i hp.2 (by omega) hj
    by_cases h : (l[i]'(by omega)).length > 92
    · have e : puOf lsn l = -1 := by
        unfold puOf
        rw [if_neg (not_not_intro hp), if_pos ⟨_, List.getElem_mem _, h⟩]
      rw [e]
      refine Ev.step (f := fun _ => some (-1)) (fun k => ?_) (Ev.now _)
      simp only [spec_PageUsed.l0]
      rw [if_pos (by omega), if_pos (by omega), hr, if_pos (by omega)]
    · have h2 := ih (i + 1) (by omega) (by
        intro j hjl hji
        by_cases hje : j = i
        · subst hje; omega
        · exact hj j hjl (by omega))
      rw [sumTake_succ l i (by omega)] at h2
      refine Ev.step (fun k => ?_) h2
      simp only [spec_PageUsed.l0]
      rw [if_pos (by omega), if_pos (by omega), hr, if_neg (by omega), w64 (x := 1 + (l.length : Int) + (sumTake l i : Int) + ((l[i]'(by omega)).length : Int)) (by omega) (by omega), w64 (by omega) (by omega)]
      congr 1
      omega
theorem impl_PageUsed_l (lsn : Int) (l : List (List Int)) (hp : (0 ≤ lsn ∧ lsn ≤ 1000000) ∧ l.length ≤ 16) (d : Nat) : ∀ (i : Nat), i + d = l.length → (∀ j (hj : j < l.length), j < i → (l[j]).length ≤ 92) →
    Ev (fun k => impl_PageUsed.l0 k (1 + l.length + sumTake l i : Int) l (l.length : Int) (i : Int) lsn l) (puOf lsn l) := by
  induction d with
  | zero =>
    intro i hi hj
    have e : sumTake l i = sumLen l := by unfold sumTake; rw [List.take_of_length_le (by omega)]
    rw [e]
    have hs : ¬ ∃ x ∈ l, 92 < x.length := by
      rintro ⟨x, hx, h⟩
      obtain ⟨j, hjl, rfl⟩ := List.mem_iff_getElem.1 hx
      have := hj j hjl (by omega)
      omega
    have hb := small_sum l hs
    unfold puOf
    rw [if_neg (not_not_intro hp), if_neg hs]
    refine Ev.step (f := fun _ => some (if 240 < 1 + l.length + sumLen l then (-1 : Int) else if 0 < l.length ∧ (rd_L1 l ((l.length : Int) - 1)).length = 0 then -1 else 1 + l.length + sumLen l)) (fun k => ?_) (Ev.now _)
    simp only [impl_PageUsed.l0]
    rw [if_neg (by omega)]
    by_cases h2 : 240 < 1 + l.length + sumLen l
    · rw [if_pos (by omega), if_pos h2]
    · rw [if_neg (by omega), if_neg h2]
      by_cases h0 : (l.length : Int) > 0
      · rw [if_pos h0, w64 (by omega) (by omega), if_pos (by omega), if_pos (by omega)]
        by_cases h1 : (rd_L1 l ((l.length : Int) - 1)).length = 0
        · rw [if_pos (by omega), if_pos ⟨by omega, h1⟩]
        · rw [if_neg (by omega), if_neg (fun h => h1 h.2)]
      · rw [if_neg h0, if_neg (by omega)]
  | succ d ih =>
    intro i hi hj
    have hr := rdl_nat l i (by omega)
    have hb := sumTake_le l i hp.2 (by omega) hj
    by_cases h : (l[i]'(by omega)).length > 92
    · have e : puOf lsn l = -1 := by
        unfold puOf
        rw [if_neg (not_not_intro hp), if_pos ⟨_, List.getElem_mem _, h⟩]
      rw [e]
      refine Ev.step (f := fun _ => some (-1)) (fun k => ?_) (Ev.now _)
      simp only [impl_PageUsed.l0]
      rw [if_pos (by omega), if_pos (by omega), if_pos (by omega), hr, if_pos (by omega)]
    · have h2 := ih (i + 1) (by omega) (by
        intro j hjl hji
        by_cases hje : j = i
        · subst hje; omega
        · exact hj j hjl (by omega))
      rw [sumTake_succ l i (by omega)] at h2
      refine Ev.step (fun k => ?_) h2
      simp only [impl_PageUsed.l0]
      rw [if_pos (by omega), if_pos (by omega), if_pos (by omega), hr, if_neg (by omega), w64 (x := 1 + (l.length : Int) + (sumTake l i : Int) + ((l[i]'(by omega)).length : Int)) (by omega) (by omega), w64 (by omega) (by omega)]
      congr 1
      omega
theorem puOf_off (lsn : Int) (l : List (List Int)) (h : ¬ ((0 ≤ lsn ∧ lsn ≤ 1000000) ∧ l.length ≤ 16)) : puOf lsn l = -1 := by
  unfold puOf
  rw [if_pos h]
theorem spec_PageUsed_f (lsn : Int) (l : List (List Int)) (hn : l.length ≤ 1048576) : Ev (fun k => spec_PageUsed.f k lsn l) (puOf lsn l) := by
  unfold spec_PageUsed.f
  refine ev_bind0 (spec_l5in_f _ _ _) ?_
  by_cases h : 0 ≤ lsn ∧ lsn ≤ 1000000
  · refine ev_pos (decide_eq_true h) ?_
    by_cases h2 : (l.length : Int) > 16
    · rw [decide_eq_true h2, puOf_off lsn l (fun h => by have := h.2; omega)]
      exact Ev.step (f := fun _ => some (-1)) (fun k => by simp only [spec_PageUsed.j0, if_true]) (Ev.now _)
    · rw [decide_eq_false h2]
      refine Ev.step (fun k => by simp only [spec_PageUsed.j0, Bool.false_eq_true, if_false]; rfl) ?_
      rw [w64 (by omega) (by omega)]
      have := spec_PageUsed_l lsn l ⟨h, by omega⟩ l.length 0 (by omega) (fun j hj hji => by omega)
      simpa [sumTake, sumLen] using this
  · rw [puOf_off lsn l (fun h2 => h h2.1)]
    refine ev_neg (by simpa using h) ?_
    exact Ev.step (f := fun _ => some (-1)) (fun k => by simp only [spec_PageUsed.j0, if_true]) (Ev.now _)
theorem impl_PageUsed_f (lsn : Int) (l : List (List Int)) (hn : l.length ≤ 1048576) : Ev (fun k => impl_PageUsed.f k lsn l) (puOf lsn l) := by
  unfold impl_PageUsed.f
  refine ev_bind0 (impl_within_f _ _ _) ?_
  by_cases h : 0 ≤ lsn ∧ lsn ≤ 1000000
  · refine ev_pos (decide_eq_true h) ?_
    by_cases h2 : (l.length : Int) > 16
    · rw [decide_eq_true h2, puOf_off lsn l (fun h => by have := h.2; omega)]
      exact Ev.step (f := fun _ => some (-1)) (fun k => by simp only [impl_PageUsed.j0, if_true]) (Ev.now _)
    · rw [decide_eq_false h2]
      refine Ev.step (fun k => by simp only [impl_PageUsed.j0, Bool.false_eq_true, if_false]; rfl) ?_
      rw [w64 (by omega) (by omega)]
      have := impl_PageUsed_l lsn l ⟨h, by omega⟩ l.length 0 (by omega) (fun j hj hji => by omega)
      simpa [sumTake, sumLen] using this
  · rw [puOf_off lsn l (fun h2 => h h2.1)]
    refine ev_neg (by simpa using h) ?_
    exact Ev.step (f := fun _ => some (-1)) (fun k => by simp only [impl_PageUsed.j0, if_true]) (Ev.now _)


/-- rows marked one behind the other -/
def marksSS (m : Int) : List (List Int) → List (List Int)
  | [] => []
  | x :: l => marksB m x.length :: marksSS (m + x.length) l
theorem marksSS_length (l : List (List Int)) : ∀ m, (marksSS m l).length = l.length := by
  induction l with
  | nil => intro m; rfl
  | cons x l ih => intro m; simp [marksSS, ih]
theorem markSS_go (rest : List (List Int)) : ∀ (pre : List (List Int)) (m : Int), 0 ≤ m → m + sumLen rest ≤ 1000000000000 → (∀ x ∈ rest, x.length ≤ 1048576) → Ev (fun k => laws_markByteSS.go k rest.length pre.length (pre ++ rest) m) (m + sumLen rest, pre ++ marksSS m rest) := by
  induction rest with
  | nil =>
    intro pre m h0 h1 hx
    refine Ev.congr (f := fun _ => some (m, pre ++ [])) (fun k => rfl) ?_
    rw [show (m : Int) + (sumLen ([] : List (List Int)) : Nat) = m by simp [sumLen]]
    exact Ev.now _
  | cons x rest ih =>
    intro pre m h0 h1 hx
    have hs : sumLen (x :: rest) = x.length + sumLen rest := rfl
    rw [hs] at h1
    have hxl := hx x (List.mem_cons_self ..)
    have h2 := ih (pre ++ [marksB m x.length]) (m + x.length) (by omega) (by omega) (fun y hy => hx y (List.mem_cons_of_mem _ hy))
    have hg : (pre ++ x :: rest).getD pre.length [] = x := by simp [List.getD_eq_getElem?_getD]
    refine Ev.congr (fun k => by rw [List.length_cons, laws_markByteSS.go, hg]) (Ev.bind (markByteS_f x hxl m h0 (by omega)) ?_)
    dsimp only
    have hset : (pre ++ x :: rest).set pre.length (marksB m x.length) = (pre ++ [marksB m x.length]) ++ rest := by simp
    rw [hset, show pre.length + 1 = (pre ++ [marksB m x.length]).length by simp, show (m : Int) + ((sumLen (x :: rest) : Nat) : Int) = m + x.length + sumLen rest by rw [hs]; push_cast; omega, show pre ++ marksSS m (x :: rest) = (pre ++ [marksB m x.length]) ++ marksSS (m + x.length) rest by simp [marksSS]]
    exact h2
theorem markByteSS_f (l : List (List Int)) (hn : l.length ≤ 1048576) (hx : ∀ x ∈ l, x.length ≤ 1048576) (m : Int) (h0 : 0 ≤ m) (h1 : m + sumLen l ≤ 1000000000000) : Ev (fun k => laws_markByteSS.f k l m) (m + sumLen l, marksSS m l) := by
  unfold laws_markByteSS.f
  refine ev_pos hn ?_
  exact markSS_go l [] m h0 h1 hx
theorem heldSS_l (rest : List (List Int)) : ∀ (pre : List (List Int)) (m : Int), 0 ≤ m → m + sumLen rest ≤ 1000000000000 → (∀ x ∈ rest, x.length ≤ 1048576) → pre.length + rest.length ≤ 1048576 → Ev (fun k => laws_heldByteSS.l0 k (pre ++ marksSS m rest) m (pre.length : Int)) (m + sumLen rest) := by
  induction rest with
  | nil =>
    intro pre m h0 h1 hx hn
    refine Ev.step (f := fun _ => some m) (fun k => by rw [laws_heldByteSS.l0, if_neg (by simp [marksSS])]) ?_
    rw [show (m : Int) + (sumLen ([] : List (List Int)) : Nat) = m by simp [sumLen]]
    exact Ev.now _
  | cons x rest ih =>
    intro pre m h0 h1 hx hn
    have hs : sumLen (x :: rest) = x.length + sumLen rest := rfl
    rw [hs] at h1
    rw [List.length_cons] at hn
    have hxl := hx x (List.mem_cons_self ..)
    have h2 := ih (pre ++ [marksB m x.length]) (m + x.length) (by omega) (by omega) (fun y hy => hx y (List.mem_cons_of_mem _ hy)) (by simp; omega)
    have hr : rd_L1 (pre ++ marksSS m (x :: rest)) (pre.length : Int) = marksB m x.length := by simp [rd_L1, marksSS, List.getD_eq_getElem?_getD]
    refine Ev.step (fun k => by rw [laws_heldByteSS.l0, if_pos (by simp [marksSS]; omega), if_pos (by omega), hr]) (Ev.bind (heldByteS_f x.length hxl m h0 (by omega)) ?_)
    refine ev_neg (by omega) ?_
    rw [w64 (by omega) (by omega), show pre ++ marksSS m (x :: rest) = (pre ++ [marksB m x.length]) ++ marksSS (m + x.length) rest by simp [marksSS], show (m : Int) + ((sumLen (x :: rest) : Nat) : Int) = m + x.length + sumLen rest by rw [hs]; push_cast; omega]
    rw [show (((pre ++ [marksB m x.length]).length : Nat) : Int) = (pre.length : Int) + 1 by simp] at h2
    exact h2
theorem heldByteSS_f (l : List (List Int)) (hn : l.length ≤ 1048576) (hx : ∀ x ∈ l, x.length ≤ 1048576) (m : Int) (h0 : 0 ≤ m) (h1 : m + sumLen l ≤ 1000000000000) : Ev (fun k => laws_heldByteSS.f k (marksSS m l) m) (m + sumLen l) := by
  unfold laws_heldByteSS.f
  exact heldSS_l l [] m h0 h1 hx (by simpa using hn)
theorem sumLen_le (l : List (List Int)) (n b : Nat) (hn : l.length ≤ n) (hx : ∀ x ∈ l, x.length ≤ b) : sumLen l ≤ n * b := by
  induction l generalizing n with
  | nil => simp [sumLen]
  | cons x l ih =>
    obtain ⟨n, rfl⟩ : ∃ q, n = q + 1 := ⟨n - 1, by simp at hn; omega⟩
    have h1 := ih n (by simp at hn; omega) (fun y hy => hx y (List.mem_cons_of_mem _ hy))
    have h2 := hx x (List.mem_cons_self ..)
    simp only [sumLen, Nat.add_mul, Nat.one_mul]
    omega


theorem markPage_f (lsn : Int) (l : List (List Int)) (hn : l.length ≤ 1048576) (hx : ∀ x ∈ l, x.length ≤ 1048576) (m : Int) (h0 : 0 ≤ m) (h1 : m + sumLen l ≤ 1000000000000) : Ev (fun k => laws_markPage.f k lsn l m) (m + sumLen l, marksSS m l) := by
  unfold laws_markPage.f
  exact markByteSS_f l hn hx m h0 h1
theorem heldPage_f (lsn : Int) (l : List (List Int)) (hn : l.length ≤ 1048576) (hx : ∀ x ∈ l, x.length ≤ 1048576) (m : Int) (h0 : 0 ≤ m) (h1 : m + sumLen l ≤ 1000000000000) : Ev (fun k => laws_heldPage.f k lsn (marksSS m l) m) (m + sumLen l) := by
  unfold laws_heldPage.f
  refine Ev.bind (heldByteSS_f l hn hx m h0 h1) ?_
  exact ev_neg (by omega) (Ev.now _)


theorem pu_all (lsn : Int) (l : List (List Int)) (h : ¬ puOf lsn l < 0) : ((0 ≤ lsn ∧ lsn ≤ 1000000) ∧ l.length ≤ 16) ∧ (∀ x ∈ l, x.length ≤ 92) ∧ 1 + l.length + sumLen l ≤ 240 := by
  unfold puOf at h
  split at h
  · omega
  · rename_i h1
    split at h
    · omega
    · rename_i h2
      split at h
      · omega
      · refine ⟨Classical.not_not.1 h1, fun x hx => ?_, by omega⟩
        rcases Nat.lt_or_ge 92 x.length with h3 | h3
        · exact absurd ⟨x, hx, h3⟩ h2
        · exact h3
/-- A page's body ahead of its slots' bytes: how many slots, and how long each is. -/
def pgLens (l : List (List Int)) : List Int := l.map fun x => (x.length : Int) % 256
def pgHead (l : List (List Int)) : List Int := ([(l.length : Int) % 256] : List Int) ++ pgLens l
def pgBody (l : List (List Int)) : List Int := (pgHead l ++ l.flatten) ++ List.replicate (240 - (1 + l.length + sumLen l)) 0
theorem flat_length (l : List (List Int)) : l.flatten.length = sumLen l := by
  induction l with
  | nil => rfl
  | cons x l ih => simp only [List.flatten_cons, List.length_append, sumLen, ih]
theorem pgHead_length (l : List (List Int)) : (pgHead l).length = 1 + l.length := by simp [pgHead, pgLens]; omega
theorem pgBody_length (l : List (List Int)) (h : 1 + l.length + sumLen l ≤ 240) : (pgBody l).length = 240 := by
  unfold pgBody
  rw [List.length_append, List.length_append, List.length_replicate, pgHead_length, flat_length]
  omega
/-- The bytes of a page. -/
def pbOf (lsn : Int) (l : List (List Int)) : List Int := if puOf lsn l < 0 then [] else parts 60 (pn lsn 4) (pgBody l) fours
theorem flat_take (l : List (List Int)) (i : Nat) (h : i < l.length) : (l.take (i + 1)).flatten = (l.take i).flatten ++ l[i] := by
  rw [List.take_succ_eq_append_getElem h, List.flatten_append]
  simp
theorem flat_take_le (l : List (List Int)) (i : Nat) : (l.take i).flatten.length ≤ sumLen l := by
  rw [← flat_length]
  have := congrArg List.length (congrArg List.flatten (List.take_append_drop i l))
  rw [List.flatten_append, List.length_append] at this
  omega
theorem impl_PageBytes_l1 (lsn : Int) (l : List (List Int)) (hl : l.length ≤ 16) (hs : 1 + l.length + sumLen l ≤ 240) (hn : lsn ≤ 1000000) (hx : ∀ x ∈ l, x.length ≤ 92) (d : Nat) : ∀ i : Nat, i + d = l.length →
    Ev (fun k => impl_PageBytes.l1 k (pgHead l ++ (l.take i).flatten) l (l.length : Int) (i : Int) lsn l) (parts 60 (pn lsn 4) (pgBody l) fours) := by
  have hL := pn_length lsn 4
  have hh := pgHead_length l
  induction d with
  | zero =>
    intro i hi
    rw [List.take_of_length_le (by omega)]
    have e : (pgHead l ++ l.flatten).length = 1 + l.length + sumLen l := by rw [List.length_append, hh, flat_length]
    have hb := pgBody_length l hs
    have hB : (pgHead l ++ l.flatten) ++ List.replicate (wrap64 (240 - ((pgHead l ++ l.flatten).length : Int)) : Int).toNat 0 = pgBody l := by
      rw [w64 (by omega) (by omega), e]
      unfold pgBody
      congr 2
      omega
    refine Ev.step (f := fun k => (impl_PutNum.f k lsn 4).bind fun t => if 4 * t.length + (pgBody l).length < 140737488355328 then some (parts 60 t (pgBody l) fours) else none) (fun k => ?_) ?_
    · rw [impl_PageBytes.l1, if_neg (by omega), hB, w64 (by omega) (by omega), if_pos (by omega), if_pos (by omega)]
      rfl
    · exact Ev.bind (impl_PutNum_f lsn 4 (by omega)) (ev_pos (by omega) (Ev.now _))
  | succ d ih =>
    intro i hi
    have hr := rdl_nat l i (by omega)
    have hb := hx _ (List.getElem_mem (show i < l.length by omega))
    have hf := flat_take_le l i
    refine Ev.step (fun k => by rw [impl_PageBytes.l1, if_pos (by omega), if_pos (by omega), if_pos (by omega), hr, if_pos (by rw [List.length_append]; omega), w64 (by omega) (by omega), List.append_assoc, ← flat_take l i (by omega)]) ?_
    exact ih (i + 1) (by omega)
theorem lens_take (l : List (List Int)) (i : Nat) (h : i < l.length) : pgLens (l.take (i + 1)) = pgLens (l.take i) ++ [((l[i]).length : Int) % 256] := by
  unfold pgLens
  rw [List.take_succ_eq_append_getElem h, List.map_append]
  rfl
theorem impl_PageBytes_l0 (lsn : Int) (l : List (List Int)) (hl : l.length ≤ 16) (hs : 1 + l.length + sumLen l ≤ 240) (hn : lsn ≤ 1000000) (hx : ∀ x ∈ l, x.length ≤ 92) (d : Nat) : ∀ i : Nat, i + d = l.length →
    Ev (fun k => impl_PageBytes.l0 k (([(l.length : Int) % 256] : List Int) ++ pgLens (l.take i)) l (l.length : Int) (i : Int) lsn l) (parts 60 (pn lsn 4) (pgBody l) fours) := by
  induction d with
  | zero =>
    intro i hi
    rw [List.take_of_length_le (by omega)]
    refine Ev.step (fun k => by rw [impl_PageBytes.l0, if_neg (by omega)]) ?_
    have := impl_PageBytes_l1 lsn l hl hs hn hx l.length 0 (by omega)
    simpa [pgHead] using this
  | succ d ih =>
    intro i hi
    have hr := rdl_nat l i (by omega)
    refine Ev.step (fun k => by rw [impl_PageBytes.l0, if_pos (by omega), if_pos (by omega), if_pos (by omega), hr, if_pos (by simp [pgLens]; omega), w64 (by omega) (by omega), List.append_assoc, ← lens_take l i (by omega)]) ?_
    exact ih (i + 1) (by omega)
theorem impl_PageBytes_f (lsn : Int) (l : List (List Int)) (hn : l.length ≤ 1048576) : Ev (fun k => impl_PageBytes.f k lsn l) (pbOf lsn l) := by
  unfold impl_PageBytes.f pbOf
  refine Ev.bind (impl_PageUsed_f lsn l hn) ?_
  by_cases h : puOf lsn l < 0
  · rw [if_pos h]
    exact ev_pos h (Ev.now _)
  · rw [if_neg h]
    obtain ⟨⟨h1, h2⟩, h3, h4⟩ := pu_all lsn l h
    refine ev_neg h ?_
    have := impl_PageBytes_l0 lsn l h2 h4 h1.2 h3 l.length 0 (by omega)
    simpa [pgLens] using this
theorem fours_take (j : Nat) (h : j < 4) : fours.take (j + 1) = fours.take j ++ [⟨j, h⟩] := by
  have hx : j = 0 ∨ j = 1 ∨ j = 2 ∨ j = 3 := by omega
  rcases hx with rfl | rfl | rfl | rfl <;> rfl
theorem spec_PageBytes_l3 (lsn : Int) (l : List (List Int)) (B : List Int) (hB : B.length = 240) (hn : lsn ≤ 1000000) (d : Nat) : ∀ j : Nat, j + d = 4 →
    Ev (fun k => spec_PageBytes.l3 k B (parts 60 (pn lsn 4) B (fours.take j)) ((60 * j : Nat) : Int) lsn l) (parts 60 (pn lsn 4) B fours) := by
  have hL := pn_length lsn 4
  induction d with
  | zero =>
    intro j hj
    obtain rfl : j = 4 := by omega
    exact Ev.step (fun k => by rw [spec_PageBytes.l3, if_neg (by omega)]; rfl) (Ev.now _)
  | succ d ih =>
    intro j hj
    have hp := parts_len 60 (pn lsn 4) B (fours.take j)
    have hp2 : (fours.take j).length * ((pn lsn 4).length + 60) ≤ 4 * (12 + 60) := Nat.mul_le_mul (by rw [List.length_take]; exact Nat.le_trans (Nat.min_le_left _ _) (by omega)) (by omega)
    have e : (B.take (wrap64 (((60 * j : Nat) : Int) + 60) : Int).toNat).drop (((60 * j : Nat) : Int)).toNat = (B.drop (60 * j)).take 60 := by
      rw [w64 (by omega) (by omega), List.drop_take]
      congr 1
      omega
    have hl : ((B.drop (60 * j)).take 60).length ≤ 60 := by rw [List.length_take]; exact Nat.min_le_left _ _
    refine Ev.step (fun k => by rw [spec_PageBytes.l3, if_pos (by omega)]) ?_
    refine Ev.bind (spec_PutNum_f lsn 4 (by omega)) ?_
    refine ev_pos (by omega) ?_
    refine ev_bind0 rfl ?_
    refine ev_pos (by omega) (ev_pos (by rw [w64 (by omega) (by omega)]; omega) (ev_pos (by rw [w64 (by omega) (by omega)]; omega) ?_))
    rw [e]
    refine ev_bind0 rfl ?_
    refine ev_pos (by rw [List.length_append]; omega) ?_
    have := ih (j + 1) (by omega)
    rw [fours_take j (by omega), parts_snoc] at this
    rw [w64 (by omega) (by omega)]
    simpa [Nat.mul_succ] using this
theorem spec_PageBytes_l2 (lsn : Int) (l : List (List Int)) (hs : 1 + l.length + sumLen l ≤ 240) (hn : lsn ≤ 1000000) (d : Nat) : ∀ n : Nat, n + d = 240 - (1 + l.length + sumLen l) →
    Ev (fun k => spec_PageBytes.l2 k ((pgHead l ++ l.flatten) ++ List.replicate n 0) lsn l) (parts 60 (pn lsn 4) (pgBody l) fours) := by
  have e : ∀ n, ((pgHead l ++ l.flatten) ++ List.replicate n (0 : Int)).length = 1 + l.length + sumLen l + n := by intro n; rw [List.length_append, List.length_append, pgHead_length, flat_length, List.length_replicate]
  induction d with
  | zero =>
    intro n hd
    have hB : (pgHead l ++ l.flatten) ++ List.replicate n (0 : Int) = pgBody l := by unfold pgBody; rw [show n = 240 - (1 + l.length + sumLen l) by omega]
    have hb := pgBody_length l hs
    rw [hB]
    refine Ev.step (f := fun k => spec_PageBytes.l3 k (pgBody l) [] 0 lsn l) (fun k => by unfold spec_PageBytes.l2; exact if_neg (by omega)) ?_
    have := spec_PageBytes_l3 lsn l (pgBody l) hb hn 4 0 (by omega)
    simpa [parts] using this
  | succ d ih =>
    intro n hd
    have e2 := e n
    refine Ev.step (f := fun k => spec_PageBytes.l2 k ((pgHead l ++ l.flatten) ++ List.replicate (n + 1) 0) lsn l) (fun k => ?_) (ih (n + 1) (by omega))
    conv => lhs; unfold spec_PageBytes.l2
    refine (if_pos (by omega)).trans ((if_pos (by omega)).trans ?_)
    rw [List.append_assoc, ← List.replicate_succ']
theorem spec_PageBytes_l1 (lsn : Int) (l : List (List Int)) (hl : l.length ≤ 16) (hs : 1 + l.length + sumLen l ≤ 240) (hn : lsn ≤ 1000000) (hx : ∀ x ∈ l, x.length ≤ 92) (d : Nat) : ∀ i : Nat, i + d = l.length →
    Ev (fun k => spec_PageBytes.l1 k (pgHead l ++ (l.take i).flatten) (i : Int) lsn l) (parts 60 (pn lsn 4) (pgBody l) fours) := by
  have hh := pgHead_length l
  induction d with
  | zero =>
    intro i hi
    rw [List.take_of_length_le (by omega)]
    refine Ev.step (fun k => by rw [spec_PageBytes.l1, if_neg (by omega)]) ?_
    have := spec_PageBytes_l2 lsn l hs hn (240 - (1 + l.length + sumLen l)) 0 (by omega)
    simpa using this
  | succ d ih =>
    intro i hi
    have hr := rdl_nat l i (by omega)
    have hb := hx _ (List.getElem_mem (show i < l.length by omega))
    have hf := flat_take_le l i
    refine Ev.step (fun k => by rw [spec_PageBytes.l1, if_pos (by omega), if_pos (by omega), hr, if_pos (by rw [List.length_append]; omega), w64 (by omega) (by omega), List.append_assoc, ← flat_take l i (by omega)]) ?_
    exact ih (i + 1) (by omega)
theorem spec_PageBytes_l0 (lsn : Int) (l : List (List Int)) (hl : l.length ≤ 16) (hs : 1 + l.length + sumLen l ≤ 240) (hn : lsn ≤ 1000000) (hx : ∀ x ∈ l, x.length ≤ 92) (d : Nat) : ∀ i : Nat, i + d = l.length →
    Ev (fun k => spec_PageBytes.l0 k (([(l.length : Int) % 256] : List Int) ++ pgLens (l.take i)) (i : Int) lsn l) (parts 60 (pn lsn 4) (pgBody l) fours) := by
  induction d with
  | zero =>
    intro i hi
    rw [List.take_of_length_le (by omega)]
    refine Ev.step (fun k => by rw [spec_PageBytes.l0, if_neg (by omega)]) ?_
    have := spec_PageBytes_l1 lsn l hl hs hn hx l.length 0 (by omega)
    simpa [pgHead] using this
  | succ d ih =>
    intro i hi
    have hr := rdl_nat l i (by omega)
    refine Ev.step (fun k => by rw [spec_PageBytes.l0, if_pos (by omega), if_pos (by omega), hr, if_pos (by simp [pgLens]; omega), w64 (by omega) (by omega), List.append_assoc, ← lens_take l i (by omega)]) ?_
    exact ih (i + 1) (by omega)
theorem spec_PageBytes_f (lsn : Int) (l : List (List Int)) (hn : l.length ≤ 1048576) : Ev (fun k => spec_PageBytes.f k lsn l) (pbOf lsn l) := by
  unfold spec_PageBytes.f pbOf
  refine Ev.bind (spec_PageUsed_f lsn l hn) ?_
  by_cases h : puOf lsn l < 0
  · rw [if_pos h]
    exact ev_pos h (Ev.now _)
  · rw [if_neg h]
    obtain ⟨⟨h1, h2⟩, h3, h4⟩ := pu_all lsn l h
    refine ev_neg h ?_
    have := spec_PageBytes_l0 lsn l h2 h4 h1.2 h3 l.length 0 (by omega)
    simpa [pgLens] using this
theorem pbOf_length (lsn : Int) (l : List (List Int)) : (pbOf lsn l).length ≤ 1000 := by
  unfold pbOf
  split
  · simp
  · have h1 := parts_len 60 (pn lsn 4) (pgBody l) fours
    have h2 := pn_length lsn 4
    have h3 : fours.length * ((pn lsn 4).length + 60) ≤ 4 * (12 + 60) := Nat.mul_le_mul (by decide) (by omega)
    omega


/-- The rows that follow, from a page's body. -/
def prScan (B : List Int) : Nat → Nat → Int → List (List Int) → Option (List (List Int))
  | 0, _, _, rows => some rows
  | d + 1, i, p, rows => if p ≤ 240 ∧ rd B (1 + (i : Int)) ≤ 240 - p then prScan B d (i + 1) (p + rd B (1 + (i : Int))) (rows ++ [(B.take (p + rd B (1 + (i : Int))).toNat).drop p.toNat]) else none
def prEnd (b : List Int) (lsn : Int) : Option (List (List Int)) → Int × List (List Int) × Bool
  | none => (0, [], false)
  | some rows => if (strOfNums (pbOf lsn rows)).toList = (strOfNums b).toList then (lsn, rows, true) else (0, [], false)
/-- What a page's bytes say. -/
def prOf (b : List Int) : Int × List (List Int) × Bool := if b.length = 256 then prEnd b (gn b 0 4).1 (prScan (body64 b) (rd (body64 b) 0).toNat 0 (1 + rd (body64 b) 0) []) else (0, [], false)
theorem body64_length (b : List Int) (h : b.length = 256) : (body64 b).length = 240 := by
  simp [body64, cut4, fours, h]
  rfl
theorem body64_bytes {b : List Int} (h : IsBytes b) : IsBytes (body64 b) := by
  intro x hx
  obtain ⟨j, _, hj⟩ := List.mem_flatMap.1 hx
  exact h x (List.mem_of_mem_drop (List.mem_of_mem_take (List.mem_of_mem_drop hj)))
theorem prScan_rows (B : List Int) (hB : B.length = 240) (d : Nat) : ∀ (i : Nat) (p : Int) (rows R : List (List Int)), prScan B d i p rows = some R → (∀ x ∈ rows, x.length ≤ 240) → R.length = rows.length + d ∧ ∀ x ∈ R, x.length ≤ 240 := by
  induction d with
  | zero =>
    intro i p rows R h hr
    obtain rfl := Option.some.inj h
    exact ⟨rfl, hr⟩
  | succ d ih =>
    intro i p rows R h hr
    unfold prScan at h
    split at h
    · obtain ⟨h1, h2⟩ := ih _ _ _ _ h (fun x hx => by
        rcases List.mem_append.1 hx with hx | hx
        · exact hr x hx
        · obtain rfl := List.mem_singleton.1 hx
          simp only [List.length_drop, List.length_take]; omega)
      refine ⟨?_, h2⟩
      rw [h1, List.length_append, List.length_singleton]; omega
    · cases h
theorem sumLen_240 (l : List (List Int)) (h : ∀ x ∈ l, x.length ≤ 240) : sumLen l ≤ 240 * l.length := by
  induction l with
  | nil => exact Nat.le_refl _
  | cons x l ih =>
    have h1 := h x List.mem_cons_self
    have h2 := ih (fun y hy => h y (List.mem_cons_of_mem _ hy))
    simp only [sumLen, List.length_cons]; omega
theorem prOf_rows (b : List Int) (hb : IsBytes b) : (prOf b).2.1.length ≤ 255 ∧ ∀ x ∈ (prOf b).2.1, x.length ≤ 240 := by
  unfold prOf
  split
  · rename_i h
    have hr := rd_byte (body64_bytes hb) 0
    cases hs : prScan (body64 b) (rd (body64 b) 0).toNat 0 (1 + rd (body64 b) 0) [] with
    | none => exact ⟨by simp [prEnd], by simp [prEnd]⟩
    | some R =>
      obtain ⟨h1, h2⟩ := prScan_rows _ (body64_length b h) _ _ _ _ _ hs (by simp)
      simp only [prEnd]
      split
      · exact ⟨by show R.length ≤ 255; simp at h1; omega, h2⟩
      · exact ⟨by simp, by simp⟩
  · exact ⟨by simp, by simp⟩
theorem prEnd_ev {F : Nat → Option (Int × List (List Int) × Bool)} (b : List Int) (lsn : Int) (rows : List (List Int)) {P : Nat → Option (List Int)} (hP : Ev P (pbOf lsn rows))
    (h : ∀ k, F (k + 1) = (P k).bind fun t => if (strOfNums t).toList = (strOfNums b).toList then some (lsn, rows, true) else some (0, [], false)) : Ev F (prEnd b lsn (some rows)) := by
  refine Ev.step (f := fun k => (P k).bind fun t => if (strOfNums t).toList = (strOfNums b).toList then some (lsn, rows, true) else some (0, [], false)) h (Ev.bind hP ?_)
  simp only [prEnd]
  by_cases hc : (strOfNums (pbOf lsn rows)).toList = (strOfNums b).toList
  · simp only [if_pos hc]; exact Ev.now _
  · simp only [if_neg hc]; exact Ev.now _
theorem impl_PageRead_l (b B : List Int) (hB : B.length = 240) (hb : IsBytes B) (lsn : Int) (n : Nat) (hn : n ≤ 255) (d : Nat) : ∀ (i : Nat) (p : Int) (rows : List (List Int)), i + d = n → 0 ≤ p → (n ≤ 239 ∨ 240 < p) → p ≤ 1000 → rows.length ≤ i →
    Ev (fun k => impl_PageRead.l0 k b B p (n : Int) (i : Int) lsn rows) (prEnd b lsn (prScan B d i p rows)) := by
  induction d with
  | zero =>
    intro i p rows hi h0 hp h1 hr
    refine prEnd_ev b lsn rows (impl_PageBytes_f lsn rows (by omega)) (fun k => ?_)
    rw [impl_PageRead.l0, if_neg (by omega)]
    congr 1
    funext t
    simp only [bytes_Equal.f, Option.bind_some, beq_iff_eq]
  | succ d ih =>
    intro i p rows hi h0 hp h1 hr
    have hk := rd_byte hb (1 + (i : Int))
    unfold prScan
    by_cases hc : p ≤ 240 ∧ rd B (1 + (i : Int)) ≤ 240 - p
    · rw [if_pos hc]
      refine Ev.step (fun k => ?_) (ih (i + 1) (p + rd B (1 + (i : Int))) _ (by omega) (by omega) (by omega) (by omega) (by rw [List.length_append, List.length_singleton]; omega))
      rw [impl_PageRead.l0, if_pos (by omega), w64 (x := 1 + (i : Int)) (by omega) (by omega), impl_hasBytes_f B (by omega)]
      simp only [Option.bind_some]
      rw [if_pos (by simp; omega), if_pos (by omega), if_pos (by omega), w64 (x := rd B (1 + (i : Int))) (by omega) (by omega), impl_hasBytes_f B (by omega)]
      simp only [Option.bind_some]
      rw [if_pos (by simp; omega), if_pos (by omega), w64 (x := p + rd B (1 + (i : Int))) (by omega) (by omega), if_pos (by omega), if_pos (by omega), cloneByte_f _ (by simp only [List.length_drop, List.length_take]; omega)]
      simp only [Option.bind_some]
      rw [if_pos (by omega), w64 (x := (i : Int) + 1) (by omega) (by omega)]
      rfl
    · rw [if_neg hc]
      refine Ev.step (f := fun _ => some (0, [], false)) (fun k => ?_) (Ev.now _)
      rw [impl_PageRead.l0, if_pos (by omega), w64 (x := 1 + (i : Int)) (by omega) (by omega), impl_hasBytes_f B (by omega)]
      simp only [Option.bind_some]
      by_cases h2 : 1 + (i : Int) < 240
      · rw [if_pos (by simp; omega), if_pos (by omega), if_pos (by omega), w64 (x := rd B (1 + (i : Int))) (by omega) (by omega), impl_hasBytes_f B (by omega)]
        simp only [Option.bind_some]
        rw [if_neg (by simp; omega)]
      · rw [if_neg (by simp; omega)]
theorem spec_PageRead_l (b B : List Int) (hB : B.length = 240) (hb : IsBytes B) (lsn : Int) (n : Nat) (hn : n ≤ 255) (d : Nat) : ∀ (i : Nat) (p : Int) (rows : List (List Int)), i + d = n → 0 ≤ p → (n ≤ 239 ∨ (240 < p ∧ i = 0)) → p ≤ 1000 → rows.length ≤ i →
    Ev (fun k => spec_PageRead.l1 k b B (n : Int) p (i : Int) lsn rows) (prEnd b lsn (prScan B d i p rows)) := by
  induction d with
  | zero =>
    intro i p rows hi h0 hp h1 hr
    refine Ev.step (f := fun k => spec_PageRead.j2 k b B (n : Int) p (i : Int) false lsn rows) (fun k => ?_) ?_
    · rw [spec_PageRead.l1, if_neg (by omega)]
    refine prEnd_ev b lsn rows (spec_PageBytes_f lsn rows (by omega)) (fun k => ?_)
    rw [spec_PageRead.j2, if_neg (by simp)]
  | succ d ih =>
    intro i p rows hi h0 hp h1 hr
    have hk := rd_byte hb (1 + (i : Int))
    refine Ev.step (f := fun k => spec_PageRead.j2 k b B (n : Int) p (i : Int) true lsn rows) (fun k => ?_) ?_
    · rw [spec_PageRead.l1, if_pos (by omega), w64 (x := 1 + (i : Int)) (by omega) (by omega), decide_eq_true (by omega)]
    unfold prScan
    by_cases hc : p ≤ 240 ∧ rd B (1 + (i : Int)) ≤ 240 - p
    · rw [if_pos hc]
      refine Ev.step (fun k => ?_) (ih (i + 1) (p + rd B (1 + (i : Int))) _ (by omega) (by omega) (by omega) (by omega) (by rw [List.length_append, List.length_singleton]; omega))
      rw [spec_PageRead.j2, if_pos rfl, w64 (x := 1 + (i : Int)) (by omega) (by omega), if_pos (by omega), if_pos (by omega), if_neg (by omega), w64 (x := rd B (1 + (i : Int))) (by omega) (by omega), w64 (x := (B.length : Int) - p) (by omega) (by omega), if_neg (by omega)]
      simp only [Option.bind_some]
      rw [if_pos (by omega), w64 (x := p + rd B (1 + (i : Int))) (by omega) (by omega), if_pos (by omega), if_pos (by omega), if_pos (by simp only [List.length_drop, List.length_take, List.length_nil]; omega), if_pos (by omega), w64 (x := (i : Int) + 1) (by omega) (by omega)]
      rfl
    · rw [if_neg hc]
      refine Ev.step (f := fun _ => some (0, [], false)) (fun k => ?_) (Ev.now _)
      rw [spec_PageRead.j2, if_pos rfl, w64 (x := 1 + (i : Int)) (by omega) (by omega), if_pos (by omega), if_pos (by omega)]
      by_cases h2 : p > (B.length : Int)
      · rw [if_pos h2]
      · rw [if_neg h2, w64 (x := rd B (1 + (i : Int))) (by omega) (by omega), w64 (x := (B.length : Int) - p) (by omega) (by omega), if_pos (by omega)]
theorem spec_PageRead_l0 (b : List Int) (h : b.length = 256) (hb : IsBytes b) (lsn : Int) (d : Nat) : ∀ j : Nat, j + d = 4 →
    Ev (fun k => spec_PageRead.l0 k b (cut4 b (fours.take j)) ((64 * j : Nat) : Int) lsn) (prEnd b lsn (prScan (body64 b) (rd (body64 b) 0).toNat 0 (1 + rd (body64 b) 0) [])) := by
  induction d with
  | zero =>
    intro j hj
    obtain rfl : j = 4 := by omega
    have hB := body64_length b h
    have hr := rd_byte (body64_bytes hb) 0
    have e : (((rd (body64 b) 0).toNat : Nat) : Int) = rd (body64 b) 0 := by omega
    have := spec_PageRead_l b (body64 b) hB (body64_bytes hb) lsn (rd (body64 b) 0).toNat (by omega) (rd (body64 b) 0).toNat 0 (1 + rd (body64 b) 0) [] (by omega) (by omega) (by omega) (by omega) (by simp)
    rw [e] at this
    refine Ev.step (fun k => ?_) this
    show spec_PageRead.l0 (k + 1) b (body64 b) _ lsn = _
    rw [spec_PageRead.l0, if_neg (by omega), if_pos (by omega), w64 (x := rd (body64 b) 0) (by omega) (by omega), w64 (x := 1 + rd (body64 b) 0) (by omega) (by omega)]
    rfl
  | succ d ih =>
    intro j hj
    have hl := cut4_len b (fours.take j)
    have hl2 : (fours.take j).length * 60 ≤ 4 * 60 := Nat.mul_le_mul (by rw [List.length_take]; exact Nat.le_trans (Nat.min_le_left _ _) (by omega)) (by omega)
    have e : (b.take (64 * j + 64)).drop (64 * j + 4) = ((b.drop (64 * j)).take 64).drop 4 := by
      rw [← List.drop_drop, List.drop_take]
      congr 2
      omega
    have hl3 : (((b.drop (64 * j)).take 64).drop 4).length ≤ 60 := by rw [List.length_drop, List.length_take]; omega
    refine Ev.step (fun k => ?_) (ih (j + 1) (by omega))
    rw [spec_PageRead.l0, if_pos (by omega), w64 (x := ((64 * j : Nat) : Int) + 4) (by omega) (by omega), w64 (x := ((64 * j : Nat) : Int) + 64) (by omega) (by omega), if_pos (by omega), if_pos (by omega), if_pos (by omega),
      show ((((64 * j : Nat) : Int) + 64 : Int)).toNat = 64 * j + 64 by omega, show ((((64 * j : Nat) : Int) + 4 : Int)).toNat = 64 * j + 4 by omega, e, if_pos (by omega), fours_take j (by omega), cut4_snoc,
      show (((64 * j : Nat) : Int) + 64 : Int) = ((64 * (j + 1) : Nat) : Int) by omega]
theorem spec_PageRead_f (b : List Int) (hb : IsBytes b) (hn : b.length ≤ 1048576) : Ev (fun k => spec_PageRead.f k b) (prOf b) := by
  unfold spec_PageRead.f prOf
  by_cases h : b.length = 256
  · rw [if_pos h]
    refine ev_pos (by omega) (Ev.bind (spec_GetNum_f b hb hn 0 4 (by omega) (by omega)) ?_)
    exact spec_PageRead_l0 b h hb _ 4 0 rfl
  · rw [if_neg h]
    exact ev_neg (by omega) (Ev.now _)
theorem impl_PageRead_f (b : List Int) (hb : IsBytes b) (hn : b.length ≤ 1048576) : Ev (fun k => impl_PageRead.f k b) (prOf b) := by
  unfold impl_PageRead.f prOf
  by_cases h : b.length = 256
  · rw [if_pos h]
    refine ev_pos (by omega) (Ev.bind (impl_GetNum_f b hb hn 0 4) ?_)
    have hB := body64_length b h
    have hr := rd_byte (body64_bytes hb) 0
    have e : (((rd (body64 b) 0).toNat : Nat) : Int) = rd (body64 b) 0 := by omega
    have := impl_PageRead_l b (body64 b) hB (body64_bytes hb) (gn b 0 4).1 (rd (body64 b) 0).toNat (by omega) (rd (body64 b) 0).toNat 0 (1 + rd (body64 b) 0) [] (by omega) (by omega) (by omega) (by omega) (by simp)
    rw [e] at this
    refine ev_pos (by omega) (ev_pos (by omega) (ev_pos (by simp only [List.length_nil]; omega) (ev_bind0 rfl ?_)))
    rw [List.nil_append]
    refine ev_pos (by omega) ?_
    rw [w64 (x := rd (body64 b) 0) (by omega) (by omega), w64 (x := 1 + rd (body64 b) 0) (by omega) (by omega)]
    exact this
  · rw [if_neg h]
    exact ev_neg (by omega) (Ev.now _)


/-- The pure statement. -/
def Stmt : Prop := ∀ (l0 : List (Int)), ((fun xs => xs.length ≤ 9223372036854775807 ∧ ∀ x ∈ xs, (fun n => (Lit.int .u8 n).wf = true) x) l0) → laws_FnExactPageRead.H l0
theorem main : Stmt := by
  intro b ⟨hl, hw⟩
  have hb : IsBytes b := isBytes_of hw
  unfold laws_FnExactPageRead.H
  by_cases h : (1048576 : Int) < (b.length : Int)
  · exact Or.inl h
  refine Or.inr ⟨h, ?_⟩
  have hn : b.length ≤ 1048576 := by omega
  obtain ⟨h1, h2⟩ := prOf_rows b hb
  have h3 := sumLen_240 _ h2
  have h2' : ∀ x ∈ (prOf b).2.1, x.length ≤ 1048576 := fun x hx => by have := h2 x hx; omega
  obtain ⟨k1, e1⟩ := Ev.rounds (toByteS_f b hn)
  obtain ⟨k2, e2⟩ := Ev.rounds (spec_PageRead_f b hb hn)
  obtain ⟨k3, e3⟩ := Ev.rounds (impl_PageRead_f b hb hn)
  obtain ⟨k4, e4⟩ := Ev.rounds (eqPage_same (prOf b).1 (prOf b).2.1 (by omega) h2')
  obtain ⟨k5, e5⟩ := Ev.rounds (eqByteS_same b hn)
  obtain ⟨k6, e6⟩ := Ev.rounds (markByteS_f b hn 1 (by omega) (by omega))
  obtain ⟨k7, e7⟩ := Ev.rounds (markPage_f (prOf b).1 (prOf b).2.1 (by omega) h2' 1 (by omega) (by omega))
  obtain ⟨k8, e8⟩ := Ev.rounds (heldPage_f (prOf b).1 (prOf b).2.1 (by omega) h2' 1 (by omega) (by omega))
  exact ⟨k1, _, e1, k2, _, _, _, e2, k1, _, e1, k3, e3, k4, e4, k1, _, e1, k5, e5, k6, _, _, e6, by omega, k4, e4, k7, _, _, e7, by omega, k8, e8, k1, _, e1, k3, e3, k4, e4, k8, e8, trivial⟩

end Go.Proofs.Ytokpniagnbaflaa.Pure.ofFnExactPageRead
namespace Go.Proofs.Ytokpniagnbaflaa.PrintWords
/-- The word that the printed row asks for, under the name by which it asks. -/
abbrev sized_ints := @Go.Proofs.YtokpniagnbaflaaW.PrintWords.sized_ints
end Go.Proofs.Ytokpniagnbaflaa.PrintWords
namespace Go.Proofs.Ytokpniagnbaflaa.Pure
open Go.Proofs.Ytokpniagnbaflaa.PFnExactPageRead
theorem FnExactPageRead : ofFnExactPageRead.Stmt := ofFnExactPageRead.main
end Go.Proofs.Ytokpniagnbaflaa.Pure

/-
The law FnExactLogScan answers true: for all bytes and every number the program's LogScan gives the reference's records and end, the records in memory of their own, and the bytes stay as they were.
Conditions: none beyond the bounds of the statement itself.
-/
import Derived.Test.YtkbclccnnllddaaPFnExactLogScanx7
import Derived.Test.YtkbclccnnllddaaWSized
set_option linter.unusedVariables false
set_option linter.unusedSimpArgs false
namespace Go.Proofs.Ytkbclccnnllddaa.Pure.ofFnExactLogScan
open Go.RowKit Go.Proofs.Ytkbclccnnllddaa.PFnExactLogScan Go.Proofs.YtkbclccnnllddaaW.PrintWords Go.Proofs.YtkbclccnnllddaaW.PrintLast Go.Proofs.YtkbclccnnllddaaW.PrintMore

theorem ev_pos {α : Type} {c : Prop} [Decidable c] {A B : Nat → Option α} {r : α} (hc : c) (h : Ev A r) : Ev (fun k => if c then A k else B k) r := by
  refine Ev.congr (fun k => ?_) h
  rw [if_pos hc]
theorem ev_neg {α : Type} {c : Prop} [Decidable c] {A B : Nat → Option α} {r : α} (hc : ¬ c) (h : Ev B r) : Ev (fun k => if c then A k else B k) r := by
  refine Ev.congr (fun k => ?_) h
  rw [if_neg hc]
theorem ev_bind0 {α β : Type} {g : Option α} {f : Nat → α → Option β} {a : α} {r : β} (h : g = some a) (k : Ev (fun n => f n a) r) : Ev (fun n => g.bind (f n)) r := by
  refine Ev.congr (fun n => ?_) k
  rw [h]; rfl
theorem w64 {x : Int} (h0 : -9223372036854775808 ≤ x) (h1 : x ≤ 9223372036854775807) : wrap64 x = x := by
  unfold wrap64; omega
theorem rd_cons (x : Int) (l : List Int) : rd (x :: l) 0 = x := rfl
theorem rd_nat (l : List Int) (i : Nat) (h : i < l.length) : rd l (i : Int) = l[i] := by
  simp [rd, List.getD_eq_getElem?_getD, List.getElem?_eq_getElem h]
theorem rd_at (l : List Int) (i : Int) (h0 : 0 ≤ i) (h : i < l.length) : ∃ x, x ∈ l ∧ rd l i = x := by
  obtain ⟨n, rfl⟩ := Int.eq_ofNat_of_zero_le h0
  exact ⟨l[n]'(by omega), List.getElem_mem _, rd_nat l n (by omega)⟩
def marks (m : Int) : Nat → List Int
  | 0 => []
  | n + 1 => m :: marks (m + 1) n
def marksB (m : Int) : Nat → List Int
  | 0 => []
  | n + 1 => (m % 256) :: marksB (m + 1) n
theorem marks_length (n : Nat) : ∀ m, (marks m n).length = n := by
  induction n with
  | zero => intro m; rfl
  | succ n ih => intro m; simp [marks, ih]
theorem marksB_length (n : Nat) : ∀ m, (marksB m n).length = n := by
  induction n with
  | zero => intro m; rfl
  | succ n ih => intro m; simp [marksB, ih]
theorem marks_get (n : Nat) : ∀ m (i : Nat) (h : i < (marks m n).length), (marks m n)[i] = m + i := by
  induction n with
  | zero => intro m i h; simp [marks] at h
  | succ n ih =>
    intro m i h
    cases i with
    | zero => simp [marks]
    | succ i => simp only [marks, List.getElem_cons_succ]; rw [ih]; push_cast; omega
theorem marksB_get (n : Nat) : ∀ m (i : Nat) (h : i < (marksB m n).length), (marksB m n)[i] = (m + i) % 256 := by
  induction n with
  | zero => intro m i h; simp [marksB] at h
  | succ n ih =>
    intro m i h
    cases i with
    | zero => simp [marksB]
    | succ i => simp only [marksB, List.getElem_cons_succ]; rw [ih]; push_cast; omega

def IsBytes (l : List Int) : Prop := ∀ x ∈ l, 0 ≤ x ∧ x ≤ 255
theorem isBytes_of {l : List Int} (h : ∀ x ∈ l, (Lit.int .u8 x).wf = true) : IsBytes l := by
  intro x hx
  have := h x hx
  simpa [Lit.wf, IntKind.min, IntKind.max, IntKind.signed, IntKind.bits] using this
theorem rd_byte {l : List Int} (h : IsBytes l) (i : Int) : 0 ≤ rd l i ∧ rd l i ≤ 255 := by
  by_cases hi : i.toNat < l.length
  · have : rd l i = l[i.toNat] := by simp [rd, List.getD_eq_getElem?_getD, List.getElem?_eq_getElem hi]
    rw [this]
    exact h _ (List.getElem_mem _)
  · have : rd l i = 0 := by simp [rd, List.getD_eq_getElem?_getD, List.getElem?_eq_none (by omega : l.length ≤ i.toNat)]
    omega

theorem isBytes_append {a b : List Int} (ha : IsBytes a) (hb : IsBytes b) : IsBytes (a ++ b) := by
  intro x hx
  rcases List.mem_append.1 hx with h | h
  · exact ha x h
  · exact hb x h
theorem isBytes_one {x : Int} (h : 0 ≤ x ∧ x ≤ 255) : IsBytes [x] := by
  intro y hy
  rw [List.mem_singleton.1 hy]
  exact h
theorem isBytes_nil : IsBytes [] := fun x hx => by cases hx
theorem isBytes_take {a : List Int} (h : IsBytes a) (n : Nat) : IsBytes (a.take n) := fun x hx => h x (List.mem_of_mem_take hx)
theorem isBytes_drop {a : List Int} (h : IsBytes a) (n : Nat) : IsBytes (a.drop n) := fun x hx => h x (List.mem_of_mem_drop hx)

theorem impl_within_f (a b c : Int) : impl_within.f a b c = some (decide (b ≤ a ∧ a ≤ c)) := by
  unfold impl_within.f
  by_cases h : b ≤ a <;> simp [h]

theorem spec_l5in_f (a b c : Int) : spec_l5in.f a b c = some (decide (b ≤ a ∧ a ≤ c)) := by
  unfold spec_l5in.f
  by_cases h : b ≤ a <;> simp [h]

/-- the number of d bytes from p on, low first -/
def gv (l : List Int) (p : Int) : Nat → Int
  | 0 => 0
  | d + 1 => rd l p + 256 * gv l (p + 1) d
theorem gv_range {l : List Int} (h : IsBytes l) (d : Nat) : ∀ p, 0 ≤ gv l p d ∧ gv l p d < 256 ^ d := by
  induction d with
  | zero => intro p; simp [gv]
  | succ d ih =>
    intro p
    have h1 := ih (p + 1)
    have h2 := rd_byte h p
    simp only [gv]
    rw [Int.pow_succ]
    constructor
    · omega
    · have : gv l (p + 1) d + 1 ≤ 256 ^ d := h1.2
      omega
theorem gv_small {l : List Int} (h : IsBytes l) (d : Nat) (hd : d ≤ 7) (p : Int) : 0 ≤ gv l p d ∧ gv l p d < 72057594037927936 := by
  refine ⟨(gv_range h d p).1, Int.lt_of_lt_of_le (gv_range h d p).2 ?_⟩
  have : d = 0 ∨ d = 1 ∨ d = 2 ∨ d = 3 ∨ d = 4 ∨ d = 5 ∨ d = 6 ∨ d = 7 := by omega
  rcases this with rfl | rfl | rfl | rfl | rfl | rfl | rfl | rfl <;> decide
theorem gv_eight {l : List Int} (h : IsBytes l) (d : Nat) (hd : d ≤ 8) (p : Int) : 0 ≤ gv l p d ∧ gv l p d < 18446744073709551616 := by
  refine ⟨(gv_range h d p).1, Int.lt_of_lt_of_le (gv_range h d p).2 ?_⟩
  have : d = 0 ∨ d = 1 ∨ d = 2 ∨ d = 3 ∨ d = 4 ∨ d = 5 ∨ d = 6 ∨ d = 7 ∨ d = 8 := by omega
  rcases this with rfl | rfl | rfl | rfl | rfl | rfl | rfl | rfl | rfl <;> decide
def GnOk (l : List Int) (at_ size : Int) : Prop := (1 ≤ size ∧ size ≤ 8) ∧ (0 ≤ at_ ∧ at_ ≤ l.length) ∧ size ≤ l.length - at_
instance (l : List Int) (at_ size : Int) : Decidable (GnOk l at_ size) := by unfold GnOk; infer_instance
def gn (l : List Int) (at_ size : Int) : Int × Bool := if GnOk l at_ size ∧ gv l at_ size.toNat < 9223372036854775808 then (gv l at_ size.toNat, true) else (0, false)
theorem u64_or {x y : Int} (h0 : 0 ≤ x) (h1 : x < 72057594037927936) (h2 : 0 ≤ y) (h3 : y ≤ 255) : Go.bits .or .u64 (IntKind.u64.wrap (x * 256)) y = y + 256 * x := by
  have e : IntKind.u64.wrap (x * 256) = x * 256 := by simp [IntKind.wrap, IntKind.bits, IntKind.signed]; omega
  rw [e, bits_join .u64 64 (by decide) (fun n a b => by simp [IntKind.wrap, IntKind.bits, IntKind.signed]; omega) 8 (x * 256) y (by omega) (by simp) (by omega) h2 (by omega) (by omega)]
  omega
theorem u64_id {x : Int} (h0 : 0 ≤ x) (h1 : x < 18446744073709551616) : IntKind.u64.wrap x = x := by simp [IntKind.wrap, IntKind.bits, IntKind.signed]; omega
theorem gv_le {l : List Int} (h : IsBytes l) (p : Int) (n : Nat) (d : Nat) : d ≤ n → gv l (p + d) (n - d) ≤ gv l p n := by
  induction d with
  | zero => intro _; simp
  | succ d ih =>
    intro hd
    refine Int.le_trans ?_ (ih (by omega))
    rw [show n - d = (n - (d + 1)) + 1 by omega]
    have h1 := (gv_range h (n - (d + 1)) (p + (d : Int) + 1)).1
    have h2 := rd_byte h (p + d)
    simp only [gv]
    rw [show p + ((d + 1 : Nat) : Int) = p + (d : Int) + 1 by omega]
    omega
theorem gv_top {l : List Int} (h : IsBytes l) (p : Int) : rd l (p + 7) > 127 ↔ 9223372036854775808 ≤ gv l p 8 := by
  have h0 := rd_byte h p
  have h1 := rd_byte h (p + 1)
  have h2 := rd_byte h (p + 1 + 1)
  have h3 := rd_byte h (p + 1 + 1 + 1)
  have h4 := rd_byte h (p + 1 + 1 + 1 + 1)
  have h5 := rd_byte h (p + 1 + 1 + 1 + 1 + 1)
  have h6 := rd_byte h (p + 1 + 1 + 1 + 1 + 1 + 1)
  have h7 := rd_byte h (p + 1 + 1 + 1 + 1 + 1 + 1 + 1)
  have e : p + 7 = p + 1 + 1 + 1 + 1 + 1 + 1 + 1 := by omega
  rw [e]
  simp only [gv]
  omega
theorem gv_step (l : List Int) (p : Int) (n d : Nat) (hd : d < n) : gv l (p + d) (n - d) = gv l (p + (d + 1 : Nat)) (n - (d + 1)) * 256 + rd l (p + d) := by
  rw [show n - d = (n - (d + 1)) + 1 by omega]
  simp only [gv]
  rw [show p + (d : Int) + 1 = p + (d + 1 : Nat) by omega]
  omega
theorem gv_high {l : List Int} (hl : IsBytes l) (p : Int) (n : Nat) (hn : n ≤ 8) (hG : ¬ gv l p n < 9223372036854775808) : n = 8 := by
  by_cases h : n = 8
  · exact h
  · have := gv_small hl n (by omega) p
    omega
theorem spec_GetNum_l (l : List Int) (hl : IsBytes l) (hn : l.length ≤ 1048576) (p size : Int) (ok : GnOk l p size) (hG : gv l p size.toNat < 9223372036854775808) (d : Nat) : ∀ (i : Int), i + 1 = d → d ≤ size →
    Ev (fun k => spec_GetNum.l0 k l p (gv l (p + d) (size.toNat - d)) i) (gv l p size.toNat, true) := by
  obtain ⟨⟨s1, s2⟩, ⟨p1, p2⟩, hs⟩ := ok
  induction d with
  | zero =>
    intro i hi _
    refine Ev.step (f := fun _ => some (gv l p size.toNat, true)) (fun k => ?_) (Ev.now _)
    simp only [spec_GetNum.l0]
    rw [if_neg (by omega)]
    simp
  | succ d ih =>
    intro i hi hd
    have hid : i = d := by omega
    subst hid
    have e : wrap64 (p + d) = p + d := w64 (by omega) (by omega)
    have hb := rd_byte hl (p + d)
    have hm := gv_le hl p size.toNat d (by omega)
    have hs' := gv_step l p size.toNat d (by omega)
    have hg := (gv_range hl (size.toNat - (d + 1)) (p + (d + 1 : Nat))).1
    have er : wrap64 (rd l (p + d)) = rd l (p + d) := w64 (by omega) (by omega)
    refine Ev.step (fun k => ?_) (ih ((d : Int) - 1) (by omega) (by omega))
    simp only [spec_GetNum.l0]
    rw [e, er, if_pos (by omega), if_pos (by omega), if_pos (by omega), w64 (x := gv l (p + (d + 1 : Nat)) (size.toNat - (d + 1)) * 256) (by omega) (by omega),
      w64 (x := gv l (p + (d + 1 : Nat)) (size.toNat - (d + 1)) * 256 + rd l (p + d)) (by omega) (by omega), ← hs', w64 (x := (d : Int) - 1) (by omega) (by omega)]
    by_cases h8 : d = 7
    · subst h8
      have h9 : size.toNat = 8 := by omega
      have h10 := gv_top hl p
      rw [h9] at hG
      rw [if_pos (by omega), if_neg (by push_cast; omega)]
    · rw [if_neg (by omega)]
theorem spec_GetNum_f (l : List Int) (hl : IsBytes l) (hn : l.length ≤ 1048576) (p size : Int) (h0 : -9223372036854775808 ≤ p) (h1 : p ≤ 9223372036854775807) : Ev (fun k => spec_GetNum.f k l p size) (gn l p size) := by
  unfold spec_GetNum.f
  by_cases s1 : size < 1
  · refine ev_pos s1 (Ev.step (f := fun _ => some (0, false)) (fun k => by simp only [spec_GetNum.j0, if_true]) ?_)
    rw [gn, if_neg (fun h => by have := h.1.1; omega)]
    exact Ev.now _
  refine ev_neg s1 ?_
  by_cases s2 : size > 8
  · refine ev_pos s2 (Ev.step (f := fun _ => some (0, false)) (fun k => by simp only [spec_GetNum.j0, if_true]) ?_)
    rw [gn, if_neg (fun h => by have := h.1.1; omega)]
    exact Ev.now _
  refine ev_neg s2 ?_
  by_cases s3 : p < 0
  · refine ev_pos s3 (Ev.step (f := fun _ => some (0, false)) (fun k => by simp only [spec_GetNum.j0, if_true]) ?_)
    rw [gn, if_neg (fun h => by have := h.1.2.1; omega)]
    exact Ev.now _
  refine ev_neg s3 ?_
  by_cases s4 : p > (l.length : Int)
  · refine ev_pos s4 (Ev.step (f := fun _ => some (0, false)) (fun k => by simp only [spec_GetNum.j0, if_true]) ?_)
    rw [gn, if_neg (fun h => by have := h.1.2.1; omega)]
    exact Ev.now _
  refine ev_neg s4 ?_
  have e : wrap64 ((l.length : Int) - p) = l.length - p := w64 (by omega) (by omega)
  by_cases s5 : size > l.length - p
  · refine Ev.step (f := fun _ => some (0, false)) (fun k => by simp only [spec_GetNum.j0]; rw [e, if_pos (decide_eq_true s5)]) ?_
    rw [gn, if_neg (fun h => by have := h.1.2.2; omega)]
    exact Ev.now _
  have ok : GnOk l p size := ⟨⟨by omega, by omega⟩, ⟨by omega, by omega⟩, by omega⟩
  refine Ev.step (f := fun k => spec_GetNum.l0 k l p 0 (size - 1)) (fun k => ?_) ?_
  · simp only [spec_GetNum.j0]
    rw [e, if_neg (by simpa using s5), w64 (x := size - 1) (by omega) (by omega)]
  by_cases hG : gv l p size.toNat < 9223372036854775808
  · rw [gn, if_pos ⟨ok, hG⟩]
    have := spec_GetNum_l l hl hn p size ok hG size.toNat (size - 1) (by omega) (by omega)
    rw [Nat.sub_self] at this
    exact this
  · rw [gn, if_neg (fun h => hG h.2)]
    have h8 := gv_high hl p size.toNat (by omega) hG
    obtain rfl : size = 8 := by omega
    have ht := (gv_top hl p).2 (by simpa using hG)
    have hb := rd_byte hl (p + 7)
    refine Ev.step (f := fun _ => some (0, false)) (fun k => ?_) (Ev.now _)
    simp only [spec_GetNum.l0]
    have e7 : wrap64 (p + (8 - 1)) = p + 7 := by rw [w64 (by omega) (by omega)]; omega
    rw [e7, if_pos (by omega), if_pos (by omega), if_pos (by omega), if_pos (by omega), if_pos (by rw [w64 (by omega) (by omega)]; exact ht)]
theorem impl_GetNum_l (l : List Int) (hl : IsBytes l) (hn : l.length ≤ 1048576) (p size : Int) (ok : GnOk l p size) (d : Nat) : ∀ (i : Int), i + 1 = d → d ≤ size →
    Ev (fun k => impl_GetNum.l0 k l p (gv l (p + d) (size.toNat - d)) i) (gn l p size) := by
  have ok' := ok
  obtain ⟨⟨s1, s2⟩, ⟨p1, p2⟩, hs⟩ := ok
  induction d with
  | zero =>
    intro i hi _
    refine Ev.step (f := fun _ => some (gn l p size)) (fun k => ?_) (Ev.now _)
    have e0 : gv l (p + ((0 : Nat) : Int)) (size.toNat - 0) = gv l p size.toNat := by simp
    have h := gv_eight hl size.toNat (by omega) p
    simp only [impl_GetNum.l0]
    rw [e0, if_neg (by omega)]
    by_cases hG : gv l p size.toNat < 9223372036854775808
    · have hgn : gn l p size = (gv l p size.toNat, true) := by rw [gn, if_pos ⟨ok', hG⟩]
      rw [hgn, if_neg (by omega), w64 (by omega) (by omega)]
    · have hgn : gn l p size = (0, false) := by rw [gn, if_neg (fun h => hG h.2)]
      rw [hgn, if_pos (by omega)]
  | succ d ih =>
    intro i hi hd
    have hid : i = d := by omega
    subst hid
    have e : wrap64 (p + d) = p + d := w64 (by omega) (by omega)
    have hb := rd_byte hl (p + d)
    have hs' := gv_step l p size.toNat d (by omega)
    have hg := gv_small hl (size.toNat - (d + 1)) (by omega) (p + (d + 1 : Nat))
    refine Ev.step (fun k => ?_) (ih ((d : Int) - 1) (by omega) (by omega))
    simp only [impl_GetNum.l0]
    rw [e, if_pos (by omega), if_pos (by omega), if_pos (by omega), u64_id (x := rd l (p + d)) (by omega) (by omega), u64_or hg.1 hg.2 hb.1 hb.2, w64 (x := (d : Int) - 1) (by omega) (by omega), hs', Int.mul_comm 256, Int.add_comm]
theorem impl_hasBytes_f (l : List Int) (hn : l.length ≤ 1048576) (p many : Int) : impl_hasBytes.f l p many = some (decide ((0 ≤ p ∧ p ≤ l.length) ∧ many ≤ l.length - p)) := by
  unfold impl_hasBytes.f
  rw [impl_within_f]
  simp only [Option.bind_some, decide_eq_true_eq]
  by_cases h : 0 ≤ p ∧ p ≤ l.length
  · rw [if_pos h, w64 (by omega) (by omega)]
    simp [h]
  · rw [if_neg h]
    simp [h]
theorem impl_GetNum_f (l : List Int) (hl : IsBytes l) (hn : l.length ≤ 1048576) (p size : Int) : Ev (fun k => impl_GetNum.f k l p size) (gn l p size) := by
  unfold impl_GetNum.f
  refine ev_bind0 (impl_within_f _ _ _) ?_
  by_cases s1 : 1 ≤ size ∧ size ≤ 8
  · refine ev_pos (decide_eq_true s1) ?_
    refine ev_bind0 (impl_hasBytes_f l hn p size) ?_
    by_cases s2 : (0 ≤ p ∧ p ≤ l.length) ∧ size ≤ l.length - p
    · have ok : GnOk l p size := ⟨s1, s2.1, s2.2⟩
      refine Ev.step (f := fun k => impl_GetNum.l0 k l p 0 (size - 1)) (fun k => ?_) ?_
      · simp only [impl_GetNum.j0]
        rw [if_neg (by simp [s2]), w64 (x := size - 1) (by omega) (by omega)]
      · have := impl_GetNum_l l hl hn p size ok size.toNat (size - 1) (by omega) (by omega)
        rw [Nat.sub_self] at this
        exact this
    · refine Ev.step (f := fun _ => some (0, false)) (fun k => by simp only [impl_GetNum.j0]; rw [if_pos (by simp only [decide_eq_false s2, Bool.not_false])]) ?_
      rw [gn, if_neg (fun h => s2 ⟨h.1.2.1, h.1.2.2⟩)]
      exact Ev.now _
  · refine ev_neg (by simpa using s1) ?_
    refine Ev.step (f := fun _ => some (0, false)) (fun k => by simp only [impl_GetNum.j0, if_true]) ?_
    rw [gn, if_neg (fun h => s1 h.1.1)]
    exact Ev.now _

def stN (n : Nat) : Nat := (n / 2) ^^^ (if n % 2 = 1 then 3988292384 else 0)
def itN (n : Nat) : Nat → Nat
  | 0 => n
  | m + 1 => stN (itN n m)
theorem stN_lt (n : Nat) (h : n < 2 ^ 32) : stN n < 2 ^ 32 := by
  unfold stN
  refine Nat.xor_lt_two_pow (by omega) ?_
  split <;> decide
theorem itN_lt (n : Nat) (h : n < 2 ^ 32) (m : Nat) : itN n m < 2 ^ 32 := by
  induction m with
  | zero => exact h
  | succ m ih => exact stN_lt _ ih
theorem xor_half (a b : Nat) : (a ^^^ b) / 2 = (a / 2) ^^^ (b / 2) := by
  refine Nat.eq_of_testBit_eq fun i => ?_
  rw [Nat.testBit_xor, Nat.testBit_div_two, Nat.testBit_div_two, Nat.testBit_div_two, Nat.testBit_xor]
theorem xor_par (a b : Nat) : (a ^^^ b) % 2 = (a % 2 + b % 2) % 2 := by
  have h := Nat.testBit_xor a b 0
  simp only [Nat.testBit_zero] at h
  have h1 : a % 2 = 0 ∨ a % 2 = 1 := by omega
  have h2 : b % 2 = 0 ∨ b % 2 = 1 := by omega
  have h3 : (a ^^^ b) % 2 = 0 ∨ (a ^^^ b) % 2 = 1 := by omega
  rcases h1 with h1 | h1 <;> rcases h2 with h2 | h2 <;> rcases h3 with h3 | h3 <;> simp [h1, h2, h3] at h ⊢
theorem stN_xor (a b : Nat) : stN (a ^^^ b) = stN a ^^^ stN b := by
  unfold stN
  rw [xor_half, xor_par]
  have h1 : a % 2 = 0 ∨ a % 2 = 1 := by omega
  have h2 : b % 2 = 0 ∨ b % 2 = 1 := by omega
  generalize a / 2 = x
  generalize b / 2 = y
  rcases h1 with h1 | h1 <;> rcases h2 with h2 | h2 <;> rw [h1, h2] <;> simp
  · exact Nat.xor_assoc ..
  · rw [Nat.xor_assoc, Nat.xor_assoc, Nat.xor_comm 3988292384 y]
  · rw [Nat.xor_comm y 3988292384, ← Nat.xor_assoc (x ^^^ 3988292384), Nat.xor_assoc x, Nat.xor_self, Nat.xor_zero]
theorem itN_xor (a b m : Nat) : itN (a ^^^ b) m = itN a m ^^^ itN b m := by
  induction m with
  | zero => rfl
  | succ m ih => simp only [itN, ih, stN_xor]
theorem stN_even (h : Nat) : stN (2 * h) = h := by
  unfold stN
  rw [if_neg (by omega)]
  simp
theorem itN_high (h : Nat) : itN (16 * h) 4 = h := by
  have : 16 * h = 2 * (2 * (2 * (2 * h))) := by omega
  simp only [itN, this, stN_even]
theorem parts (c : Nat) : (16 * (c / 16)) ^^^ (c % 16) = c := by
  have e : 16 * (c / 16) = (c / 2 ^ 4) <<< 4 := by rw [Nat.shiftLeft_eq]; omega
  rw [e, show c % 16 = c % 2 ^ 4 from rfl]
  refine Nat.eq_of_testBit_eq fun i => ?_
  rw [Nat.testBit_xor, Nat.testBit_shiftLeft, Nat.testBit_div_two_pow, Nat.testBit_mod_two_pow]
  by_cases h : i < 4
  · have : ¬ 4 ≤ i := by omega
    simp [h, this]
  · have h4 : 4 ≤ i := by omega
    simp [h, h4]
theorem nibble (c : Nat) : itN c 4 = (c / 16) ^^^ itN (c % 16) 4 := by
  have h := itN_xor (16 * (c / 16)) (c % 16) 4
  rw [parts, itN_high] at h
  exact h
theorem itN_add (n a : Nat) : ∀ b, itN n (a + b) = itN (itN n a) b
  | 0 => rfl
  | b + 1 => by rw [← Nat.add_assoc, itN, itN, itN_add n a b]
theorem bits_xor_nat (k : IntKind) (j : Nat) (hj : j ≤ k.bits) (hk : ∀ n : Int, 0 ≤ n → n < 2 ^ j → k.wrap n = n) (a b : Nat) (ha : a < 2 ^ j) (hb : b < 2 ^ j) :
    Go.bits .xor k a b = ((a ^^^ b : Nat) : Int) := by
  have hp : 2 ^ j ≤ 2 ^ k.bits := Nat.pow_le_pow_right (by decide) hj
  have ha' : a % 2 ^ k.bits = a := Nat.mod_eq_of_lt (Nat.lt_of_lt_of_le ha hp)
  have hb' : b % 2 ^ k.bits = b := Nat.mod_eq_of_lt (Nat.lt_of_lt_of_le hb hp)
  have cast : ∀ n : Nat, n < 2 ^ j → ((n : Nat) : Int) < 2 ^ j := fun n h => by exact_mod_cast h
  simp only [Go.bits, BitVec.ofInt_natCast, BitVec.toNat_xor, BitVec.toNat_ofNat, ha', hb']
  exact hk _ (Int.natCast_nonneg _) (cast _ (Nat.xor_lt_two_pow ha hb))
theorem wr_u32 (n : Int) (h0 : 0 ≤ n) (h1 : n < 2 ^ 32) : IntKind.u32.wrap n = n := by rw [IntKind.wrap_u32]; omega
theorem wr_i64 (n : Int) (h0 : 0 ≤ n) (h1 : n < 2 ^ 32) : IntKind.i64.wrap n = n := by rw [IntKind.wrap_i64]; omega
theorem xor32 (a b : Nat) (ha : a < 2 ^ 32) (hb : b < 2 ^ 32) : Go.bits .xor .u32 a b = ((a ^^^ b : Nat) : Int) := bits_xor_nat .u32 32 (by decide) wr_u32 a b ha hb
theorem xor64 (a b : Nat) (ha : a < 2 ^ 32) (hb : b < 2 ^ 32) : Go.bits .xor .i64 a b = ((a ^^^ b : Nat) : Int) := bits_xor_nat .i64 32 (by decide) wr_i64 a b ha hb
theorem and32 (a b : Nat) (ha : a < 2 ^ 32) (hb : b < 2 ^ 32) : Go.bits .and .u32 a b = ((a &&& b : Nat) : Int) := (bits_nat .u32 32 (by decide) wr_u32 a b ha hb).1
theorem crcStep_nat (n : Nat) (h : n < 2 ^ 32) : crcStep (n : Int) = (stN n : Nat) := by
  unfold crcStep stN
  have e1 : Go.bits .and .u32 (n : Int) 1 = ((n % 2 : Nat) : Int) := by
    have := and32 n 1 h (by decide)
    rw [Nat.and_one_is_mod] at this
    exact this
  have e2 : (n : Int) / 2 = ((n / 2 : Nat) : Int) := by omega
  rw [e1, e2]
  have h1 : n % 2 = 0 ∨ n % 2 = 1 := by omega
  rcases h1 with h1 | h1
  · rw [h1, if_neg (by decide), show IntKind.u32.wrap (((0 : Nat) : Int) * 3988292384) = ((0 : Nat) : Int) by decide]
    exact xor32 _ _ (by omega) (by decide)
  · rw [h1, if_pos rfl, show IntKind.u32.wrap (((1 : Nat) : Int) * 3988292384) = ((3988292384 : Nat) : Int) by decide]
    exact xor32 _ _ (by omega) (by decide)
theorem crcIt_nat (n : Nat) (h : n < 2 ^ 32) (m : Nat) : crcIt (n : Int) m = (itN n m : Nat) := by
  induction m with
  | zero => rfl
  | succ m ih => rw [crcIt, ih, crcStep_nat _ (itN_lt n h m), itN]
theorem half_nat (c : Nat) (h : c < 2 ^ 32) : Go.bits .xor .u32 ((c : Int) / 16) (crcIt (Go.bits .and .u32 (c : Int) 15) 4) = (itN c 4 : Nat) := by
  have e1 : Go.bits .and .u32 (c : Int) 15 = ((c % 16 : Nat) : Int) := by
    have := and32 c 15 h (by decide)
    rw [show (15 : Nat) = 2 ^ 4 - 1 from rfl, Nat.and_two_pow_sub_one_eq_mod] at this
    exact this
  have e2 : (c : Int) / 16 = ((c / 16 : Nat) : Int) := by omega
  rw [e1, e2, crcIt_nat _ (by omega), nibble c]
  exact xor32 _ _ (by omega) (itN_lt _ (by omega) _)
theorem crcByte_nat (c b : Nat) (h : c < 2 ^ 32) (hb : b < 256) : crcByte (c : Int) (b : Int) = (itN (c ^^^ b) 8 : Nat) := by
  unfold crcByte
  have hx : c ^^^ b < 2 ^ 32 := Nat.xor_lt_two_pow h (by omega)
  dsimp only
  rw [show (b : Int) % 4294967296 = (b : Int) by omega, xor32 c b h (by omega), half_nat _ hx, half_nat _ (itN_lt _ hx 4), ← itN_add]
def crcN (l : List Int) (c : Nat) : Nat := l.foldl (fun c b => itN (c ^^^ b.toNat) 8) c
theorem crcN_lt (l : List Int) : ∀ (c : Nat), c < 2 ^ 32 → IsBytes l → crcN l c < 2 ^ 32 := by
  induction l with
  | nil => intro c h _; exact h
  | cons x l ih =>
    intro c h hl
    have hx := hl x (List.mem_cons_self ..)
    exact ih _ (itN_lt _ (Nat.xor_lt_two_pow h (by omega)) 8) (fun y hy => hl y (List.mem_cons_of_mem _ hy))
theorem crcFold_nat (l : List Int) : ∀ (c : Nat), c < 2 ^ 32 → IsBytes l → l.foldl crcByte (c : Int) = (crcN l c : Nat) := by
  induction l with
  | nil => intro c h _; rfl
  | cons x l ih =>
    intro c h hl
    have hx := hl x (List.mem_cons_self ..)
    have hx2 : c ^^^ x.toNat < 2 ^ 32 := Nat.xor_lt_two_pow h (by omega)
    simp only [List.foldl_cons, crcN]
    rw [show crcByte (c : Int) x = ((itN (c ^^^ x.toNat) 8 : Nat) : Int) by rw [← crcByte_nat c x.toNat h (by omega), show ((x.toNat : Nat) : Int) = x by omega]]
    exact ih _ (itN_lt _ hx2 8) (fun y hy => hl y (List.mem_cons_of_mem _ hy))
/-- the sum of bytes -/
def crcOf (l : List Int) : Int := if l.length > 65536 then -1 else ((crcN l 4294967295 ^^^ 4294967295 : Nat) : Int)
theorem impl_Crc_f (l : List Int) (hl : IsBytes l) : impl_Crc.f l = some (crcOf l) := by
  unfold impl_Crc.f crcOf
  by_cases h : l.length > 65536
  · rw [if_pos (by omega), if_pos h]
  · rw [if_neg (by omega), if_neg h]
    have h1 := crcFold_nat l 4294967295 (by decide) hl
    have h2 := crcN_lt l 4294967295 (by decide) hl
    rw [show (4294967295 : Int) = ((4294967295 : Nat) : Int) from rfl, h1, show IntKind.u32.max = ((4294967295 : Nat) : Int) from by decide, xor32 _ _ (by decide) h2, Nat.xor_comm]
    have h3 : crcN l 4294967295 ^^^ 4294967295 < 2 ^ 32 := Nat.xor_lt_two_pow h2 (by decide)
    rw [w64 (by omega) (by omega)]
theorem spec_Crc_l1 (l : List Int) (r : Int) (i : Nat) (hi : i < 65536) (d : Nat) : ∀ (n j : Nat), n < 2 ^ 32 → j + d = 8 → Ev (fun k => spec_Crc.l0 k l (itN n d : Nat) ((i + 1 : Nat) : Int)) r → Ev (fun k => spec_Crc.l1 k l (n : Nat) (i : Int) (j : Int)) r := by
  induction d with
  | zero =>
    intro n j hn hj h
    refine Ev.step (fun k => ?_) h
    simp only [spec_Crc.l1]
    rw [if_neg (by omega), w64 (by omega) (by omega)]
    rfl
  | succ d ih =>
    intro n j hn hj h
    have e1 : Int.tmod (n : Int) 2 = ((n % 2 : Nat) : Int) := by rw [Int.tmod_eq_emod_of_nonneg (by omega)]; omega
    have e2 : wrap64 (Int.tdiv (n : Int) 2) = ((n / 2 : Nat) : Int) := by rw [Int.tdiv_eq_ediv_of_nonneg (by omega), w64 (by omega) (by omega)]; omega
    have e3 : wrap64 ((j : Int) + 1) = ((j + 1 : Nat) : Int) := by rw [w64 (by omega) (by omega)]; omega
    have e4 : itN n (d + 1) = itN (stN n) d := by
      rw [Nat.add_comm, itN_add n 1 d]
      rfl
    rw [e4] at h
    have h' := ih (stN n) (j + 1) (stN_lt n hn) (by omega) h
    refine Ev.step (fun k => ?_) h'
    simp only [spec_Crc.l1]
    rw [if_pos (by omega), e1, e2, e3]
    by_cases hp : n % 2 = 1
    · rw [if_pos (by omega)]
      congr 1
      have := xor64 (n / 2) 3988292384 (by omega) (by decide)
      rw [stN, if_pos hp]
      exact this
    · rw [if_neg (by omega), stN, if_neg hp, Nat.xor_zero]
theorem spec_Crc_l0 (l : List Int) (hl : IsBytes l) (hs : l.length ≤ 65536) (d : Nat) : ∀ (i n : Nat), n < 2 ^ 32 → i + d = l.length → Ev (fun k => spec_Crc.l0 k l (n : Nat) (i : Int)) ((crcN (l.drop i) n ^^^ 4294967295 : Nat) : Int) := by
  induction d with
  | zero =>
    intro i n hn hi
    refine Ev.step (f := fun _ => some ((crcN (l.drop i) n ^^^ 4294967295 : Nat) : Int)) (fun k => ?_) (Ev.now _)
    simp only [spec_Crc.l0]
    rw [if_neg (by omega), List.drop_eq_nil_of_le (by omega)]
    congr 1
    exact xor64 n 4294967295 hn (by decide)
  | succ d ih =>
    intro i n hn hi
    have hr : rd l (i : Int) = l[i]'(by omega) := rd_nat l i (by omega)
    have hb := hl (l[i]'(by omega)) (List.getElem_mem _)
    have hx : n ^^^ (l[i]'(by omega)).toNat < 2 ^ 32 := Nat.xor_lt_two_pow hn (by omega)
    have h := ih (i + 1) (itN (n ^^^ (l[i]'(by omega)).toNat) 8) (itN_lt _ hx 8) (by omega)
    have h2 := spec_Crc_l1 l _ i (by omega) 8 (n ^^^ (l[i]'(by omega)).toNat) 0 hx (by omega) h
    have e : crcN (l.drop i) n = crcN (l.drop (i + 1)) (itN (n ^^^ (l[i]'(by omega)).toNat) 8) := by
      rw [List.drop_eq_getElem_cons (by omega)]
      rfl
    rw [e]
    refine Ev.step (fun k => ?_) h2
    simp only [spec_Crc.l0]
    rw [if_pos (by omega), if_pos (by omega), hr, w64 (by omega) (by omega)]
    congr 1
    have := xor64 n (l[i]'(by omega)).toNat hn (by omega)
    rw [show (((l[i]'(by omega)).toNat : Nat) : Int) = l[i]'(by omega) by omega] at this
    exact this
theorem spec_Crc_f (l : List Int) (hl : IsBytes l) : Ev (fun k => spec_Crc.f k l) (crcOf l) := by
  unfold spec_Crc.f crcOf
  by_cases h : l.length > 65536
  · rw [if_pos h]
    exact ev_pos (by omega) (Ev.now _)
  · rw [if_neg h]
    refine ev_neg (by omega) ?_
    have := spec_Crc_l0 l hl (by omega) l.length 0 4294967295 (by decide) (by omega)
    exact this
theorem crcOf_range (l : List Int) (hl : IsBytes l) (h : l.length ≤ 65536) : 0 ≤ crcOf l ∧ crcOf l < 4294967296 := by
  unfold crcOf
  rw [if_neg (by omega)]
  have h3 : crcN l 4294967295 ^^^ 4294967295 < 2 ^ 32 := Nat.xor_lt_two_pow (crcN_lt l _ (by decide) hl) (by decide)
  omega

theorem cloneByte_f (l : List Int) (hn : l.length ≤ 1048576) : slices_Clone_byte_byte.f l = some l := by
  unfold slices_Clone_byte_byte.f
  simp only [Option.bind_some, List.nil_append, List.length_nil]
  rw [if_pos (by omega)]

def cut (l : List Int) (a b : Int) : List Int := (l.take b.toNat).drop a.toNat
theorem cut_bytes {l : List Int} (h : IsBytes l) (a b : Int) : IsBytes (cut l a b) := isBytes_drop (isBytes_take h _) _
theorem cut_length (l : List Int) (a b : Int) : (cut l a b).length ≤ l.length := by simp [cut]; omega
theorem gn_two {l : List Int} (hl : IsBytes l) (p : Int) : 0 ≤ (gn l p 2).1 ∧ (gn l p 2).1 ≤ 65535 := by
  unfold gn
  split
  · have := gv_range hl 2 p
    simp only [show (2 : Int).toNat = 2 from rfl]
    omega
  · simp
theorem gn_four {l : List Int} (hl : IsBytes l) (p : Int) : (gn l p 4).2 = decide (GnOk l p 4) := by
  unfold gn
  have := gv_range hl 4 p
  by_cases h : GnOk l p 4
  · rw [if_pos ⟨h, by simp only [show (4 : Int).toNat = 4 from rfl]; omega⟩, decide_eq_true h]
  · rw [if_neg (fun x => h x.1), decide_eq_false h]
/-- what stands at a place: kind, body, end, code -/
def faOf (l : List Int) (p : Int) : Int × List Int × Int × Int :=
  if ¬ (l.length ≤ 65536 ∧ 0 ≤ p ∧ 3 ≤ l.length - p) then (0, [], 0, 1)
  else if rd l p = 0 ∨ (gn l (p + 1) 2).1 > 1000 then (0, [], 0, 2)
  else if (l.length : Int) - p < 7 + (gn l (p + 1) 2).1 then (0, [], 0, 1)
  else if ¬ (gn l (p + 3 + (gn l (p + 1) 2).1) 4).1 = crcOf (cut l p (p + 3 + (gn l (p + 1) 2).1)) then (0, [], 0, 3)
  else (rd l p, cut l (p + 3) (p + 3 + (gn l (p + 1) 2).1), p + 7 + (gn l (p + 1) 2).1, 0)
theorem faOf_length (l : List Int) (p : Int) : (faOf l p).2.1.length ≤ l.length := by
  unfold faOf
  repeat' split
  all_goals first | exact cut_length _ _ _ | simp
theorem spec_FrameAt_1 (l : List Int) (hl : IsBytes l) (p : Int) (h0 : l.length ≤ 65536) (h1 : 0 ≤ p) (h2 : 3 ≤ l.length - p) (b : Bool) (hb : b = decide (rd l p = 0 ∨ (gn l (p + 1) 2).1 > 1000)) :
    Ev (fun k => spec_FrameAt.j1 k l p (rd l p) (gn l (p + 1) 2).1 b) (faOf l p) := by
  have hg := gn_two hl (p + 1)
  have e : ¬ ¬ (l.length ≤ 65536 ∧ 0 ≤ p ∧ 3 ≤ l.length - p) := fun h => h ⟨h0, h1, h2⟩
  unfold faOf
  rw [if_neg e]
  generalize (gn l (p + 1) 2).1 = n at hg hb ⊢
  by_cases c : rd l p = 0 ∨ n > 1000
  · rw [if_pos c]
    rw [decide_eq_true c] at hb
    subst hb
    exact Ev.step (f := fun _ => some (0, [], 0, 2)) (fun k => by simp only [spec_FrameAt.j1, if_true]) (Ev.now _)
  rw [if_neg c]
  rw [decide_eq_false c] at hb
  subst hb
  refine Ev.step (fun k => by simp only [spec_FrameAt.j1, Bool.false_eq_true, if_false]; rfl) ?_
  rw [w64 (x := 7 + n) (by omega) (by omega), w64 (x := (l.length : Int) - p) (by omega) (by omega), w64 (x := p + 3) (by omega) (by omega), w64 (x := p + 3 + n) (by omega) (by omega), w64 (x := p + 7) (by omega) (by omega), w64 (x := p + 7 + n) (by omega) (by omega)]
  by_cases c2 : (l.length : Int) - p < 7 + n
  · rw [if_pos c2]
    exact ev_pos c2 (Ev.now _)
  rw [if_neg c2]
  refine ev_neg c2 ?_
  refine Ev.bind (spec_GetNum_f l hl (by omega) (p + 3 + n) 4 (by omega) (by omega)) ?_
  refine ev_pos h1 (ev_pos (by omega) (ev_pos (by omega) ?_))
  refine Ev.bind (spec_Crc_f _ (cut_bytes hl p (p + 3 + n))) ?_
  by_cases c3 : (gn l (p + 3 + n) 4).1 = crcOf (cut l p (p + 3 + n))
  · rw [if_neg (not_not_intro c3)]
    refine ev_pos c3 (ev_bind0 rfl (ev_pos (by omega) (ev_pos (by omega) (ev_pos ?_ (Ev.now _)))))
    have := cut_length l (p + 3) (p + 3 + n)
    simp only [cut] at this
    simp only [List.length_nil]
    omega
  · rw [if_pos c3]
    exact ev_neg c3 (Ev.now _)
theorem impl_FrameAt_1 (l : List Int) (hl : IsBytes l) (p : Int) (h0 : l.length ≤ 65536) (h1 : 0 ≤ p) (h2 : 3 ≤ l.length - p) (b : Bool) (hb : b = decide (rd l p = 0 ∨ (gn l (p + 1) 2).1 > 1000)) :
    Ev (fun k => impl_FrameAt.j1 k l p (rd l p) (gn l (p + 1) 2).1 b) (faOf l p) := by
  have hg := gn_two hl (p + 1)
  have e : ¬ ¬ (l.length ≤ 65536 ∧ 0 ≤ p ∧ 3 ≤ l.length - p) := fun h => h ⟨h0, h1, h2⟩
  unfold faOf
  rw [if_neg e]
  generalize (gn l (p + 1) 2).1 = n at hg hb ⊢
  by_cases c : rd l p = 0 ∨ n > 1000
  · rw [if_pos c]
    rw [decide_eq_true c] at hb
    subst hb
    exact Ev.step (f := fun _ => some (0, [], 0, 2)) (fun k => by simp only [impl_FrameAt.j1, if_true]) (Ev.now _)
  rw [if_neg c]
  rw [decide_eq_false c] at hb
  subst hb
  refine Ev.step (fun k => by simp only [impl_FrameAt.j1, Bool.false_eq_true, if_false]; rfl) ?_
  rw [w64 (x := p + 3) (by omega) (by omega), w64 (x := p + 3 + n) (by omega) (by omega), w64 (x := p + 3 + n + 4) (by omega) (by omega)]
  refine Ev.bind (impl_GetNum_f l hl (by omega) (p + 3 + n) 4) ?_
  have hg4 := gn_four hl (p + 3 + n)
  by_cases c2 : (l.length : Int) - p < 7 + n
  · rw [if_pos c2]
    refine ev_neg (by rw [hg4]; simp only [decide_eq_true_eq]; exact fun h => by have := h.2.2; omega) (Ev.now _)
  rw [if_neg c2]
  refine ev_pos (by rw [hg4]; exact decide_eq_true ⟨by omega, by omega, by omega⟩) ?_
  refine ev_pos h1 (ev_pos (by omega) (ev_pos (by omega) ?_))
  refine ev_bind0 (impl_Crc_f _ (cut_bytes hl p (p + 3 + n))) ?_
  by_cases c3 : (gn l (p + 3 + n) 4).1 = crcOf (cut l p (p + 3 + n))
  · rw [if_neg (not_not_intro c3)]
    refine ev_pos c3 (ev_pos (by omega) (ev_pos (by omega) (ev_bind0 (cloneByte_f _ ?_) ?_)))
    · have := cut_length l (p + 3) (p + 3 + n)
      simp only [cut] at this
      omega
    · rw [show p + 3 + n + 4 = p + 7 + n by omega]
      exact Ev.now _
  · rw [if_pos c3]
    exact ev_neg c3 (Ev.now _)
theorem faOf_short (l : List Int) (p : Int) (h : ¬ (l.length ≤ 65536 ∧ 0 ≤ p ∧ 3 ≤ l.length - p)) : faOf l p = (0, [], 0, 1) := by
  unfold faOf
  rw [if_pos h]
theorem spec_FrameAt_f (l : List Int) (hl : IsBytes l) (hn : l.length ≤ 1048576) (p : Int) (hp : p ≤ 9223372036854775807) : Ev (fun k => spec_FrameAt.f k l p) (faOf l p) := by
  unfold spec_FrameAt.f
  have short : (¬ (l.length ≤ 65536 ∧ 0 ≤ p ∧ 3 ≤ l.length - p)) → Ev (fun k => spec_FrameAt.j0 k l p true) (faOf l p) := fun h => by
    rw [faOf_short l p h]
    exact Ev.step (f := fun _ => some (0, [], 0, 1)) (fun k => by simp only [spec_FrameAt.j0, if_true]) (Ev.now _)
  by_cases c1 : (l.length : Int) > 65536
  · exact ev_pos c1 (short (by omega))
  refine ev_neg c1 ?_
  by_cases c2 : p < 0
  · exact ev_pos c2 (short (by omega))
  refine ev_neg c2 ?_
  by_cases c3 : p > (l.length : Int)
  · exact ev_pos c3 (short (by omega))
  refine ev_neg c3 ?_
  rw [w64 (x := (l.length : Int) - p) (by omega) (by omega)]
  by_cases c4 : (l.length : Int) - p < 3
  · rw [decide_eq_true c4]
    exact short (by omega)
  rw [decide_eq_false c4]
  refine Ev.step (fun k => by simp only [spec_FrameAt.j0, Bool.false_eq_true, if_false]; rfl) ?_
  have hb := rd_byte hl p
  rw [w64 (x := p + 1) (by omega) (by omega), w64 (x := rd l p) (by omega) (by omega)]
  refine ev_pos (by omega) (ev_pos (by omega) (Ev.bind (spec_GetNum_f l hl hn (p + 1) 2 (by omega) (by omega)) ?_))
  by_cases c5 : rd l p = 0
  · exact ev_pos c5 (spec_FrameAt_1 l hl p (by omega) (by omega) (by omega) true (by simp [c5]))
  · exact ev_neg c5 (spec_FrameAt_1 l hl p (by omega) (by omega) (by omega) _ (by simp [c5]))
theorem impl_FrameAt_f (l : List Int) (hl : IsBytes l) (hn : l.length ≤ 1048576) (p : Int) (hp : p ≤ 9223372036854775807) : Ev (fun k => impl_FrameAt.f k l p) (faOf l p) := by
  unfold impl_FrameAt.f
  have short : (¬ (l.length ≤ 65536 ∧ 0 ≤ p ∧ 3 ≤ l.length - p)) → Ev (fun k => impl_FrameAt.j0 k l p true) (faOf l p) := fun h => by
    rw [faOf_short l p h]
    exact Ev.step (f := fun _ => some (0, [], 0, 1)) (fun k => by simp only [impl_FrameAt.j0, if_true]) (Ev.now _)
  by_cases c1 : (l.length : Int) > 65536
  · exact ev_pos c1 (short (by omega))
  refine ev_neg c1 (ev_bind0 (impl_hasBytes_f l hn p 3) ?_)
  by_cases c2 : (0 ≤ p ∧ p ≤ l.length) ∧ 3 ≤ l.length - p
  · rw [decide_eq_true c2]
    refine Ev.step (fun k => by simp only [impl_FrameAt.j0, Bool.not_true, Bool.false_eq_true, if_false]; rfl) ?_
    have hb := rd_byte hl p
    rw [w64 (x := p + 1) (by omega) (by omega), w64 (x := rd l p) (by omega) (by omega)]
    refine ev_pos (by omega) (ev_pos (by omega) (Ev.bind (impl_GetNum_f l hl hn (p + 1) 2) ?_))
    by_cases c5 : rd l p = 0
    · exact ev_pos c5 (impl_FrameAt_1 l hl p (by omega) (by omega) (by omega) true (by simp [c5]))
    · exact ev_neg c5 (impl_FrameAt_1 l hl p (by omega) (by omega) (by omega) _ (by simp [c5]))
  · rw [decide_eq_false c2]
    exact short (by omega)

def recOk (kd lsn xid pg sl : Int) (d : List Int) : Bool :=
  decide (1 ≤ lsn ∧ lsn ≤ 1000000) && (if kd = 1 then decide (0 ≤ pg ∧ pg ≤ 15) && (decide (d.length = 256) && (decide (xid = 0) && decide (sl = 0)))
    else if kd = 2 then decide (0 ≤ pg ∧ pg ≤ 15) && (decide (0 ≤ sl ∧ sl ≤ 15) && (decide (1 ≤ xid ∧ xid ≤ 400) && decide (1 ≤ d.length ∧ d.length ≤ 92)))
    else if kd = 3 then decide (0 ≤ pg ∧ pg ≤ 15) && (decide (0 ≤ sl ∧ sl ≤ 15) && (decide (1 ≤ xid ∧ xid ≤ 400) && decide (d.length = 0)))
    else if kd = 4 then decide (0 ≤ pg ∧ pg ≤ 15) && (decide (0 ≤ sl ∧ sl ≤ 15) && (decide (xid = 0) && decide (d.length = 0)))
    else if kd = 5 then decide (1 ≤ xid ∧ xid ≤ 400) && (decide (pg = 0) && (decide (sl = 0) && decide (d.length = 0))) else false)
theorem len_eq (d : List Int) (n : Nat) : ((d.length : Int) = (n : Int)) ↔ d.length = n := by omega
theorem beq_dec (a b : Int) : (a == b) = decide (a = b) := by
  by_cases h : a = b <;> simp [h]
theorem spec_RecordOk_f (kd lsn xid pg sl : Int) (d : List Int) : spec_RecordOk.f kd lsn xid pg sl d = some (recOk kd lsn xid pg sl d) := by
  unfold spec_RecordOk.f recOk
  simp only [spec_l5in_f, Option.bind_some, decide_eq_true_eq, beq_dec]
  have e0 : ∀ n : Nat, ((d.length : Int) = n) = (d.length = n) := fun n => propext (len_eq d n)
  have e256 : ((d.length : Int) = 256) = (d.length = 256) := e0 256
  have ez : ((d.length : Int) = 0) = (d.length = 0) := e0 0
  have e1 : ((d.length : Int) ≥ 1) = (1 ≤ d.length) := propext (by omega)
  have e92 : ((d.length : Int) ≤ 92) = (d.length ≤ 92) := propext (by omega)
  simp only [e256, ez, e1, e92]
  by_cases h0 : 1 ≤ lsn ∧ lsn ≤ 1000000
  · rw [if_pos h0, decide_eq_true h0, Bool.true_and]
    by_cases k1 : kd = 1
    · rw [if_pos k1, if_pos k1]
      by_cases a : 0 ≤ pg ∧ pg ≤ 15 <;> by_cases b : d.length = 256 <;> by_cases c : xid = 0 <;> simp [a, b, c]
    rw [if_neg k1, if_neg k1]
    by_cases k2 : kd = 2
    · rw [if_pos k2, if_pos k2]
      by_cases a : 0 ≤ pg ∧ pg ≤ 15 <;> by_cases b : 0 ≤ sl ∧ sl ≤ 15 <;> by_cases c : 1 ≤ xid ∧ xid ≤ 400 <;> by_cases e : 1 ≤ d.length <;> simp [a, b, c, e]
    rw [if_neg k2, if_neg k2]
    by_cases k3 : kd = 3
    · rw [if_pos k3, if_pos k3]
      by_cases a : 0 ≤ pg ∧ pg ≤ 15 <;> by_cases b : 0 ≤ sl ∧ sl ≤ 15 <;> by_cases c : 1 ≤ xid ∧ xid ≤ 400 <;> simp [a, b, c]
    rw [if_neg k3, if_neg k3]
    by_cases k4 : kd = 4
    · rw [if_pos k4, if_pos k4]
      by_cases a : 0 ≤ pg ∧ pg ≤ 15 <;> by_cases b : 0 ≤ sl ∧ sl ≤ 15 <;> by_cases c : xid = 0 <;> simp [a, b, c]
    rw [if_neg k4, if_neg k4]
    by_cases k5 : kd = 5
    · rw [if_pos k5, if_pos k5]
      by_cases a : 1 ≤ xid ∧ xid ≤ 400 <;> by_cases b : pg = 0 <;> by_cases c : sl = 0 <;> simp [a, b, c]
    rw [if_neg k5, if_neg k5]
  · rw [if_neg h0, decide_eq_false h0, Bool.false_and]
theorem impl_isXid_f (n : Int) : impl_isXid.f n = some (decide (1 ≤ n ∧ n ≤ 400)) := by unfold impl_isXid.f; rw [impl_within_f]; rfl
theorem impl_isLsn_f (n : Int) : impl_isLsn.f n = some (decide (1 ≤ n ∧ n ≤ 1000000)) := by unfold impl_isLsn.f; rw [impl_within_f]; rfl
theorem impl_isPage_f (n : Int) : impl_isPage.f n = some (decide (0 ≤ n ∧ n ≤ 15)) := by unfold impl_isPage.f; rw [impl_within_f]; rfl
theorem impl_isSlot_f (n : Int) : impl_isSlot.f n = some (decide (0 ≤ n ∧ n ≤ 15)) := by unfold impl_isSlot.f; rw [impl_within_f]; rfl
theorem impl_RecordOk_f (kd lsn xid pg sl : Int) (d : List Int) : Ev (fun k => impl_RecordOk.f k kd lsn xid pg sl d) (recOk kd lsn xid pg sl d) := by
  have e0 : ∀ n : Nat, ((d.length : Int) = n) = (d.length = n) := fun n => propext (len_eq d n)
  have e256 : ((d.length : Int) = 256) = (d.length = 256) := e0 256
  have ez : ((d.length : Int) = 0) = (d.length = 0) := e0 0
  have e1 : (1 ≤ (d.length : Int) ∧ (d.length : Int) ≤ 92) = (1 ≤ d.length ∧ d.length ≤ 92) := propext (by omega)
  unfold impl_RecordOk.f recOk
  refine ev_bind0 (impl_isLsn_f _) ?_
  by_cases h0 : 1 ≤ lsn ∧ lsn ≤ 1000000
  · refine ev_pos (decide_eq_true h0) (ev_bind0 (impl_isPage_f _) ?_)
    rw [decide_eq_true h0, Bool.true_and]
    have key : ∀ b : Bool, b = (decide (0 ≤ pg ∧ pg ≤ 15) && decide (0 ≤ sl ∧ sl ≤ 15)) → Ev (fun k => impl_RecordOk.j0 k (d.length : Int) b kd lsn xid pg sl d) (if kd = 1 then decide (0 ≤ pg ∧ pg ≤ 15) && (decide (d.length = 256) && (decide (xid = 0) && decide (sl = 0)))
    else if kd = 2 then decide (0 ≤ pg ∧ pg ≤ 15) && (decide (0 ≤ sl ∧ sl ≤ 15) && (decide (1 ≤ xid ∧ xid ≤ 400) && decide (1 ≤ d.length ∧ d.length ≤ 92)))
    else if kd = 3 then decide (0 ≤ pg ∧ pg ≤ 15) && (decide (0 ≤ sl ∧ sl ≤ 15) && (decide (1 ≤ xid ∧ xid ≤ 400) && decide (d.length = 0)))
    else if kd = 4 then decide (0 ≤ pg ∧ pg ≤ 15) && (decide (0 ≤ sl ∧ sl ≤ 15) && (decide (xid = 0) && decide (d.length = 0)))
    else if kd = 5 then decide (1 ≤ xid ∧ xid ≤ 400) && (decide (pg = 0) && (decide (sl = 0) && decide (d.length = 0))) else false) := by
      intro b hb
      refine Ev.step (f := fun _ => some (if kd = 1 then decide (0 ≤ pg ∧ pg ≤ 15) && (decide (d.length = 256) && (decide (xid = 0) && decide (sl = 0)))
    else if kd = 2 then decide (0 ≤ pg ∧ pg ≤ 15) && (decide (0 ≤ sl ∧ sl ≤ 15) && (decide (1 ≤ xid ∧ xid ≤ 400) && decide (1 ≤ d.length ∧ d.length ≤ 92)))
    else if kd = 3 then decide (0 ≤ pg ∧ pg ≤ 15) && (decide (0 ≤ sl ∧ sl ≤ 15) && (decide (1 ≤ xid ∧ xid ≤ 400) && decide (d.length = 0)))
    else if kd = 4 then decide (0 ≤ pg ∧ pg ≤ 15) && (decide (0 ≤ sl ∧ sl ≤ 15) && (decide (xid = 0) && decide (d.length = 0)))
    else if kd = 5 then decide (1 ≤ xid ∧ xid ≤ 400) && (decide (pg = 0) && (decide (sl = 0) && decide (d.length = 0))) else false)) (fun k => ?_) (Ev.now _)
      rw [impl_RecordOk.j0, hb]
      simp only [impl_isPage_f, impl_isXid_f, impl_within_f, Option.bind_some, decide_eq_true_eq, beq_dec, e256, ez, e1, Bool.and_eq_true]
      by_cases k1 : kd = 1
      · rw [if_pos k1, if_pos k1]
        by_cases a : 0 ≤ pg ∧ pg ≤ 15 <;> by_cases b : d.length = 256 <;> by_cases c : xid = 0 <;> simp [a, b, c]
      rw [if_neg k1, if_neg k1]
      by_cases k2 : kd = 2
      · rw [if_pos k2, if_pos k2]
        by_cases a : 0 ≤ pg ∧ pg ≤ 15 <;> by_cases b : 0 ≤ sl ∧ sl ≤ 15 <;> by_cases c : 1 ≤ xid ∧ xid ≤ 400 <;> by_cases e : 1 ≤ d.length <;> simp [a, b, c, e]
      rw [if_neg k2, if_neg k2]
      by_cases k3 : kd = 3
      · rw [if_pos k3, if_pos k3]
        by_cases a : 0 ≤ pg ∧ pg ≤ 15 <;> by_cases b : 0 ≤ sl ∧ sl ≤ 15 <;> by_cases c : 1 ≤ xid ∧ xid ≤ 400 <;> simp [a, b, c]
      rw [if_neg k3, if_neg k3]
      by_cases k4 : kd = 4
      · rw [if_pos k4, if_pos k4]
        by_cases a : 0 ≤ pg ∧ pg ≤ 15 <;> by_cases b : 0 ≤ sl ∧ sl ≤ 15 <;> by_cases c : xid = 0 <;> simp [a, b, c]
      rw [if_neg k4, if_neg k4]
      by_cases k5 : kd = 5
      · rw [if_pos k5, if_pos k5]
        by_cases a : 1 ≤ xid ∧ xid ≤ 400 <;> by_cases b : pg = 0 <;> by_cases c : sl = 0 <;> simp [a, b, c]
      rw [if_neg k5, if_neg k5]
    by_cases h1 : 0 ≤ pg ∧ pg ≤ 15
    · refine ev_pos (decide_eq_true h1) (ev_bind0 (impl_isSlot_f _) ?_)
      exact key _ (by rw [decide_eq_true h1, Bool.true_and])
    · refine ev_neg (fun h => h1 (of_decide_eq_true h)) ?_
      exact key _ (by rw [decide_eq_false h1, Bool.false_and])
  · rw [decide_eq_false h0, Bool.false_and]
    exact ev_neg (by simp) (Ev.now _)

theorem eqByteS_l (a b : List Int) (hn : a.length ≤ 1048576) (hab : a.length = b.length) (d : Nat) : ∀ (i : Nat), i + d = a.length → (∀ j, j < i → a[j]? = b[j]?) → Ev (fun k => laws_eqByteS.l0 k a b (i : Int)) (decide (a = b)) := by
  induction d with
  | zero =>
    intro i hi hj
    refine Ev.step (f := fun _ => some true) (fun k => ?_) ?_
    · simp only [laws_eqByteS.l0]
      rw [if_neg (by omega)]
    · have : a = b := by
        refine List.ext_getElem? fun j => ?_
        by_cases h : j < i
        · exact hj j h
        · rw [List.getElem?_eq_none (by omega), List.getElem?_eq_none (by omega)]
      rw [decide_eq_true this]
      exact Ev.now _
  | succ d ih =>
    intro i hi hj
    have ha : rd a (i : Int) = a[i]'(by omega) := rd_nat a i (by omega)
    have hb : rd b (i : Int) = b[i]'(by omega) := rd_nat b i (by omega)
    by_cases he : rd a (i : Int) = rd b (i : Int)
    · refine Ev.step (f := fun k => laws_eqByteS.l0 k a b ((i + 1 : Nat) : Int)) (fun k => ?_) (ih (i + 1) (by omega) ?_)
      · simp only [laws_eqByteS.l0]
        rw [if_pos (by omega), if_pos (by omega), if_pos (by omega), if_pos he, w64 (by omega) (by omega)]
        simp
      · intro j hlt
        by_cases h : j = i
        · subst h
          rw [List.getElem?_eq_getElem (by omega), List.getElem?_eq_getElem (by omega), ← ha, ← hb, he]
        · exact hj j (by omega)
    · refine Ev.step (f := fun _ => some false) (fun k => ?_) ?_
      · simp only [laws_eqByteS.l0]
        rw [if_pos (by omega), if_pos (by omega), if_pos (by omega), if_neg he]
      · have : ¬ a = b := by
          rintro rfl
          exact he rfl
        rw [decide_eq_false this]
        exact Ev.now _
theorem eqByteS_f (a b : List Int) (hn : a.length ≤ 1048576) : Ev (fun k => laws_eqByteS.f k a b) (decide (a = b)) := by
  unfold laws_eqByteS.f
  by_cases h : a.length = b.length
  · refine ev_pos (by omega) ?_
    exact eqByteS_l a b hn h a.length 0 (by omega) (by intro j h; omega)
  · refine ev_neg (by omega) ?_
    rw [decide_eq_false (by rintro rfl; exact h rfl)]
    exact Ev.now _
theorem eqByteS_same (a : List Int) (hn : a.length ≤ 1048576) : Ev (fun k => laws_eqByteS.f k a a) true := by
  have := eqByteS_f a a hn
  rwa [decide_eq_true rfl] at this

theorem toByteS_l (l : List Int) (hn : l.length ≤ 1048576) (d : Nat) : ∀ (i : Nat) (y : List Int), i + d = l.length → y.length = l.length → (∀ j, j < i → y[j]? = l[j]?) → Ev (fun k => laws_toByteS.l0 k l y (i : Int)) l := by
  induction d with
  | zero =>
    intro i y hi hy hj
    refine Ev.step (f := fun _ => some l) (fun k => ?_) (Ev.now _)
    simp only [laws_toByteS.l0]
    rw [if_neg (by omega)]
    congr 1
    refine List.ext_getElem? fun j => ?_
    by_cases h : j < i
    · exact hj j h
    · rw [List.getElem?_eq_none (by omega), List.getElem?_eq_none (by omega)]
  | succ d ih =>
    intro i y hi hy hj
    refine Ev.step (f := fun k => laws_toByteS.l0 k l (y.set i (rd l i)) ((i + 1 : Nat) : Int)) (fun k => ?_) (ih (i + 1) _ (by omega) (by simp [hy]) ?_)
    · simp only [laws_toByteS.l0]
      rw [if_pos (by omega), if_pos (by omega), if_pos (by omega), w64 (by omega) (by omega)]
      simp
    · intro j hlt
      by_cases h : j = i
      · subst h
        rw [List.getElem?_set_self (by omega), rd_nat l j (by omega), List.getElem?_eq_getElem (by omega)]
      · rw [List.getElem?_set_ne (by omega)]
        exact hj j (by omega)
theorem toByteS_f (l : List Int) (hn : l.length ≤ 1048576) : Ev (fun k => laws_toByteS.f k l) l := by
  unfold laws_toByteS.f
  refine ev_pos (by omega) (ev_pos (by omega) ?_)
  exact toByteS_l l hn l.length 0 _ (by omega) (by simp) (by intro j h; omega)

theorem markByteS_l (a : List Int) (hn : a.length ≤ 1048576) (m0 : Int) (h0 : 0 ≤ m0) (h1 : m0 ≤ 1000000000000) (d : Nat) : ∀ (i : Nat) (y : List Int), i + d = a.length → y.length = a.length → (∀ j, j < i → y[j]? = (marksB m0 a.length)[j]?) → Ev (fun k => laws_markByteS.l0 k y (m0 + i) (i : Int)) (m0 + a.length, marksB m0 a.length) := by
  have hml := marksB_length a.length m0
  induction d with
  | zero =>
    intro i y hi hy hj
    refine Ev.step (f := fun _ => some (m0 + a.length, marksB m0 a.length)) (fun k => ?_) (Ev.now _)
    simp only [laws_markByteS.l0]
    rw [if_neg (by omega)]
    have hy2 : y = marksB m0 a.length := by
      refine List.ext_getElem? fun j => ?_
      by_cases h : j < i
      · exact hj j h
      · rw [List.getElem?_eq_none (by omega), List.getElem?_eq_none (by omega)]
    rw [hy2, show (i : Int) = a.length by omega]
  | succ d ih =>
    intro i y hi hy hj
    refine Ev.step (f := fun k => laws_markByteS.l0 k (y.set i ((m0+i)%256)) (m0 + (i + 1 : Nat)) ((i + 1 : Nat) : Int)) (fun k => ?_) (ih (i + 1) _ (by omega) (by simp [hy]) ?_)
    · simp only [laws_markByteS.l0]
      rw [if_pos (by omega), if_pos (by omega), w64 (by omega) (by omega), w64 (by omega) (by omega)]
      simp [Int.add_assoc]
    · intro j hlt
      by_cases h : j = i
      · subst h
        rw [List.getElem?_set_self (by omega), List.getElem?_eq_getElem (by omega), marksB_get]
      · rw [List.getElem?_set_ne (by omega)]
        exact hj j (by omega)
theorem markByteS_f (a : List Int) (hn : a.length ≤ 1048576) (m : Int) (h0 : 0 ≤ m) (h1 : m ≤ 1000000000000) : Ev (fun k => laws_markByteS.f k a m) (m + a.length, marksB m a.length) := by
  unfold laws_markByteS.f
  have := markByteS_l a hn m h0 h1 a.length 0 a (by omega) rfl (by intro j h; omega)
  simpa using this

theorem heldByteS_l (n : Nat) (hn : n ≤ 1048576) (m0 : Int) (h0 : 0 ≤ m0) (h1 : m0 ≤ 1000000000000) (d : Nat) : ∀ (i : Nat), i + d = n → Ev (fun k => laws_heldByteS.l0 k (marksB m0 n) (m0 + i) (i : Int)) (m0 + n) := by
  have hml := marksB_length n m0
  induction d with
  | zero =>
    intro i hi
    refine Ev.step (f := fun _ => some (m0 + n)) (fun k => ?_) (Ev.now _)
    simp only [laws_heldByteS.l0]
    rw [if_neg (by omega), show (i : Int) = n by omega]
  | succ d ih =>
    intro i hi
    refine Ev.step (f := fun k => laws_heldByteS.l0 k (marksB m0 n) (m0 + (i + 1 : Nat)) ((i + 1 : Nat) : Int)) (fun k => ?_) (ih (i + 1) (by omega))
    simp only [laws_heldByteS.l0]
    rw [if_pos (by omega), if_pos (by omega), if_pos (by rw [rd_nat _ i (by omega), marksB_get]), w64 (by omega) (by omega), w64 (by omega) (by omega)]
    simp [Int.add_assoc]
theorem heldByteS_f (n : Nat) (hn : n ≤ 1048576) (m : Int) (h0 : 0 ≤ m) (h1 : m ≤ 1000000000000) : Ev (fun k => laws_heldByteS.f k (marksB m n) m) (m + n) := by
  unfold laws_heldByteS.f
  have := heldByteS_l n hn m h0 h1 n 0 (by omega)
  simpa using this

theorem faOf_bytes {l : List Int} (h : IsBytes l) (p : Int) : IsBytes (faOf l p).2.1 := by
  unfold faOf
  repeat' split
  all_goals first | exact cut_bytes h _ _ | exact isBytes_nil
/-- the record that stands at a place, its end, the code -/
def recAt (l : List Int) (p : Int) : Int × Int × Int × Int × Int × List Int × Int × Int :=
  if (faOf l p).2.2.2 = 0 then
    if ((faOf l p).2.1.length : Int) < 12 then (0, 0, 0, 0, 0, [], 0, 4)
    else if recOk (faOf l p).1 (gn (faOf l p).2.1 0 4).1 (gn (faOf l p).2.1 4 4).1 (gn (faOf l p).2.1 8 2).1 (gn (faOf l p).2.1 10 2).1 ((faOf l p).2.1.drop 12) = true then
      ((faOf l p).1, (gn (faOf l p).2.1 0 4).1, (gn (faOf l p).2.1 4 4).1, (gn (faOf l p).2.1 8 2).1, (gn (faOf l p).2.1 10 2).1, (faOf l p).2.1.drop 12, (faOf l p).2.2.1, 0)
    else (0, 0, 0, 0, 0, [], 0, 4)
  else (0, 0, 0, 0, 0, [], 0, (faOf l p).2.2.2)
theorem recAt_length (l : List Int) (p : Int) : (recAt l p).2.2.2.2.2.1.length ≤ l.length := by
  have := faOf_length l p
  unfold recAt
  repeat' split
  all_goals simp only [List.length_nil, List.length_drop]
  all_goals omega
theorem spec_RecordAt_f (l : List Int) (hl : IsBytes l) (hn : l.length ≤ 1048576) (p : Int) (hp : p ≤ 9223372036854775807) : Ev (fun k => spec_RecordAt.f k l p) (recAt l p) := by
  unfold spec_RecordAt.f recAt
  have hb := faOf_bytes hl p
  have hs := faOf_length l p
  refine Ev.bind (spec_FrameAt_f l hl hn p hp) ?_
  generalize faOf l p = f at hb hs
  obtain ⟨kd, b, en, co⟩ := f
  dsimp only at hb hs ⊢
  by_cases h0 : co = 0
  · rw [if_pos h0]
    refine ev_pos h0 ?_
    by_cases h1 : (b.length : Int) < 12
    · rw [if_pos h1]
      exact ev_pos h1 (Ev.now _)
    · rw [if_neg h1]
      refine ev_neg h1 ?_
      refine Ev.bind (spec_GetNum_f b hb (by omega) 0 4 (by omega) (by omega)) ?_
      refine Ev.bind (spec_GetNum_f b hb (by omega) 4 4 (by omega) (by omega)) ?_
      refine Ev.bind (spec_GetNum_f b hb (by omega) 8 2 (by omega) (by omega)) ?_
      refine Ev.bind (spec_GetNum_f b hb (by omega) 10 2 (by omega) (by omega)) ?_
      refine ev_bind0 rfl (ev_pos (by omega) (ev_bind0 rfl (ev_pos (by simp only [List.length_nil, List.length_drop]; omega) (ev_bind0 rfl ?_))))
      rw [List.nil_append]
      refine ev_bind0 (spec_RecordOk_f _ _ _ _ _ _) ?_
      by_cases h2 : recOk kd (gn b 0 4).1 (gn b 4 4).1 (gn b 8 2).1 (gn b 10 2).1 (b.drop 12) = true
      · rw [if_pos h2, if_pos h2]
        exact Ev.now _
      · rw [if_neg h2, if_neg h2]
        exact Ev.now _
  · rw [if_neg h0]
    exact ev_neg h0 (Ev.now _)
theorem impl_RecordAt_f (l : List Int) (hl : IsBytes l) (hn : l.length ≤ 1048576) (p : Int) (hp : p ≤ 9223372036854775807) : Ev (fun k => impl_RecordAt.f k l p) (recAt l p) := by
  unfold impl_RecordAt.f recAt
  have hb := faOf_bytes hl p
  have hs := faOf_length l p
  refine Ev.bind (impl_FrameAt_f l hl hn p hp) ?_
  generalize faOf l p = f at hb hs
  obtain ⟨kd, b, en, co⟩ := f
  dsimp only at hb hs ⊢
  by_cases h0 : co = 0
  · rw [if_pos h0]
    refine ev_pos h0 ?_
    by_cases h1 : (b.length : Int) < 12
    · rw [if_pos h1]
      exact ev_pos h1 (Ev.now _)
    · rw [if_neg h1]
      refine ev_neg h1 (ev_pos (by omega) ?_)
      refine ev_bind0 (show slices_Clone_byte_byte.f (b.drop 12) = some (b.drop 12) by
        unfold slices_Clone_byte_byte.f
        rw [Option.bind_some, if_pos (by simp only [List.length_nil, List.length_drop]; omega), List.nil_append]) ?_
      refine Ev.bind (impl_GetNum_f b hb (by omega) 0 4) ?_
      refine Ev.bind (impl_GetNum_f b hb (by omega) 4 4) ?_
      refine Ev.bind (impl_GetNum_f b hb (by omega) 8 2) ?_
      refine Ev.bind (impl_GetNum_f b hb (by omega) 10 2) ?_
      refine Ev.bind (impl_RecordOk_f _ _ _ _ _ _) ?_
      by_cases h2 : recOk kd (gn b 0 4).1 (gn b 4 4).1 (gn b 8 2).1 (gn b 10 2).1 (b.drop 12) = true
      · rw [if_pos h2, if_pos h2]
        exact Ev.now _
      · rw [if_neg h2, if_neg h2]
        exact Ev.now _
  · rw [if_neg h0]
    exact ev_neg h0 (Ev.now _)

theorem rdB_Record (l : List S37) (i : Nat) (h : i < l.length) : rd_T37 l (i : Int) = l[i] := by
  simp [rd_T37, List.getD_eq_getElem?_getD, List.getElem?_eq_getElem h]
theorem eqRecord_same (x : S37) (h : ((x).f5).length ≤ 1048576) : Ev (fun k => laws_eqRecord.f k (x).f0 (x).f1 (x).f2 (x).f3 (x).f4 (x).f5 (x).f0 (x).f1 (x).f2 (x).f3 (x).f4 (x).f5) true := by
  unfold laws_eqRecord.f
  repeat refine ev_pos rfl ?_
  refine Ev.bind (eqByteS_same _ h) ?_
  exact ev_pos rfl (Ev.now _)
theorem eqRecordS_l (l : List S37) (hn : l.length ≤ 1048576) (hx : ∀ x ∈ l, ((x).f5).length ≤ 1048576) (d : Nat) : ∀ (i : Nat), i + d = l.length → Ev (fun k => laws_eqRecordS.l0 k l l (i : Int)) true := by
  induction d with
  | zero =>
    intro i hi
    refine Ev.step (fun k => by rw [laws_eqRecordS.l0, if_neg (by omega)]) (Ev.now _)
  | succ d ih =>
    intro i hi
    have hr := rdB_Record l i (by omega)
    have ht := eqRecord_same (l[i]'(by omega)) (hx _ (List.getElem_mem _))
    refine Ev.step (fun k => by rw [laws_eqRecordS.l0, if_pos (by omega), if_pos (by omega), if_pos (by omega), hr]) (Ev.bind ht (ev_pos rfl ?_))
    rw [w64 (by omega) (by omega)]
    exact ih (i + 1) (by omega)
theorem eqRecordS_same (l : List S37) (hn : l.length ≤ 1048576) (hx : ∀ x ∈ l, ((x).f5).length ≤ 1048576) : Ev (fun k => laws_eqRecordS.f k l l) true := by
  unfold laws_eqRecordS.f
  exact ev_pos rfl (eqRecordS_l l hn hx l.length 0 (by omega))

/-- rows of Record marked one behind the other -/
def marksRecord (m : Int) : List S37 → List S37
  | [] => []
  | x :: l => ⟨m, m + 1, m + 1 + 1, m + 1 + 1 + 1, m + 1 + 1 + 1 + 1, marksB (m + 1 + 1 + 1 + 1 + 1) (x.f5).length⟩ :: marksRecord (m + 5 + (x.f5).length) l
def sumB_Record : List S37 → Nat
  | [] => 0
  | x :: l => (x.f5).length + sumB_Record l
theorem sumB_Record_le (l : List S37) (n b : Nat) (hn : l.length ≤ n) (hx : ∀ x ∈ l, (x.f5).length ≤ b) : sumB_Record l ≤ n * b := by
  induction l generalizing n with
  | nil => simp [sumB_Record]
  | cons x l ih =>
    obtain ⟨n, rfl⟩ : ∃ q, n = q + 1 := ⟨n - 1, by simp at hn; omega⟩
    have h1 := ih n (by simp at hn; omega) (fun y hy => hx y (List.mem_cons_of_mem _ hy))
    have h2 := hx x (List.mem_cons_self ..)
    simp only [sumB_Record, Nat.add_mul, Nat.one_mul]
    omega
theorem markRecord_go (rest : List S37) : ∀ (pre : List S37) (m : Int), 0 ≤ m → m + 5 * rest.length + sumB_Record rest ≤ 1000000000000 → (∀ x ∈ rest, (x.f5).length ≤ 1048576) →
    Ev (fun k => laws_markRecordS.go k rest.length pre.length (pre ++ rest) m) (m + 5 * rest.length + sumB_Record rest, pre ++ marksRecord m rest) := by
  induction rest with
  | nil =>
    intro pre m h0 h1 hx
    refine Ev.congr (f := fun _ => some (m, pre ++ [])) (fun k => rfl) ?_
    rw [show (m : Int) + 5 * (([] : List S37).length : Nat) + (sumB_Record ([] : List S37) : Nat) = m by simp [sumB_Record]]
    exact Ev.now _
  | cons x rest ih =>
    intro pre m h0 h1 hx
    have hs : sumB_Record (x :: rest) = (x.f5).length + sumB_Record rest := rfl
    rw [hs, List.length_cons] at h1
    have hxl := hx x (List.mem_cons_self ..)
    have h2 := ih (pre ++ [(⟨m, m + 1, m + 1 + 1, m + 1 + 1 + 1, m + 1 + 1 + 1 + 1, marksB (m + 1 + 1 + 1 + 1 + 1) (x.f5).length⟩ : S37)]) (m + 5 + (x.f5).length) (by omega) (by push_cast at h1 ⊢; omega) (fun y hy => hx y (List.mem_cons_of_mem _ hy))
    have hg : (pre ++ x :: rest).getD pre.length z37 = x := by simp [List.getD_eq_getElem?_getD]
    refine Ev.congr (fun k => by rw [List.length_cons, laws_markRecordS.go, hg]) (ev_pos (c := 0 ≤ m ∧ m ≤ 1000000000000) ⟨h0, by push_cast at h1; omega⟩ (Ev.bind (markByteS_f x.f5 hxl (m + 1 + 1 + 1 + 1 + 1) (by omega) (by push_cast at h1; omega)) ?_))
    dsimp only
    have hset : (pre ++ x :: rest).set pre.length (⟨m, m + 1, m + 1 + 1, m + 1 + 1 + 1, m + 1 + 1 + 1 + 1, marksB (m + 1 + 1 + 1 + 1 + 1) (x.f5).length⟩ : S37) = (pre ++ [(⟨m, m + 1, m + 1 + 1, m + 1 + 1 + 1, m + 1 + 1 + 1 + 1, marksB (m + 1 + 1 + 1 + 1 + 1) (x.f5).length⟩ : S37)]) ++ rest := by simp
    rw [hset, show pre.length + 1 = (pre ++ [(⟨m, m + 1, m + 1 + 1, m + 1 + 1 + 1, m + 1 + 1 + 1 + 1, marksB (m + 1 + 1 + 1 + 1 + 1) (x.f5).length⟩ : S37)]).length by simp, show (m : Int) + 5 * ((x :: rest).length : Nat) + ((sumB_Record (x :: rest) : Nat) : Int) = m + 5 + (x.f5).length + 5 * rest.length + sumB_Record rest by rw [hs, List.length_cons]; push_cast; omega,
      show pre ++ marksRecord m (x :: rest) = (pre ++ [(⟨m, m + 1, m + 1 + 1, m + 1 + 1 + 1, m + 1 + 1 + 1 + 1, marksB (m + 1 + 1 + 1 + 1 + 1) (x.f5).length⟩ : S37)]) ++ marksRecord (m + 5 + (x.f5).length) rest by simp [marksRecord], show m + 1 + 1 + 1 + 1 + 1 + ((x.f5).length : Int) = m + 5 + (x.f5).length by omega]
    exact h2
theorem markRecordS_f (l : List S37) (hn : l.length ≤ 1048576) (hx : ∀ x ∈ l, (x.f5).length ≤ 1048576) (m : Int) (h0 : 0 ≤ m) (h1 : m + 5 * l.length + sumB_Record l ≤ 1000000000000) : Ev (fun k => laws_markRecordS.f k l m) (m + 5 * l.length + sumB_Record l, marksRecord m l) := by
  unfold laws_markRecordS.f
  refine ev_pos hn ?_
  exact markRecord_go l [] m h0 h1 hx

theorem heldRecordS_l (rest : List S37) : ∀ (pre : List S37) (m : Int), 0 ≤ m → m + 5 * rest.length + sumB_Record rest ≤ 1000000000000 → (∀ x ∈ rest, (x.f5).length ≤ 1048576) → pre.length + rest.length ≤ 1048576 → Ev (fun k => laws_heldRecordS.l0 k (pre ++ marksRecord m rest) m (pre.length : Int)) (m + 5 * rest.length + sumB_Record rest) := by
  induction rest with
  | nil =>
    intro pre m h0 h1 hx hn
    refine Ev.step (f := fun _ => some m) (fun k => by rw [laws_heldRecordS.l0, if_neg (by simp [marksRecord])]) ?_
    rw [show (m : Int) + 5 * (([] : List S37).length : Nat) + (sumB_Record ([] : List S37) : Nat) = m by simp [sumB_Record]]
    exact Ev.now _
  | cons x rest ih =>
    intro pre m h0 h1 hx hn
    have hs : sumB_Record (x :: rest) = (x.f5).length + sumB_Record rest := rfl
    rw [hs, List.length_cons] at h1
    rw [List.length_cons] at hn
    have hxl := hx x (List.mem_cons_self ..)
    have h2 := ih (pre ++ [(⟨m, m + 1, m + 1 + 1, m + 1 + 1 + 1, m + 1 + 1 + 1 + 1, marksB (m + 1 + 1 + 1 + 1 + 1) (x.f5).length⟩ : S37)]) (m + 5 + (x.f5).length) (by omega) (by push_cast at h1 ⊢; omega) (fun y hy => hx y (List.mem_cons_of_mem _ hy)) (by simp; omega)
    have hr : rd_T37 (pre ++ marksRecord m (x :: rest)) (pre.length : Int) = (⟨m, m + 1, m + 1 + 1, m + 1 + 1 + 1, m + 1 + 1 + 1 + 1, marksB (m + 1 + 1 + 1 + 1 + 1) (x.f5).length⟩ : S37) := by simp [rd_T37, marksRecord, List.getD_eq_getElem?_getD]
    push_cast at h1
    have e1 : wrap64 (m + 1) = m + 1 := w64 (by omega) (by omega)
    have e2 : wrap64 (m + 1 + 1) = m + 1 + 1 := w64 (by omega) (by omega)
    have e3 : wrap64 (m + 1 + 1 + 1) = m + 1 + 1 + 1 := w64 (by omega) (by omega)
    have e4 : wrap64 (m + 1 + 1 + 1 + 1) = m + 1 + 1 + 1 + 1 := w64 (by omega) (by omega)
    have e5 : wrap64 (m + 1 + 1 + 1 + 1 + 1) = m + 1 + 1 + 1 + 1 + 1 := w64 (by omega) (by omega)
    refine Ev.step (fun k => by rw [laws_heldRecordS.l0, if_pos (by simp [marksRecord]; omega), if_pos (by omega), hr, e1, e2, e3, e4, e5, if_pos rfl, if_pos rfl, if_pos rfl, if_pos rfl, if_pos rfl]) (Ev.bind (heldByteS_f (x.f5).length hxl (m + 1 + 1 + 1 + 1 + 1) (by omega) (by omega)) ?_)
    refine ev_neg (by omega) ?_
    rw [w64 (by omega) (by omega), show pre ++ marksRecord m (x :: rest) = (pre ++ [(⟨m, m + 1, m + 1 + 1, m + 1 + 1 + 1, m + 1 + 1 + 1 + 1, marksB (m + 1 + 1 + 1 + 1 + 1) (x.f5).length⟩ : S37)]) ++ marksRecord (m + 5 + (x.f5).length) rest by simp [marksRecord], show (m : Int) + 5 * ((x :: rest).length : Nat) + ((sumB_Record (x :: rest) : Nat) : Int) = m + 5 + (x.f5).length + 5 * rest.length + sumB_Record rest by rw [hs, List.length_cons]; push_cast; omega, show m + 1 + 1 + 1 + 1 + 1 + ((x.f5).length : Int) = m + 5 + (x.f5).length by omega]
    rw [show (((pre ++ [(⟨m, m + 1, m + 1 + 1, m + 1 + 1 + 1, m + 1 + 1 + 1 + 1, marksB (m + 1 + 1 + 1 + 1 + 1) (x.f5).length⟩ : S37)]).length : Nat) : Int) = (pre.length : Int) + 1 by simp] at h2
    exact h2
theorem heldRecordS_f (l : List S37) (hn : l.length ≤ 1048576) (hx : ∀ x ∈ l, (x.f5).length ≤ 1048576) (m : Int) (h0 : 0 ≤ m) (h1 : m + 5 * l.length + sumB_Record l ≤ 1000000000000) : Ev (fun k => laws_heldRecordS.f k (marksRecord m l) m) (m + 5 * l.length + sumB_Record l) := by
  unfold laws_heldRecordS.f
  exact heldRecordS_l l [] m h0 h1 hx (by simpa using hn)

theorem fa_good {l : List Int} (hl : IsBytes l) (p : Int) (h : (faOf l p).2.2.2 = 0) : l.length ≤ 65536 ∧ 0 ≤ p ∧ p + 7 ≤ (faOf l p).2.2.1 ∧ (faOf l p).2.2.1 ≤ (l.length : Int) := by
  have hg := gn_two hl (p + 1)
  unfold faOf at h ⊢
  split at h
  · exact absurd h (by decide)
  rename_i h1
  rw [if_neg h1]
  split at h
  · exact absurd h (by decide)
  rename_i h2
  rw [if_neg h2]
  split at h
  · exact absurd h (by decide)
  rename_i h3
  rw [if_neg h3]
  split at h
  · exact absurd h (by decide)
  rename_i h4
  rw [if_neg h4]
  dsimp only
  omega
theorem recOk_lsn (a b c d e : Int) (f : List Int) (h : recOk a b c d e f = true) : 1 ≤ b ∧ b ≤ 1000000 := by
  unfold recOk at h
  exact of_decide_eq_true ((Bool.and_eq_true _ _).mp h).1
theorem rec_good {l : List Int} (hl : IsBytes l) (p : Int) (h : (recAt l p).2.2.2.2.2.2.2 = 0) : l.length ≤ 65536 ∧ 0 ≤ p ∧ p + 7 ≤ (recAt l p).2.2.2.2.2.2.1 ∧ (recAt l p).2.2.2.2.2.2.1 ≤ (l.length : Int) ∧ (recAt l p).2.1 ≤ 1000000 ∧ 1 ≤ (recAt l p).2.1 := by
  unfold recAt at h ⊢
  split at h
  · rename_i h0
    rw [if_pos h0]
    have hg := fa_good hl p h0
    split at h
    · exact absurd h (by decide)
    rename_i h1
    rw [if_neg h1]
    split at h
    · rename_i h2
      rw [if_pos h2]
      have h3 := recOk_lsn _ _ _ _ _ _ h2
      dsimp only
      omega
    · exact absurd h (by decide)
  · rename_i h0
    exact absurd h h0
/-- the records from a place on -/
def scanN (l : List Int) : Nat → Int → List S37 → Int → List S37 × Int
  | 0, _, out, p => (out, p)
  | n + 1, lsn, out, p => if (recAt l p).2.2.2.2.2.2.2 = 0 ∧ (recAt l p).2.1 = lsn then scanN l n (lsn + 1) (out ++ [(⟨(recAt l p).1, (recAt l p).2.1, (recAt l p).2.2.1, (recAt l p).2.2.2.1, (recAt l p).2.2.2.2.1, (recAt l p).2.2.2.2.2.1⟩ : S37)]) (recAt l p).2.2.2.2.2.2.1 else (out, p)
theorem scan_spec (l : List Int) (hl : IsBytes l) (hn : l.length ≤ 1048576) (n : Nat) : ∀ (lsn : Int) (out : List S37) (p : Int), 0 ≤ p → p ≤ l.length → (l.length : Int) - p < n → (out.length : Int) ≤ p → Ev (fun k => spec_LogScan.l0 k l lsn out p) (scanN l n lsn out p) := by
  induction n with
  | zero => intro lsn out p h0 h1 h2; omega
  | succ n ih =>
    intro lsn out p h0 h1 h2 h3
    refine Ev.step (fun k => by rw [spec_LogScan.l0]) (Ev.bind (spec_RecordAt_f l hl hn p (by omega)) ?_)
    rw [scanN]
    by_cases hc : (recAt l p).2.2.2.2.2.2.2 = 0
    · have hg := rec_good hl p hc
      by_cases hs : (recAt l p).2.1 = lsn
      · rw [if_pos ⟨hc, hs⟩]
        refine ev_pos hc (ev_pos hs (ev_pos (by omega) ?_))
        rw [w64 (by omega) (by omega)]
        have := ih (lsn + 1) (out ++ [(⟨(recAt l p).1, (recAt l p).2.1, (recAt l p).2.2.1, (recAt l p).2.2.2.1, (recAt l p).2.2.2.2.1, (recAt l p).2.2.2.2.2.1⟩ : S37)]) (recAt l p).2.2.2.2.2.2.1 (by omega) (by omega) (by omega) (by rw [List.length_append, List.length_singleton]; omega)
        rw [show (recAt l p).2.1 + 1 = lsn + 1 by rw [hs]]
        exact this
      · rw [if_neg (fun h => hs h.2)]
        exact ev_pos hc (ev_neg hs (Ev.now _))
    · rw [if_neg (fun h => hc h.1)]
      exact ev_neg hc (Ev.now _)
theorem scan_impl (l : List Int) (hl : IsBytes l) (hn : l.length ≤ 1048576) (n : Nat) : ∀ (lsn : Int) (out : List S37) (p : Int), 0 ≤ p → p ≤ l.length → (l.length : Int) - p < n → (out.length : Int) ≤ p → Ev (fun k => impl_LogScan.l0 k l lsn out p) (scanN l n lsn out p) := by
  induction n with
  | zero => intro lsn out p h0 h1 h2; omega
  | succ n ih =>
    intro lsn out p h0 h1 h2 h3
    refine Ev.step (fun k => by rw [impl_LogScan.l0]) (Ev.bind (impl_RecordAt_f l hl hn p (by omega)) ?_)
    rw [scanN]
    by_cases hc : (recAt l p).2.2.2.2.2.2.2 = 0
    · have hg := rec_good hl p hc
      by_cases hs : (recAt l p).2.1 = lsn
      · rw [if_pos ⟨hc, hs⟩]
        refine ev_pos hc (ev_pos hs (ev_pos (by omega) ?_))
        rw [w64 (by omega) (by omega)]
        exact ih (lsn + 1) (out ++ [(⟨(recAt l p).1, (recAt l p).2.1, (recAt l p).2.2.1, (recAt l p).2.2.2.1, (recAt l p).2.2.2.2.1, (recAt l p).2.2.2.2.2.1⟩ : S37)]) (recAt l p).2.2.2.2.2.2.1 (by omega) (by omega) (by omega) (by rw [List.length_append, List.length_singleton]; omega)
      · rw [if_neg (fun h => hs h.2)]
        exact ev_pos hc (ev_neg hs (Ev.now _))
    · rw [if_neg (fun h => hc h.1)]
      exact ev_neg hc (Ev.now _)
theorem scan_small (l : List Int) (hl : IsBytes l) (n : Nat) : ∀ (lsn : Int) (out : List S37) (p : Int), p ≤ l.length → (out.length : Int) ≤ p → (∀ x ∈ out, (x.f5).length ≤ 65536) → (scanN l n lsn out p).1.length ≤ l.length ∧ ∀ x ∈ (scanN l n lsn out p).1, (x.f5).length ≤ 65536 := by
  induction n with
  | zero => intro lsn out p h1 h3 hx; exact ⟨by show out.length ≤ l.length; omega, hx⟩
  | succ n ih =>
    intro lsn out p h1 h3 hx
    rw [scanN]
    by_cases hc : (recAt l p).2.2.2.2.2.2.2 = 0 ∧ (recAt l p).2.1 = lsn
    · rw [if_pos hc]
      have hg := rec_good hl p hc.1
      have hr := recAt_length l p
      refine ih _ _ _ (by omega) (by rw [List.length_append, List.length_singleton]; omega) (fun x h => ?_)
      rcases List.mem_append.1 h with h | h
      · exact hx x h
      · rw [List.mem_singleton.1 h]
        show (recAt l p).2.2.2.2.2.1.length ≤ 65536
        omega
    · rw [if_neg hc]
      exact ⟨by show out.length ≤ l.length; omega, hx⟩
/-- the records at the beginning of bytes, and the place behind them -/
def scanOf (l : List Int) (lsn : Int) : List S37 × Int := if 65536 < l.length then ([], 0) else scanN l (l.length + 1) lsn [] 0
theorem big_at {l : List Int} (hb : 65536 < l.length) (p : Int) : recAt l p = (0, 0, 0, 0, 0, [], 0, 1) := by
  unfold recAt
  rw [faOf_short l p (fun h => by omega)]
  rfl
theorem spec_LogScan_f (l : List Int) (hl : IsBytes l) (hn : l.length ≤ 1048576) (lsn : Int) : Ev (fun k => spec_LogScan.f k l lsn) (scanOf l lsn) := by
  unfold spec_LogScan.f scanOf
  by_cases hb : 65536 < l.length
  · rw [if_pos hb]
    exact ev_pos (by omega) (Ev.now _)
  · rw [if_neg hb]
    exact ev_neg (by omega) (scan_spec l hl hn (l.length + 1) lsn [] 0 (by omega) (by omega) (by omega) (by simp))
theorem impl_LogScan_f (l : List Int) (hl : IsBytes l) (hn : l.length ≤ 1048576) (lsn : Int) : Ev (fun k => impl_LogScan.f k l lsn) (scanOf l lsn) := by
  unfold impl_LogScan.f scanOf
  by_cases hb : 65536 < l.length
  · rw [if_pos hb]
    refine Ev.step (fun k => by rw [impl_LogScan.l0]) (Ev.bind (impl_RecordAt_f l hl hn 0 (by omega)) ?_)
    rw [big_at hb]
    exact ev_neg (by decide) (Ev.now _)
  · rw [if_neg hb]
    exact scan_impl l hl hn (l.length + 1) lsn [] 0 (by omega) (by omega) (by omega) (by simp)
theorem scanOf_small (l : List Int) (hl : IsBytes l) (lsn : Int) : (scanOf l lsn).1.length ≤ 65536 ∧ ∀ x ∈ (scanOf l lsn).1, (x.f5).length ≤ 65536 := by
  unfold scanOf
  by_cases hb : 65536 < l.length
  · rw [if_pos hb]
    exact ⟨by simp, by simp⟩
  · rw [if_neg hb]
    have := scan_small l hl (l.length + 1) lsn [] 0 (by omega) (by simp) (by simp)
    exact ⟨by omega, this.2⟩

/-- The pure statement. -/
def Stmt : Prop := ∀ (l0 : List (Int)) (a1 : Int), ((fun xs => xs.length ≤ 9223372036854775807 ∧ ∀ x ∈ xs, (fun n => (Lit.int .u8 n).wf = true) x) l0) → ((fun n => (Lit.int .i64 n).wf = true) a1) → laws_FnExactLogScan.H l0 a1
theorem main : Stmt := by
  intro l n ⟨_, hw⟩ _
  have hb := isBytes_of hw
  unfold laws_FnExactLogScan.H
  by_cases h : (1048576 : Int) < (l.length : Int)
  · exact Or.inl h
  refine Or.inr ⟨h, ?_⟩
  have hn : l.length ≤ 1048576 := by omega
  have sp := spec_LogScan_f l hb hn n
  have im := impl_LogScan_f l hb hn n
  have hc := scanOf_small l hb n
  generalize scanOf l n = r at sp im hc
  obtain ⟨r1, r2⟩ := r
  dsimp only at hc
  have hn2 : r1.length ≤ 1048576 := by omega
  have hx2 : ∀ x ∈ r1, (x.f5).length ≤ 1048576 := fun x hx => by have := hc.2 x hx; omega
  have hs := sumB_Record_le r1 65536 65536 hc.1 hc.2
  obtain ⟨k1, h1⟩ := Ev.rounds (toByteS_f l hn)
  obtain ⟨k2, h2⟩ := Ev.rounds sp
  obtain ⟨k3, h3⟩ := Ev.rounds im
  obtain ⟨k4, h4⟩ := Ev.rounds (eqRecordS_same r1 hn2 hx2)
  obtain ⟨k5, h5⟩ := Ev.rounds (eqByteS_same l hn)
  obtain ⟨k6, h6⟩ := Ev.rounds (markByteS_f l hn 1 (by omega) (by omega))
  obtain ⟨k7, h7⟩ := Ev.rounds (markRecordS_f r1 hn2 hx2 1 (by omega) (by omega))
  obtain ⟨k8, h8⟩ := Ev.rounds (heldRecordS_f r1 hn2 hx2 1 (by omega) (by omega))
  exact ⟨k1, _, h1, k2, _, _, h2, k1, _, h1, k3, h3, k4, h4, k1, _, h1, k5, h5, k6, _, _, h6, by omega, k4, h4, k7, _, _, h7, by omega, k8, h8, k1, _, h1, k3, h3, k4, h4, k8, h8, trivial⟩

end Go.Proofs.Ytkbclccnnllddaa.Pure.ofFnExactLogScan
namespace Go.Proofs.Ytkbclccnnllddaa.PrintWords
/-- The word that the printed row asks for, under the name by which it asks. -/
abbrev sized_ints := @Go.Proofs.YtkbclccnnllddaaW.PrintWords.sized_ints
end Go.Proofs.Ytkbclccnnllddaa.PrintWords
namespace Go.Proofs.Ytkbclccnnllddaa.Pure
open Go.Proofs.Ytkbclccnnllddaa.PFnExactLogScan
theorem FnExactLogScan : ofFnExactLogScan.Stmt := ofFnExactLogScan.main
end Go.Proofs.Ytkbclccnnllddaa.Pure

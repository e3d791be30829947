/-
The law FnExactLogBytes answers true: for every row of records the program's LogBytes gives the reference's bytes and verdict, in memory of its own, and the records stay as they were.
Conditions: none beyond the bounds of the statement itself.
-/
import Derived.Test.YtkbclccnnllddaaPFnExactLogBytesx8
import Derived.Test.YtkbclccnnllddaaWSized
set_option linter.unusedVariables false
set_option linter.unusedSimpArgs false
namespace Go.Proofs.Ytkbclccnnllddaa.Pure.ofFnExactLogBytes
open Go.RowKit Go.Proofs.Ytkbclccnnllddaa.PFnExactLogBytes Go.Proofs.YtkbclccnnllddaaW.PrintWords Go.Proofs.YtkbclccnnllddaaW.PrintLast Go.Proofs.YtkbclccnnllddaaW.PrintMore

theorem ev_pos {α : Type} {c : Prop} [Decidable c] {A B : Nat → Option α} {r : α} (hc : c) (h : Ev A r) : Ev (fun k => if c then A k else B k) r := by
  refine Ev.congr (fun k => ?_) h
  rw [if_pos hc]
theorem ev_neg {α : Type} {c : Prop} [Decidable c] {A B : Nat → Option α} {r : α} (hc : ¬ c) (h : Ev B r) : Ev (fun k => if c then A k else B k) r := by
  refine Ev.congr (fun k => ?_) h
  rw [if_neg hc]
theorem ev_bind0 {α β : Type} {g : Option α} {f : Nat → α → Option β} {a : α} {r : β} (h : g = some a) (k : Ev (fun n => f n a) r) : Ev (fun n => g.bind (f n)) r := by
  refine Ev.congr (fun n => ?_) k
  rw [h]; rfl
theorem w64 {x : Int} (h0 : -9223372036854775808 ≤ x) (h1 : x ≤ 9223372036854775807) : wrap64 x = x := by
  unfold wrap64; omega
theorem rd_cons (x : Int) (l : List Int) : rd (x :: l) 0 = x := rfl
theorem rd_nat (l : List Int) (i : Nat) (h : i < l.length) : rd l (i : Int) = l[i] := by
  simp [rd, List.getD_eq_getElem?_getD, List.getElem?_eq_getElem h]
theorem rd_at (l : List Int) (i : Int) (h0 : 0 ≤ i) (h : i < l.length) : ∃ x, x ∈ l ∧ rd l i = x := by
  obtain ⟨n, rfl⟩ := Int.eq_ofNat_of_zero_le h0
  exact ⟨l[n]'(by omega), List.getElem_mem _, rd_nat l n (by omega)⟩
def marks (m : Int) : Nat → List Int
  | 0 => []
  | n + 1 => m :: marks (m + 1) n
def marksB (m : Int) : Nat → List Int
  | 0 => []
  | n + 1 => (m % 256) :: marksB (m + 1) n
theorem marks_length (n : Nat) : ∀ m, (marks m n).length = n := by
  induction n with
  | zero => intro m; rfl
  | succ n ih => intro m; simp [marks, ih]
theorem marksB_length (n : Nat) : ∀ m, (marksB m n).length = n := by
  induction n with
  | zero => intro m; rfl
  | succ n ih => intro m; simp [marksB, ih]
theorem marks_get (n : Nat) : ∀ m (i : Nat) (h : i < (marks m n).length), (marks m n)[i] = m + i := by
  induction n with
  | zero => intro m i h; simp [marks] at h
  | succ n ih =>
    intro m i h
    cases i with
    | zero => simp [marks]
    | succ i => simp only [marks, List.getElem_cons_succ]; rw [ih]; push_cast; omega
theorem marksB_get (n : Nat) : ∀ m (i : Nat) (h : i < (marksB m n).length), (marksB m n)[i] = (m + i) % 256 := by
  induction n with
  | zero => intro m i h; simp [marksB] at h
  | succ n ih =>
    intro m i h
    cases i with
    | zero => simp [marksB]
    | succ i => simp only [marksB, List.getElem_cons_succ]; rw [ih]; push_cast; omega

def IsBytes (l : List Int) : Prop := ∀ x ∈ l, 0 ≤ x ∧ x ≤ 255
theorem isBytes_of {l : List Int} (h : ∀ x ∈ l, (Lit.int .u8 x).wf = true) : IsBytes l := by
  intro x hx
  have := h x hx
  simpa [Lit.wf, IntKind.min, IntKind.max, IntKind.signed, IntKind.bits] using this
theorem rd_byte {l : List Int} (h : IsBytes l) (i : Int) : 0 ≤ rd l i ∧ rd l i ≤ 255 := by
  by_cases hi : i.toNat < l.length
  · have : rd l i = l[i.toNat] := by simp [rd, List.getD_eq_getElem?_getD, List.getElem?_eq_getElem hi]
    rw [this]
    exact h _ (List.getElem_mem _)
  · have : rd l i = 0 := by simp [rd, List.getD_eq_getElem?_getD, List.getElem?_eq_none (by omega : l.length ≤ i.toNat)]
    omega

theorem isBytes_append {a b : List Int} (ha : IsBytes a) (hb : IsBytes b) : IsBytes (a ++ b) := by
  intro x hx
  rcases List.mem_append.1 hx with h | h
  · exact ha x h
  · exact hb x h
theorem isBytes_one {x : Int} (h : 0 ≤ x ∧ x ≤ 255) : IsBytes [x] := by
  intro y hy
  rw [List.mem_singleton.1 hy]
  exact h
theorem isBytes_nil : IsBytes [] := fun x hx => by cases hx
theorem isBytes_take {a : List Int} (h : IsBytes a) (n : Nat) : IsBytes (a.take n) := fun x hx => h x (List.mem_of_mem_take hx)
theorem isBytes_drop {a : List Int} (h : IsBytes a) (n : Nat) : IsBytes (a.drop n) := fun x hx => h x (List.mem_of_mem_drop hx)

theorem impl_within_f (a b c : Int) : impl_within.f a b c = some (decide (b ≤ a ∧ a ≤ c)) := by
  unfold impl_within.f
  by_cases h : b ≤ a <;> simp [h]

theorem spec_l5in_f (a b c : Int) : spec_l5in.f a b c = some (decide (b ≤ a ∧ a ≤ c)) := by
  unfold spec_l5in.f
  by_cases h : b ≤ a <;> simp [h]

/-- a number as d bytes, low first -/
def le (n : Int) : Nat → List Int
  | 0 => []
  | d + 1 => (n % 256) :: le (n / 256) d
theorem le_length (d : Nat) : ∀ n, (le n d).length = d := by
  induction d with
  | zero => intro n; rfl
  | succ d ih => intro n; simp [le, ih]
theorem le_bytes (d : Nat) : ∀ n, ∀ x ∈ le n d, 0 ≤ x ∧ x ≤ 255 := by
  induction d with
  | zero => intro n x hx; simp [le] at hx
  | succ d ih =>
    intro n x hx
    simp only [le, List.mem_cons] at hx
    rcases hx with rfl | hx
    · omega
    · exact ih _ x hx
def PnOk (n size : Int) : Prop := (1 ≤ size ∧ size ≤ 8) ∧ 0 ≤ n ∧ n / 256 ^ size.toNat = 0
instance (n size : Int) : Decidable (PnOk n size) := by unfold PnOk; infer_instance
def pn (n size : Int) : List Int := if PnOk n size then le n size.toNat else []
theorem pow256 (d : Nat) (n : Int) : n / 256 / 256 ^ d = n / 256 ^ (d + 1) := by
  rw [Int.pow_succ, Int.mul_comm, Int.ediv_ediv_of_nonneg (by decide)]
theorem spec_PutNum_l (size : Int) (hs : size ≤ 8) (d : Nat) : ∀ (n i : Int) (out : List Int), 0 ≤ n → n ≤ 9223372036854775807 → 0 ≤ i → i + d = size → out.length ≤ 100 - d →
    Ev (fun k => spec_PutNum.l0 k n size out i) (if n / 256 ^ d > 0 then [] else out ++ le n d) := by
  induction d with
  | zero =>
    intro n i out h0 h1 hi he ho
    refine Ev.step (f := fun _ => some (if n / 256 ^ 0 > 0 then [] else out ++ le n 0)) (fun k => ?_) (Ev.now _)
    simp only [spec_PutNum.l0]
    rw [if_neg (by omega)]
    by_cases hn : n > 0
    · rw [if_pos hn, if_pos (by simpa using hn)]
    · rw [if_neg hn, if_neg (by simpa using hn)]
      simp [le]
  | succ d ih =>
    intro n i out h0 h1 hi he ho
    have hq : Int.tdiv n 256 = n / 256 := Int.tdiv_eq_ediv_of_nonneg h0
    have hm : Int.tmod n 256 = n % 256 := Int.tmod_eq_emod_of_nonneg h0
    have := ih (n / 256) (i + 1) (out ++ [n % 256]) (by omega) (by omega) (by omega) (by omega) (by simp; omega)
    rw [pow256] at this
    simp only [List.append_assoc, List.cons_append, List.nil_append] at this
    refine Ev.step (fun k => ?_) this
    simp only [spec_PutNum.l0]
    rw [if_pos (by omega), if_pos (by omega), hq, hm, w64 (by omega) (by omega), w64 (by omega) (by omega), show n % 256 % 256 = n % 256 by omega]
theorem impl_PutNum_l (size : Int) (hs : size ≤ 8) (d : Nat) : ∀ (n i : Int) (out : List Int), 0 ≤ i → i + d = size → out.length ≤ 100 - d →
    Ev (fun k => impl_PutNum.l0 k n out size i) (out ++ le n d) := by
  induction d with
  | zero =>
    intro n i out hi he ho
    refine Ev.step (f := fun _ => some (out ++ le n 0)) (fun k => ?_) (Ev.now _)
    simp only [impl_PutNum.l0]
    rw [if_neg (by omega)]
    simp [le]
  | succ d ih =>
    intro n i out hi he ho
    have := ih (n / 256) (i + 1) (out ++ [n % 256]) (by omega) (by omega) (by simp; omega)
    simp only [List.append_assoc, List.cons_append, List.nil_append] at this
    refine Ev.step (fun k => ?_) this
    simp only [impl_PutNum.l0]
    rw [if_pos (by omega), if_pos (by omega), w64 (by omega) (by omega)]
theorem pn_off (n size : Int) (h : ¬ PnOk n size) : pn n size = [] := by rw [pn, if_neg h]
theorem div_small (n : Int) (d : Nat) (h0 : 0 ≤ n) : ¬ n / 256 ^ d > 0 ↔ n / 256 ^ d = 0 := by
  have : 0 ≤ n / 256 ^ d := Int.ediv_nonneg h0 (Int.le_of_lt (Int.pow_pos (by decide)))
  omega
theorem spec_PutNum_f (n size : Int) (h1 : n ≤ 9223372036854775807) : Ev (fun k => spec_PutNum.f k n size) (pn n size) := by
  unfold spec_PutNum.f
  by_cases s1 : size < 1
  · refine ev_pos s1 (Ev.step (f := fun _ => some []) (fun k => by simp only [spec_PutNum.j0, if_true]) ?_)
    rw [pn_off n size (fun h => by have := h.1; omega)]
    exact Ev.now _
  refine ev_neg s1 ?_
  by_cases s2 : size > 8
  · refine ev_pos s2 (Ev.step (f := fun _ => some []) (fun k => by simp only [spec_PutNum.j0, if_true]) ?_)
    rw [pn_off n size (fun h => by have := h.1; omega)]
    exact Ev.now _
  refine ev_neg s2 ?_
  by_cases s3 : n < 0
  · refine Ev.step (f := fun _ => some []) (fun k => by simp only [spec_PutNum.j0]; rw [if_pos (decide_eq_true s3)]) ?_
    rw [pn_off n size (fun h => by have := h.2.1; omega)]
    exact Ev.now _
  refine Ev.step (f := fun k => spec_PutNum.l0 k n size [] 0) (fun k => by simp only [spec_PutNum.j0]; rw [if_neg (by simpa using s3)]) ?_
  have := spec_PutNum_l size (by omega) size.toNat n 0 [] (by omega) h1 (by omega) (by omega) (by simp)
  by_cases hz : n / 256 ^ size.toNat > 0
  · rw [if_pos hz] at this
    rw [pn_off n size (fun h => by have := h.2.2; omega)]
    exact this
  · rw [if_neg hz] at this
    rw [pn, if_pos ⟨⟨by omega, by omega⟩, by omega, (div_small n _ (by omega)).1 hz⟩]
    exact this
theorem shr_pow (n size : Int) (h1 : 1 ≤ size) (h2 : size < 8) : shr .i64 n (wrap64 (8 * size)) = n / 256 ^ size.toNat := by
  rw [w64 (by omega) (by omega)]
  unfold shr
  rw [Nat.min_eq_left (by simp [IntKind.bits]; omega)]
  obtain ⟨m, rfl⟩ := Int.eq_ofNat_of_zero_le (show 0 ≤ size by omega)
  have : (8 * (m : Int)).toNat = 8 * m := by omega
  rw [this, Int.toNat_natCast, Int.pow_mul]
  rfl
theorem impl_PutNum_f (n size : Int) (h1 : n ≤ 9223372036854775807) : Ev (fun k => impl_PutNum.f k n size) (pn n size) := by
  unfold impl_PutNum.f
  refine ev_bind0 (impl_within_f _ _ _) ?_
  by_cases s1 : 1 ≤ size ∧ size ≤ 8
  · refine ev_pos (decide_eq_true s1) ?_
    by_cases s2 : n < 0
    · refine ev_pos s2 (Ev.step (f := fun _ => some []) (fun k => by simp only [impl_PutNum.j0, if_true]) ?_)
      rw [pn_off n size (fun h => by have := h.2.1; omega)]
      exact Ev.now _
    refine ev_neg s2 ?_
    have hl := impl_PutNum_l size (by omega) size.toNat n 0 [] (by omega) (by omega) (by simp)
    by_cases s3 : size < 8
    · refine ev_pos s3 (ev_pos (by rw [w64 (by omega) (by omega)]; omega) ?_)
      rw [shr_pow n size s1.1 s3]
      by_cases hz : n / 256 ^ size.toNat = 0
      · refine Ev.step (f := fun k => impl_PutNum.l0 k n [] size 0) (fun k => by simp only [impl_PutNum.j0]; rw [if_neg (by simp [hz])]) ?_
        rw [pn, if_pos ⟨s1, by omega, hz⟩]
        exact hl
      · refine Ev.step (f := fun _ => some []) (fun k => by simp only [impl_PutNum.j0]; rw [if_pos (by simp [hz])]) ?_
        rw [pn_off n size (fun h => hz h.2.2)]
        exact Ev.now _
    · refine ev_neg s3 ?_
      obtain rfl : size = 8 := by omega
      refine Ev.step (f := fun k => impl_PutNum.l0 k n [] 8 0) (fun k => by simp only [impl_PutNum.j0, Bool.false_eq_true, if_false]) ?_
      have hz : n / 256 ^ (8 : Int).toNat = 0 := by
        have : (256 : Int) ^ (8 : Int).toNat = 18446744073709551616 := by decide
        rw [this]; omega
      rw [pn, if_pos ⟨s1, by omega, hz⟩]
      exact hl
  · refine ev_neg (by simpa using s1) (Ev.step (f := fun _ => some []) (fun k => by simp only [impl_PutNum.j0, if_true]) ?_)
    rw [pn_off n size (fun h => s1 h.1)]
    exact Ev.now _
theorem pn_length (n size : Int) : (pn n size).length ≤ 8 := by
  unfold pn
  split
  · rename_i h
    rw [le_length]
    have := h.1
    omega
  · simp

def stN (n : Nat) : Nat := (n / 2) ^^^ (if n % 2 = 1 then 3988292384 else 0)
def itN (n : Nat) : Nat → Nat
  | 0 => n
  | m + 1 => stN (itN n m)
theorem stN_lt (n : Nat) (h : n < 2 ^ 32) : stN n < 2 ^ 32 := by
  unfold stN
  refine Nat.xor_lt_two_pow (by omega) ?_
  split <;> decide
theorem itN_lt (n : Nat) (h : n < 2 ^ 32) (m : Nat) : itN n m < 2 ^ 32 := by
  induction m with
  | zero => exact h
  | succ m ih => exact stN_lt _ ih
theorem xor_half (a b : Nat) : (a ^^^ b) / 2 = (a / 2) ^^^ (b / 2) := by
  refine Nat.eq_of_testBit_eq fun i => ?_
  rw [Nat.testBit_xor, Nat.testBit_div_two, Nat.testBit_div_two, Nat.testBit_div_two, Nat.testBit_xor]
theorem xor_par (a b : Nat) : (a ^^^ b) % 2 = (a % 2 + b % 2) % 2 := by
  have h := Nat.testBit_xor a b 0
  simp only [Nat.testBit_zero] at h
  have h1 : a % 2 = 0 ∨ a % 2 = 1 := by omega
  have h2 : b % 2 = 0 ∨ b % 2 = 1 := by omega
  have h3 : (a ^^^ b) % 2 = 0 ∨ (a ^^^ b) % 2 = 1 := by omega
  rcases h1 with h1 | h1 <;> rcases h2 with h2 | h2 <;> rcases h3 with h3 | h3 <;> simp [h1, h2, h3] at h ⊢
theorem stN_xor (a b : Nat) : stN (a ^^^ b) = stN a ^^^ stN b := by
  unfold stN
  rw [xor_half, xor_par]
  have h1 : a % 2 = 0 ∨ a % 2 = 1 := by omega
  have h2 : b % 2 = 0 ∨ b % 2 = 1 := by omega
  generalize a / 2 = x
  generalize b / 2 = y
  rcases h1 with h1 | h1 <;> rcases h2 with h2 | h2 <;> rw [h1, h2] <;> simp
  · exact Nat.xor_assoc ..
  · rw [Nat.xor_assoc, Nat.xor_assoc, Nat.xor_comm 3988292384 y]
  · rw [Nat.xor_comm y 3988292384, ← Nat.xor_assoc (x ^^^ 3988292384), Nat.xor_assoc x, Nat.xor_self, Nat.xor_zero]
theorem itN_xor (a b m : Nat) : itN (a ^^^ b) m = itN a m ^^^ itN b m := by
  induction m with
  | zero => rfl
  | succ m ih => simp only [itN, ih, stN_xor]
theorem stN_even (h : Nat) : stN (2 * h) = h := by
  unfold stN
  rw [if_neg (by omega)]
  simp
theorem itN_high (h : Nat) : itN (16 * h) 4 = h := by
  have : 16 * h = 2 * (2 * (2 * (2 * h))) := by omega
  simp only [itN, this, stN_even]
theorem parts (c : Nat) : (16 * (c / 16)) ^^^ (c % 16) = c := by
  have e : 16 * (c / 16) = (c / 2 ^ 4) <<< 4 := by rw [Nat.shiftLeft_eq]; omega
  rw [e, show c % 16 = c % 2 ^ 4 from rfl]
  refine Nat.eq_of_testBit_eq fun i => ?_
  rw [Nat.testBit_xor, Nat.testBit_shiftLeft, Nat.testBit_div_two_pow, Nat.testBit_mod_two_pow]
  by_cases h : i < 4
  · have : ¬ 4 ≤ i := by omega
    simp [h, this]
  · have h4 : 4 ≤ i := by omega
    simp [h, h4]
theorem nibble (c : Nat) : itN c 4 = (c / 16) ^^^ itN (c % 16) 4 := by
  have h := itN_xor (16 * (c / 16)) (c % 16) 4
  rw [parts, itN_high] at h
  exact h
theorem itN_add (n a : Nat) : ∀ b, itN n (a + b) = itN (itN n a) b
  | 0 => rfl
  | b + 1 => by rw [← Nat.add_assoc, itN, itN, itN_add n a b]
theorem bits_xor_nat (k : IntKind) (j : Nat) (hj : j ≤ k.bits) (hk : ∀ n : Int, 0 ≤ n → n < 2 ^ j → k.wrap n = n) (a b : Nat) (ha : a < 2 ^ j) (hb : b < 2 ^ j) :
    Go.bits .xor k a b = ((a ^^^ b : Nat) : Int) := by
  have hp : 2 ^ j ≤ 2 ^ k.bits := Nat.pow_le_pow_right (by decide) hj
  have ha' : a % 2 ^ k.bits = a := Nat.mod_eq_of_lt (Nat.lt_of_lt_of_le ha hp)
  have hb' : b % 2 ^ k.bits = b := Nat.mod_eq_of_lt (Nat.lt_of_lt_of_le hb hp)
  have cast : ∀ n : Nat, n < 2 ^ j → ((n : Nat) : Int) < 2 ^ j := fun n h => by exact_mod_cast h
  simp only [Go.bits, BitVec.ofInt_natCast, BitVec.toNat_xor, BitVec.toNat_ofNat, ha', hb']
  exact hk _ (Int.natCast_nonneg _) (cast _ (Nat.xor_lt_two_pow ha hb))
theorem wr_u32 (n : Int) (h0 : 0 ≤ n) (h1 : n < 2 ^ 32) : IntKind.u32.wrap n = n := by rw [IntKind.wrap_u32]; omega
theorem wr_i64 (n : Int) (h0 : 0 ≤ n) (h1 : n < 2 ^ 32) : IntKind.i64.wrap n = n := by rw [IntKind.wrap_i64]; omega
theorem xor32 (a b : Nat) (ha : a < 2 ^ 32) (hb : b < 2 ^ 32) : Go.bits .xor .u32 a b = ((a ^^^ b : Nat) : Int) := bits_xor_nat .u32 32 (by decide) wr_u32 a b ha hb
theorem xor64 (a b : Nat) (ha : a < 2 ^ 32) (hb : b < 2 ^ 32) : Go.bits .xor .i64 a b = ((a ^^^ b : Nat) : Int) := bits_xor_nat .i64 32 (by decide) wr_i64 a b ha hb
theorem and32 (a b : Nat) (ha : a < 2 ^ 32) (hb : b < 2 ^ 32) : Go.bits .and .u32 a b = ((a &&& b : Nat) : Int) := (bits_nat .u32 32 (by decide) wr_u32 a b ha hb).1
theorem crcStep_nat (n : Nat) (h : n < 2 ^ 32) : crcStep (n : Int) = (stN n : Nat) := by
  unfold crcStep stN
  have e1 : Go.bits .and .u32 (n : Int) 1 = ((n % 2 : Nat) : Int) := by
    have := and32 n 1 h (by decide)
    rw [Nat.and_one_is_mod] at this
    exact this
  have e2 : (n : Int) / 2 = ((n / 2 : Nat) : Int) := by omega
  rw [e1, e2]
  have h1 : n % 2 = 0 ∨ n % 2 = 1 := by omega
  rcases h1 with h1 | h1
  · rw [h1, if_neg (by decide), show IntKind.u32.wrap (((0 : Nat) : Int) * 3988292384) = ((0 : Nat) : Int) by decide]
    exact xor32 _ _ (by omega) (by decide)
  · rw [h1, if_pos rfl, show IntKind.u32.wrap (((1 : Nat) : Int) * 3988292384) = ((3988292384 : Nat) : Int) by decide]
    exact xor32 _ _ (by omega) (by decide)
theorem crcIt_nat (n : Nat) (h : n < 2 ^ 32) (m : Nat) : crcIt (n : Int) m = (itN n m : Nat) := by
  induction m with
  | zero => rfl
  | succ m ih => rw [crcIt, ih, crcStep_nat _ (itN_lt n h m), itN]
theorem half_nat (c : Nat) (h : c < 2 ^ 32) : Go.bits .xor .u32 ((c : Int) / 16) (crcIt (Go.bits .and .u32 (c : Int) 15) 4) = (itN c 4 : Nat) := by
  have e1 : Go.bits .and .u32 (c : Int) 15 = ((c % 16 : Nat) : Int) := by
    have := and32 c 15 h (by decide)
    rw [show (15 : Nat) = 2 ^ 4 - 1 from rfl, Nat.and_two_pow_sub_one_eq_mod] at this
    exact this
  have e2 : (c : Int) / 16 = ((c / 16 : Nat) : Int) := by omega
  rw [e1, e2, crcIt_nat _ (by omega), nibble c]
  exact xor32 _ _ (by omega) (itN_lt _ (by omega) _)
theorem crcByte_nat (c b : Nat) (h : c < 2 ^ 32) (hb : b < 256) : crcByte (c : Int) (b : Int) = (itN (c ^^^ b) 8 : Nat) := by
  unfold crcByte
  have hx : c ^^^ b < 2 ^ 32 := Nat.xor_lt_two_pow h (by omega)
  dsimp only
  rw [show (b : Int) % 4294967296 = (b : Int) by omega, xor32 c b h (by omega), half_nat _ hx, half_nat _ (itN_lt _ hx 4), ← itN_add]
def crcN (l : List Int) (c : Nat) : Nat := l.foldl (fun c b => itN (c ^^^ b.toNat) 8) c
theorem crcN_lt (l : List Int) : ∀ (c : Nat), c < 2 ^ 32 → IsBytes l → crcN l c < 2 ^ 32 := by
  induction l with
  | nil => intro c h _; exact h
  | cons x l ih =>
    intro c h hl
    have hx := hl x (List.mem_cons_self ..)
    exact ih _ (itN_lt _ (Nat.xor_lt_two_pow h (by omega)) 8) (fun y hy => hl y (List.mem_cons_of_mem _ hy))
theorem crcFold_nat (l : List Int) : ∀ (c : Nat), c < 2 ^ 32 → IsBytes l → l.foldl crcByte (c : Int) = (crcN l c : Nat) := by
  induction l with
  | nil => intro c h _; rfl
  | cons x l ih =>
    intro c h hl
    have hx := hl x (List.mem_cons_self ..)
    have hx2 : c ^^^ x.toNat < 2 ^ 32 := Nat.xor_lt_two_pow h (by omega)
    simp only [List.foldl_cons, crcN]
    rw [show crcByte (c : Int) x = ((itN (c ^^^ x.toNat) 8 : Nat) : Int) by rw [← crcByte_nat c x.toNat h (by omega), show ((x.toNat : Nat) : Int) = x by omega]]
    exact ih _ (itN_lt _ hx2 8) (fun y hy => hl y (List.mem_cons_of_mem _ hy))
/-- the sum of bytes -/
def crcOf (l : List Int) : Int := if l.length > 65536 then -1 else ((crcN l 4294967295 ^^^ 4294967295 : Nat) : Int)
theorem impl_Crc_f (l : List Int) (hl : IsBytes l) : impl_Crc.f l = some (crcOf l) := by
  unfold impl_Crc.f crcOf
  by_cases h : l.length > 65536
  · rw [if_pos (by omega), if_pos h]
  · rw [if_neg (by omega), if_neg h]
    have h1 := crcFold_nat l 4294967295 (by decide) hl
    have h2 := crcN_lt l 4294967295 (by decide) hl
    rw [show (4294967295 : Int) = ((4294967295 : Nat) : Int) from rfl, h1, show IntKind.u32.max = ((4294967295 : Nat) : Int) from by decide, xor32 _ _ (by decide) h2, Nat.xor_comm]
    have h3 : crcN l 4294967295 ^^^ 4294967295 < 2 ^ 32 := Nat.xor_lt_two_pow h2 (by decide)
    rw [w64 (by omega) (by omega)]
theorem spec_Crc_l1 (l : List Int) (r : Int) (i : Nat) (hi : i < 65536) (d : Nat) : ∀ (n j : Nat), n < 2 ^ 32 → j + d = 8 → Ev (fun k => spec_Crc.l0 k l (itN n d : Nat) ((i + 1 : Nat) : Int)) r → Ev (fun k => spec_Crc.l1 k l (n : Nat) (i : Int) (j : Int)) r := by
  induction d with
  | zero =>
    intro n j hn hj h
    refine Ev.step (fun k => ?_) h
    simp only [spec_Crc.l1]
    rw [if_neg (by omega), w64 (by omega) (by omega)]
    rfl
  | succ d ih =>
    intro n j hn hj h
    have e1 : Int.tmod (n : Int) 2 = ((n % 2 : Nat) : Int) := by rw [Int.tmod_eq_emod_of_nonneg (by omega)]; omega
    have e2 : wrap64 (Int.tdiv (n : Int) 2) = ((n / 2 : Nat) : Int) := by rw [Int.tdiv_eq_ediv_of_nonneg (by omega), w64 (by omega) (by omega)]; omega
    have e3 : wrap64 ((j : Int) + 1) = ((j + 1 : Nat) : Int) := by rw [w64 (by omega) (by omega)]; omega
    have e4 : itN n (d + 1) = itN (stN n) d := by
      rw [Nat.add_comm, itN_add n 1 d]
      rfl
    rw [e4] at h
    have h' := ih (stN n) (j + 1) (stN_lt n hn) (by omega) h
    refine Ev.step (fun k => ?_) h'
    simp only [spec_Crc.l1]
    rw [if_pos (by omega), e1, e2, e3]
    by_cases hp : n % 2 = 1
    · rw [if_pos (by omega)]
      congr 1
      have := xor64 (n / 2) 3988292384 (by omega) (by decide)
      rw [stN, if_pos hp]
      exact this
    · rw [if_neg (by omega), stN, if_neg hp, Nat.xor_zero]
theorem spec_Crc_l0 (l : List Int) (hl : IsBytes l) (hs : l.length ≤ 65536) (d : Nat) : ∀ (i n : Nat), n < 2 ^ 32 → i + d = l.length → Ev (fun k => spec_Crc.l0 k l (n : Nat) (i : Int)) ((crcN (l.drop i) n ^^^ 4294967295 : Nat) : Int) := by
  induction d with
  | zero =>
    intro i n hn hi
    refine Ev.step (f := fun _ => some ((crcN (l.drop i) n ^^^ 4294967295 : Nat) : Int)) (fun k => ?_) (Ev.now _)
    simp only [spec_Crc.l0]
    rw [if_neg (by omega), List.drop_eq_nil_of_le (by omega)]
    congr 1
    exact xor64 n 4294967295 hn (by decide)
  | succ d ih =>
    intro i n hn hi
    have hr : rd l (i : Int) = l[i]'(by omega) := rd_nat l i (by omega)
    have hb := hl (l[i]'(by omega)) (List.getElem_mem _)
    have hx : n ^^^ (l[i]'(by omega)).toNat < 2 ^ 32 := Nat.xor_lt_two_pow hn (by omega)
    have h := ih (i + 1) (itN (n ^^^ (l[i]'(by omega)).toNat) 8) (itN_lt _ hx 8) (by omega)
    have h2 := spec_Crc_l1 l _ i (by omega) 8 (n ^^^ (l[i]'(by omega)).toNat) 0 hx (by omega) h
    have e : crcN (l.drop i) n = crcN (l.drop (i + 1)) (itN (n ^^^ (l[i]'(by omega)).toNat) 8) := by
      rw [List.drop_eq_getElem_cons (by omega)]
      rfl
    rw [e]
    refine Ev.step (fun k => ?_) h2
    simp only [spec_Crc.l0]
    rw [if_pos (by omega), if_pos (by omega), hr, w64 (by omega) (by omega)]
    congr 1
    have := xor64 n (l[i]'(by omega)).toNat hn (by omega)
    rw [show (((l[i]'(by omega)).toNat : Nat) : Int) = l[i]'(by omega) by omega] at this
    exact this
theorem spec_Crc_f (l : List Int) (hl : IsBytes l) : Ev (fun k => spec_Crc.f k l) (crcOf l) := by
  unfold spec_Crc.f crcOf
  by_cases h : l.length > 65536
  · rw [if_pos h]
    exact ev_pos (by omega) (Ev.now _)
  · rw [if_neg h]
    refine ev_neg (by omega) ?_
    have := spec_Crc_l0 l hl (by omega) l.length 0 4294967295 (by decide) (by omega)
    exact this
theorem crcOf_range (l : List Int) (hl : IsBytes l) (h : l.length ≤ 65536) : 0 ≤ crcOf l ∧ crcOf l < 4294967296 := by
  unfold crcOf
  rw [if_neg (by omega)]
  have h3 : crcN l 4294967295 ^^^ 4294967295 < 2 ^ 32 := Nat.xor_lt_two_pow (crcN_lt l _ (by decide) hl) (by decide)
  omega

theorem pn_bytes (n size : Int) : IsBytes (pn n size) := by
  unfold pn
  split
  · exact le_bytes _ _
  · exact isBytes_nil
def frameHead (kind : Int) (body : List Int) : List Int := [kind % 256] ++ pn body.length 2 ++ body
def FrOk (kind : Int) (body : List Int) : Prop := (1 ≤ kind ∧ kind ≤ 255) ∧ body.length ≤ 1000
instance (kind : Int) (body : List Int) : Decidable (FrOk kind body) := by unfold FrOk; infer_instance
/-- a frame -/
def frameOf (kind : Int) (body : List Int) : List Int := if FrOk kind body then frameHead kind body ++ pn (crcOf (frameHead kind body)) 4 else []
theorem frameHead_bytes (kind : Int) (body : List Int) (hb : IsBytes body) : IsBytes (frameHead kind body) :=
  isBytes_append (isBytes_append (isBytes_one (by omega)) (pn_bytes _ _)) hb
theorem frameHead_length (kind : Int) (body : List Int) : (frameHead kind body).length ≤ body.length + 9 := by
  have := pn_length body.length 2
  simp [frameHead]
  omega
theorem frameOf_length (kind : Int) (body : List Int) : (frameOf kind body).length ≤ 1100 := by
  unfold frameOf
  split
  · rename_i h
    have h1 := frameHead_length kind body
    have h2 := pn_length (crcOf (frameHead kind body)) 4
    have := h.2
    rw [List.length_append]
    omega
  · simp
theorem frameOf_bytes (kind : Int) (body : List Int) (hb : IsBytes body) : IsBytes (frameOf kind body) := by
  unfold frameOf
  split
  · exact isBytes_append (frameHead_bytes _ _ hb) (pn_bytes _ _)
  · exact isBytes_nil
theorem crc_head (kind : Int) (body : List Int) (hb : IsBytes body) (h : body.length ≤ 1000) : crcOf (frameHead kind body) ≤ 9223372036854775807 := by
  have h1 := frameHead_length kind body
  have := crcOf_range (frameHead kind body) (frameHead_bytes _ _ hb) (by omega)
  omega
theorem spec_Frame_f (kind : Int) (body : List Int) (hb : IsBytes body) (hn : body.length ≤ 1048576) : Ev (fun k => spec_Frame.f k kind body) (frameOf kind body) := by
  unfold spec_Frame.f
  by_cases c1 : kind < 1
  · refine ev_pos c1 (Ev.step (f := fun _ => some []) (fun k => by simp only [spec_Frame.j0, if_true]) ?_)
    rw [frameOf, if_neg (fun h => by have := h.1; omega)]
    exact Ev.now _
  refine ev_neg c1 ?_
  by_cases c2 : kind > 255
  · refine ev_pos c2 (Ev.step (f := fun _ => some []) (fun k => by simp only [spec_Frame.j0, if_true]) ?_)
    rw [frameOf, if_neg (fun h => by have := h.1; omega)]
    exact Ev.now _
  refine ev_neg c2 ?_
  by_cases c3 : (body.length : Int) > 1000
  · refine Ev.step (f := fun _ => some []) (fun k => by simp only [spec_Frame.j0]; rw [if_pos (decide_eq_true c3)]) ?_
    rw [frameOf, if_neg (fun h => by have := h.2; omega)]
    exact Ev.now _
  have hlen : body.length ≤ 1000 := by omega
  have p1 := pn_length (body.length : Int) 2
  have h1 := frameHead_length kind body
  have p2 := pn_length (crcOf (frameHead kind body)) 4
  rw [frameOf, if_pos ⟨⟨by omega, by omega⟩, hlen⟩]
  refine Ev.step (fun k => by simp only [spec_Frame.j0]; rw [if_neg (by simpa using c3)]) ?_
  refine ev_pos (by simp) (ev_bind0 rfl ?_)
  refine Ev.bind (spec_PutNum_f _ 2 (by omega)) (ev_pos (by simp; omega) (ev_bind0 rfl (ev_pos (by simp; omega) (ev_bind0 rfl ?_))))
  refine Ev.bind (spec_Crc_f _ (frameHead_bytes kind body hb)) ?_
  refine Ev.bind (spec_PutNum_f _ 4 (crc_head kind body hb hlen)) ?_
  refine ev_pos (Nat.lt_of_le_of_lt (Nat.add_le_add_left (pn_length _ 4) _) (by simp only [frameHead, List.length_append, List.length_cons, List.length_nil] at h1 ⊢; omega)) (Ev.now _)
theorem impl_Frame_f (kind : Int) (body : List Int) (hb : IsBytes body) (hn : body.length ≤ 1048576) : Ev (fun k => impl_Frame.f k kind body) (frameOf kind body) := by
  unfold impl_Frame.f
  refine ev_bind0 (impl_within_f _ _ _) ?_
  by_cases c1 : 1 ≤ kind ∧ kind ≤ 255
  · refine ev_pos (decide_eq_true c1) ?_
    by_cases c3 : (body.length : Int) > 1000
    · refine Ev.step (f := fun _ => some []) (fun k => by simp only [impl_Frame.j0]; rw [if_pos (decide_eq_true c3)]) ?_
      rw [frameOf, if_neg (fun h => by have := h.2; omega)]
      exact Ev.now _
    have hlen : body.length ≤ 1000 := by omega
    have p1 := pn_length (body.length : Int) 2
    have h1 := frameHead_length kind body
    have p2 := pn_length (crcOf (frameHead kind body)) 4
    rw [frameOf, if_pos ⟨c1, hlen⟩]
    refine Ev.step (fun k => by simp only [impl_Frame.j0]; rw [if_neg (by simpa using c3)]) ?_
    refine ev_bind0 rfl ?_
    refine Ev.bind (impl_PutNum_f _ 2 (by omega)) (ev_pos (by simp; omega) (ev_bind0 rfl (ev_pos (by simp; omega) (ev_bind0 rfl ?_))))
    refine ev_bind0 (impl_Crc_f _ (frameHead_bytes kind body hb)) ?_
    refine Ev.bind (impl_PutNum_f _ 4 (crc_head kind body hb hlen)) ?_
    refine ev_pos (Nat.lt_of_le_of_lt (Nat.add_le_add_left (pn_length _ 4) _) (by simp only [frameHead, List.length_append, List.length_cons, List.length_nil] at h1 ⊢; omega)) (Ev.now _)
  · refine ev_neg (by simpa using c1) (Ev.step (f := fun _ => some []) (fun k => by simp only [impl_Frame.j0, if_true]) ?_)
    rw [frameOf, if_neg (fun h => c1 h.1)]
    exact Ev.now _

def recOk (kd lsn xid pg sl : Int) (d : List Int) : Bool :=
  decide (1 ≤ lsn ∧ lsn ≤ 1000000) && (if kd = 1 then decide (0 ≤ pg ∧ pg ≤ 15) && (decide (d.length = 256) && (decide (xid = 0) && decide (sl = 0)))
    else if kd = 2 then decide (0 ≤ pg ∧ pg ≤ 15) && (decide (0 ≤ sl ∧ sl ≤ 15) && (decide (1 ≤ xid ∧ xid ≤ 400) && decide (1 ≤ d.length ∧ d.length ≤ 92)))
    else if kd = 3 then decide (0 ≤ pg ∧ pg ≤ 15) && (decide (0 ≤ sl ∧ sl ≤ 15) && (decide (1 ≤ xid ∧ xid ≤ 400) && decide (d.length = 0)))
    else if kd = 4 then decide (0 ≤ pg ∧ pg ≤ 15) && (decide (0 ≤ sl ∧ sl ≤ 15) && (decide (xid = 0) && decide (d.length = 0)))
    else if kd = 5 then decide (1 ≤ xid ∧ xid ≤ 400) && (decide (pg = 0) && (decide (sl = 0) && decide (d.length = 0))) else false)
theorem len_eq (d : List Int) (n : Nat) : ((d.length : Int) = (n : Int)) ↔ d.length = n := by omega
theorem beq_dec (a b : Int) : (a == b) = decide (a = b) := by
  by_cases h : a = b <;> simp [h]
theorem spec_RecordOk_f (kd lsn xid pg sl : Int) (d : List Int) : spec_RecordOk.f kd lsn xid pg sl d = some (recOk kd lsn xid pg sl d) := by
  unfold spec_RecordOk.f recOk
  simp only [spec_l5in_f, Option.bind_some, decide_eq_true_eq, beq_dec]
  have e0 : ∀ n : Nat, ((d.length : Int) = n) = (d.length = n) := fun n => propext (len_eq d n)
  have e256 : ((d.length : Int) = 256) = (d.length = 256) := e0 256
  have ez : ((d.length : Int) = 0) = (d.length = 0) := e0 0
  have e1 : ((d.length : Int) ≥ 1) = (1 ≤ d.length) := propext (by omega)
  have e92 : ((d.length : Int) ≤ 92) = (d.length ≤ 92) := propext (by omega)
  simp only [e256, ez, e1, e92]
  by_cases h0 : 1 ≤ lsn ∧ lsn ≤ 1000000
  · rw [if_pos h0, decide_eq_true h0, Bool.true_and]
    by_cases k1 : kd = 1
    · rw [if_pos k1, if_pos k1]
      by_cases a : 0 ≤ pg ∧ pg ≤ 15 <;> by_cases b : d.length = 256 <;> by_cases c : xid = 0 <;> simp [a, b, c]
    rw [if_neg k1, if_neg k1]
    by_cases k2 : kd = 2
    · rw [if_pos k2, if_pos k2]
      by_cases a : 0 ≤ pg ∧ pg ≤ 15 <;> by_cases b : 0 ≤ sl ∧ sl ≤ 15 <;> by_cases c : 1 ≤ xid ∧ xid ≤ 400 <;> by_cases e : 1 ≤ d.length <;> simp [a, b, c, e]
    rw [if_neg k2, if_neg k2]
    by_cases k3 : kd = 3
    · rw [if_pos k3, if_pos k3]
      by_cases a : 0 ≤ pg ∧ pg ≤ 15 <;> by_cases b : 0 ≤ sl ∧ sl ≤ 15 <;> by_cases c : 1 ≤ xid ∧ xid ≤ 400 <;> simp [a, b, c]
    rw [if_neg k3, if_neg k3]
    by_cases k4 : kd = 4
    · rw [if_pos k4, if_pos k4]
      by_cases a : 0 ≤ pg ∧ pg ≤ 15 <;> by_cases b : 0 ≤ sl ∧ sl ≤ 15 <;> by_cases c : xid = 0 <;> simp [a, b, c]
    rw [if_neg k4, if_neg k4]
    by_cases k5 : kd = 5
    · rw [if_pos k5, if_pos k5]
      by_cases a : 1 ≤ xid ∧ xid ≤ 400 <;> by_cases b : pg = 0 <;> by_cases c : sl = 0 <;> simp [a, b, c]
    rw [if_neg k5, if_neg k5]
  · rw [if_neg h0, decide_eq_false h0, Bool.false_and]
theorem impl_isXid_f (n : Int) : impl_isXid.f n = some (decide (1 ≤ n ∧ n ≤ 400)) := by unfold impl_isXid.f; rw [impl_within_f]; rfl
theorem impl_isLsn_f (n : Int) : impl_isLsn.f n = some (decide (1 ≤ n ∧ n ≤ 1000000)) := by unfold impl_isLsn.f; rw [impl_within_f]; rfl
theorem impl_isPage_f (n : Int) : impl_isPage.f n = some (decide (0 ≤ n ∧ n ≤ 15)) := by unfold impl_isPage.f; rw [impl_within_f]; rfl
theorem impl_isSlot_f (n : Int) : impl_isSlot.f n = some (decide (0 ≤ n ∧ n ≤ 15)) := by unfold impl_isSlot.f; rw [impl_within_f]; rfl
theorem impl_RecordOk_f (kd lsn xid pg sl : Int) (d : List Int) : Ev (fun k => impl_RecordOk.f k kd lsn xid pg sl d) (recOk kd lsn xid pg sl d) := by
  have e0 : ∀ n : Nat, ((d.length : Int) = n) = (d.length = n) := fun n => propext (len_eq d n)
  have e256 : ((d.length : Int) = 256) = (d.length = 256) := e0 256
  have ez : ((d.length : Int) = 0) = (d.length = 0) := e0 0
  have e1 : (1 ≤ (d.length : Int) ∧ (d.length : Int) ≤ 92) = (1 ≤ d.length ∧ d.length ≤ 92) := propext (by omega)
  unfold impl_RecordOk.f recOk
  refine ev_bind0 (impl_isLsn_f _) ?_
  by_cases h0 : 1 ≤ lsn ∧ lsn ≤ 1000000
  · refine ev_pos (decide_eq_true h0) (ev_bind0 (impl_isPage_f _) ?_)
    rw [decide_eq_true h0, Bool.true_and]
    have key : ∀ b : Bool, b = (decide (0 ≤ pg ∧ pg ≤ 15) && decide (0 ≤ sl ∧ sl ≤ 15)) → Ev (fun k => impl_RecordOk.j0 k (d.length : Int) b kd lsn xid pg sl d) (if kd = 1 then decide (0 ≤ pg ∧ pg ≤ 15) && (decide (d.length = 256) && (decide (xid = 0) && decide (sl = 0)))
    else if kd = 2 then decide (0 ≤ pg ∧ pg ≤ 15) && (decide (0 ≤ sl ∧ sl ≤ 15) && (decide (1 ≤ xid ∧ xid ≤ 400) && decide (1 ≤ d.length ∧ d.length ≤ 92)))
    else if kd = 3 then decide (0 ≤ pg ∧ pg ≤ 15) && (decide (0 ≤ sl ∧ sl ≤ 15) && (decide (1 ≤ xid ∧ xid ≤ 400) && decide (d.length = 0)))
    else if kd = 4 then decide (0 ≤ pg ∧ pg ≤ 15) && (decide (0 ≤ sl ∧ sl ≤ 15) && (decide (xid = 0) && decide (d.length = 0)))
    else if kd = 5 then decide (1 ≤ xid ∧ xid ≤ 400) && (decide (pg = 0) && (decide (sl = 0) && decide (d.length = 0))) else false) := by
      intro b hb
      refine Ev.step (f := fun _ => some (if kd = 1 then decide (0 ≤ pg ∧ pg ≤ 15) && (decide (d.length = 256) && (decide (xid = 0) && decide (sl = 0)))
    else if kd = 2 then decide (0 ≤ pg ∧ pg ≤ 15) && (decide (0 ≤ sl ∧ sl ≤ 15) && (decide (1 ≤ xid ∧ xid ≤ 400) && decide (1 ≤ d.length ∧ d.length ≤ 92)))
    else if kd = 3 then decide (0 ≤ pg ∧ pg ≤ 15) && (decide (0 ≤ sl ∧ sl ≤ 15) && (decide (1 ≤ xid ∧ xid ≤ 400) && decide (d.length = 0)))
    else if kd = 4 then decide (0 ≤ pg ∧ pg ≤ 15) && (decide (0 ≤ sl ∧ sl ≤ 15) && (decide (xid = 0) && decide (d.length = 0)))
    else if kd = 5 then decide (1 ≤ xid ∧ xid ≤ 400) && (decide (pg = 0) && (decide (sl = 0) && decide (d.length = 0))) else false)) (fun k => ?_) (Ev.now _)
      rw [impl_RecordOk.j0, hb]
      simp only [impl_isPage_f, impl_isXid_f, impl_within_f, Option.bind_some, decide_eq_true_eq, beq_dec, e256, ez, e1, Bool.and_eq_true]
      by_cases k1 : kd = 1
      · rw [if_pos k1, if_pos k1]
        by_cases a : 0 ≤ pg ∧ pg ≤ 15 <;> by_cases b : d.length = 256 <;> by_cases c : xid = 0 <;> simp [a, b, c]
      rw [if_neg k1, if_neg k1]
      by_cases k2 : kd = 2
      · rw [if_pos k2, if_pos k2]
        by_cases a : 0 ≤ pg ∧ pg ≤ 15 <;> by_cases b : 0 ≤ sl ∧ sl ≤ 15 <;> by_cases c : 1 ≤ xid ∧ xid ≤ 400 <;> by_cases e : 1 ≤ d.length <;> simp [a, b, c, e]
      rw [if_neg k2, if_neg k2]
      by_cases k3 : kd = 3
      · rw [if_pos k3, if_pos k3]
        by_cases a : 0 ≤ pg ∧ pg ≤ 15 <;> by_cases b : 0 ≤ sl ∧ sl ≤ 15 <;> by_cases c : 1 ≤ xid ∧ xid ≤ 400 <;> simp [a, b, c]
      rw [if_neg k3, if_neg k3]
      by_cases k4 : kd = 4
      · rw [if_pos k4, if_pos k4]
        by_cases a : 0 ≤ pg ∧ pg ≤ 15 <;> by_cases b : 0 ≤ sl ∧ sl ≤ 15 <;> by_cases c : xid = 0 <;> simp [a, b, c]
      rw [if_neg k4, if_neg k4]
      by_cases k5 : kd = 5
      · rw [if_pos k5, if_pos k5]
        by_cases a : 1 ≤ xid ∧ xid ≤ 400 <;> by_cases b : pg = 0 <;> by_cases c : sl = 0 <;> simp [a, b, c]
      rw [if_neg k5, if_neg k5]
    by_cases h1 : 0 ≤ pg ∧ pg ≤ 15
    · refine ev_pos (decide_eq_true h1) (ev_bind0 (impl_isSlot_f _) ?_)
      exact key _ (by rw [decide_eq_true h1, Bool.true_and])
    · refine ev_neg (fun h => h1 (of_decide_eq_true h)) ?_
      exact key _ (by rw [decide_eq_false h1, Bool.false_and])
  · rw [decide_eq_false h0, Bool.false_and]
    exact ev_neg (by simp) (Ev.now _)

theorem toByteS_l (l : List Int) (hn : l.length ≤ 1048576) (d : Nat) : ∀ (i : Nat) (y : List Int), i + d = l.length → y.length = l.length → (∀ j, j < i → y[j]? = l[j]?) → Ev (fun k => laws_toByteS.l0 k l y (i : Int)) l := by
  induction d with
  | zero =>
    intro i y hi hy hj
    refine Ev.step (f := fun _ => some l) (fun k => ?_) (Ev.now _)
    simp only [laws_toByteS.l0]
    rw [if_neg (by omega)]
    congr 1
    refine List.ext_getElem? fun j => ?_
    by_cases h : j < i
    · exact hj j h
    · rw [List.getElem?_eq_none (by omega), List.getElem?_eq_none (by omega)]
  | succ d ih =>
    intro i y hi hy hj
    refine Ev.step (f := fun k => laws_toByteS.l0 k l (y.set i (rd l i)) ((i + 1 : Nat) : Int)) (fun k => ?_) (ih (i + 1) _ (by omega) (by simp [hy]) ?_)
    · simp only [laws_toByteS.l0]
      rw [if_pos (by omega), if_pos (by omega), if_pos (by omega), w64 (by omega) (by omega)]
      simp
    · intro j hlt
      by_cases h : j = i
      · subst h
        rw [List.getElem?_set_self (by omega), rd_nat l j (by omega), List.getElem?_eq_getElem (by omega)]
      · rw [List.getElem?_set_ne (by omega)]
        exact hj j (by omega)
theorem toByteS_f (l : List Int) (hn : l.length ≤ 1048576) : Ev (fun k => laws_toByteS.f k l) l := by
  unfold laws_toByteS.f
  refine ev_pos (by omega) (ev_pos (by omega) ?_)
  exact toByteS_l l hn l.length 0 _ (by omega) (by simp) (by intro j h; omega)

theorem eqByteS_l (a b : List Int) (hn : a.length ≤ 1048576) (hab : a.length = b.length) (d : Nat) : ∀ (i : Nat), i + d = a.length → (∀ j, j < i → a[j]? = b[j]?) → Ev (fun k => laws_eqByteS.l0 k a b (i : Int)) (decide (a = b)) := by
  induction d with
  | zero =>
    intro i hi hj
    refine Ev.step (f := fun _ => some true) (fun k => ?_) ?_
    · simp only [laws_eqByteS.l0]
      rw [if_neg (by omega)]
    · have : a = b := by
        refine List.ext_getElem? fun j => ?_
        by_cases h : j < i
        · exact hj j h
        · rw [List.getElem?_eq_none (by omega), List.getElem?_eq_none (by omega)]
      rw [decide_eq_true this]
      exact Ev.now _
  | succ d ih =>
    intro i hi hj
    have ha : rd a (i : Int) = a[i]'(by omega) := rd_nat a i (by omega)
    have hb : rd b (i : Int) = b[i]'(by omega) := rd_nat b i (by omega)
    by_cases he : rd a (i : Int) = rd b (i : Int)
    · refine Ev.step (f := fun k => laws_eqByteS.l0 k a b ((i + 1 : Nat) : Int)) (fun k => ?_) (ih (i + 1) (by omega) ?_)
      · simp only [laws_eqByteS.l0]
        rw [if_pos (by omega), if_pos (by omega), if_pos (by omega), if_pos he, w64 (by omega) (by omega)]
        simp
      · intro j hlt
        by_cases h : j = i
        · subst h
          rw [List.getElem?_eq_getElem (by omega), List.getElem?_eq_getElem (by omega), ← ha, ← hb, he]
        · exact hj j (by omega)
    · refine Ev.step (f := fun _ => some false) (fun k => ?_) ?_
      · simp only [laws_eqByteS.l0]
        rw [if_pos (by omega), if_pos (by omega), if_pos (by omega), if_neg he]
      · have : ¬ a = b := by
          rintro rfl
          exact he rfl
        rw [decide_eq_false this]
        exact Ev.now _
theorem eqByteS_f (a b : List Int) (hn : a.length ≤ 1048576) : Ev (fun k => laws_eqByteS.f k a b) (decide (a = b)) := by
  unfold laws_eqByteS.f
  by_cases h : a.length = b.length
  · refine ev_pos (by omega) ?_
    exact eqByteS_l a b hn h a.length 0 (by omega) (by intro j h; omega)
  · refine ev_neg (by omega) ?_
    rw [decide_eq_false (by rintro rfl; exact h rfl)]
    exact Ev.now _
theorem eqByteS_same (a : List Int) (hn : a.length ≤ 1048576) : Ev (fun k => laws_eqByteS.f k a a) true := by
  have := eqByteS_f a a hn
  rwa [decide_eq_true rfl] at this

theorem markByteS_l (a : List Int) (hn : a.length ≤ 1048576) (m0 : Int) (h0 : 0 ≤ m0) (h1 : m0 ≤ 1000000000000) (d : Nat) : ∀ (i : Nat) (y : List Int), i + d = a.length → y.length = a.length → (∀ j, j < i → y[j]? = (marksB m0 a.length)[j]?) → Ev (fun k => laws_markByteS.l0 k y (m0 + i) (i : Int)) (m0 + a.length, marksB m0 a.length) := by
  have hml := marksB_length a.length m0
  induction d with
  | zero =>
    intro i y hi hy hj
    refine Ev.step (f := fun _ => some (m0 + a.length, marksB m0 a.length)) (fun k => ?_) (Ev.now _)
    simp only [laws_markByteS.l0]
    rw [if_neg (by omega)]
    have hy2 : y = marksB m0 a.length := by
      refine List.ext_getElem? fun j => ?_
      by_cases h : j < i
      · exact hj j h
      · rw [List.getElem?_eq_none (by omega), List.getElem?_eq_none (by omega)]
    rw [hy2, show (i : Int) = a.length by omega]
  | succ d ih =>
    intro i y hi hy hj
    refine Ev.step (f := fun k => laws_markByteS.l0 k (y.set i ((m0+i)%256)) (m0 + (i + 1 : Nat)) ((i + 1 : Nat) : Int)) (fun k => ?_) (ih (i + 1) _ (by omega) (by simp [hy]) ?_)
    · simp only [laws_markByteS.l0]
      rw [if_pos (by omega), if_pos (by omega), w64 (by omega) (by omega), w64 (by omega) (by omega)]
      simp [Int.add_assoc]
    · intro j hlt
      by_cases h : j = i
      · subst h
        rw [List.getElem?_set_self (by omega), List.getElem?_eq_getElem (by omega), marksB_get]
      · rw [List.getElem?_set_ne (by omega)]
        exact hj j (by omega)
theorem markByteS_f (a : List Int) (hn : a.length ≤ 1048576) (m : Int) (h0 : 0 ≤ m) (h1 : m ≤ 1000000000000) : Ev (fun k => laws_markByteS.f k a m) (m + a.length, marksB m a.length) := by
  unfold laws_markByteS.f
  have := markByteS_l a hn m h0 h1 a.length 0 a (by omega) rfl (by intro j h; omega)
  simpa using this

theorem heldByteS_l (n : Nat) (hn : n ≤ 1048576) (m0 : Int) (h0 : 0 ≤ m0) (h1 : m0 ≤ 1000000000000) (d : Nat) : ∀ (i : Nat), i + d = n → Ev (fun k => laws_heldByteS.l0 k (marksB m0 n) (m0 + i) (i : Int)) (m0 + n) := by
  have hml := marksB_length n m0
  induction d with
  | zero =>
    intro i hi
    refine Ev.step (f := fun _ => some (m0 + n)) (fun k => ?_) (Ev.now _)
    simp only [laws_heldByteS.l0]
    rw [if_neg (by omega), show (i : Int) = n by omega]
  | succ d ih =>
    intro i hi
    refine Ev.step (f := fun k => laws_heldByteS.l0 k (marksB m0 n) (m0 + (i + 1 : Nat)) ((i + 1 : Nat) : Int)) (fun k => ?_) (ih (i + 1) (by omega))
    simp only [laws_heldByteS.l0]
    rw [if_pos (by omega), if_pos (by omega), if_pos (by rw [rd_nat _ i (by omega), marksB_get]), w64 (by omega) (by omega), w64 (by omega) (by omega)]
    simp [Int.add_assoc]
theorem heldByteS_f (n : Nat) (hn : n ≤ 1048576) (m : Int) (h0 : 0 ≤ m) (h1 : m ≤ 1000000000000) : Ev (fun k => laws_heldByteS.f k (marksB m n) m) (m + n) := by
  unfold laws_heldByteS.f
  have := heldByteS_l n hn m h0 h1 n 0 (by omega)
  simpa using this

theorem szByte_f (l : List Int) (left : Int) (h0 : 0 ≤ left) (h1 : left ≤ 1048576) (hl : l.length ≤ 9223372036854775807) : laws_szByteS.f l left = some (if left < l.length then -1 else left - l.length) := by
  unfold laws_szByteS.f
  rw [w64 (by omega) (by omega)]
  by_cases h : left < l.length
  · rw [if_pos (by omega), if_pos h]
  · rw [if_neg (by omega), if_neg h]

/-- the law's element as the program's -/
def cvRecord (x : S34) : S37 := ⟨(x).f0, (x).f1, (x).f2, (x).f3, (x).f4, (x).f5⟩
theorem rdA_Record (l : List S34) (i : Nat) (h : i < l.length) : rd_T34 l (i : Int) = l[i] := by
  simp [rd_T34, List.getD_eq_getElem?_getD, List.getElem?_eq_getElem h]
theorem rdB_Record (l : List S37) (i : Nat) (h : i < l.length) : rd_T37 l (i : Int) = l[i] := by
  simp [rd_T37, List.getD_eq_getElem?_getD, List.getElem?_eq_getElem h]
/-- how many bytes the elements have together -/
def sumRecord : List S34 → Nat
  | [] => 0
  | x :: l => ((x).f5).length + sumRecord l
theorem sumRecord_drop (l : List S34) (i : Nat) (h : i < l.length) : sumRecord (l.drop i) = ((l[i]).f5).length + sumRecord (l.drop (i + 1)) := by
  rw [List.drop_eq_getElem_cons h]
  rfl
theorem sumRecord_mem {l : List S34} {x : S34} (h : x ∈ l) : ((x).f5).length ≤ sumRecord l := by
  induction l with
  | nil => cases h
  | cons y l ih =>
    simp only [sumRecord]
    rcases List.mem_cons.1 h with rfl | h
    · omega
    · have := ih h; omega
theorem szRecord_f (x : S34) (left : Int) (h0 : 0 ≤ left) (h1 : left ≤ 1048576) (hl : ((x).f5).length ≤ 9223372036854775807) : laws_szRecord.f (x).f0 (x).f1 (x).f2 (x).f3 (x).f4 (x).f5 left = some (if left < ((x).f5).length then -1 else left - ((x).f5).length) := by
  unfold laws_szRecord.f
  rw [szByte_f _ left h0 h1 hl]
  by_cases h : left < ((x).f5).length
  · rw [if_pos h]; rfl
  · rw [if_neg h, Option.bind_some, if_neg (by omega)]
theorem szRecordS_l (l : List S34) (hx : ∀ x ∈ l, ((x).f5).length ≤ 9223372036854775807) (hn : l.length ≤ 1048576) (d : Nat) : ∀ (i : Nat) (left : Int), i + d = l.length → 0 ≤ left → left ≤ 1048576 →
    Ev (fun k => laws_szRecordS.l0 k l left (i : Int)) (if left < sumRecord (l.drop i) then -1 else left - sumRecord (l.drop i)) := by
  induction d with
  | zero =>
    intro i left hi h0 h1
    refine Ev.step (f := fun _ => some left) (fun k => ?_) ?_
    · simp only [laws_szRecordS.l0]
      rw [if_neg (by omega)]
    · have e : sumRecord (l.drop i) = 0 := by
        rw [List.drop_eq_nil_of_le (by omega)]
        rfl
      have hz : (if left < sumRecord (l.drop i) then (-1 : Int) else left - sumRecord (l.drop i)) = left := by
        rw [if_neg (by omega)]
        omega
      rw [hz]
      exact Ev.now _
  | succ d ih =>
    intro i left hi h0 h1
    have hr := rdA_Record l i (by omega)
    have hl := hx (l[i]'(by omega)) (List.getElem_mem _)
    have hs := szRecord_f (l[i]'(by omega)) left h0 h1 hl
    have hd := sumRecord_drop l i (by omega)
    generalize hm : ((l[i]'(by omega)).f5).length = m at hs hd
    by_cases h : left < (m : Int)
    · rw [if_pos h] at hs
      refine Ev.step (f := fun _ => some (-1)) (fun k => ?_) ?_
      · simp only [laws_szRecordS.l0]
        rw [if_pos (by omega), if_pos (by omega), hr, hs]
        simp
      · rw [if_pos (by omega)]
        exact Ev.now _
    · rw [if_neg h] at hs
      have h2 := ih (i + 1) (left - m) (by omega) (by omega) (by omega)
      have e : (if left < sumRecord (l.drop i) then (-1 : Int) else left - sumRecord (l.drop i)) = (if left - m < sumRecord (l.drop (i + 1)) then -1 else left - m - sumRecord (l.drop (i + 1))) := by
        rw [hd]
        by_cases hc : left < ((m + sumRecord (l.drop (i + 1)) : Nat) : Int)
        · rw [if_pos hc, if_pos (by omega)]
        · rw [if_neg hc, if_neg (by omega)]; omega
      rw [e]
      refine Ev.step (fun k => ?_) h2
      simp only [laws_szRecordS.l0]
      rw [if_pos (by omega), if_pos (by omega), hr, hs]
      simp only [Option.bind_some]
      rw [if_neg (by omega), w64 (by omega) (by omega)]
      rfl
theorem szRecordS_f (l : List S34) (hl : l.length ≤ 9223372036854775807) (hx : ∀ x ∈ l, ((x).f5).length ≤ 9223372036854775807) (left : Int) (h0 : 0 ≤ left) (h1 : left ≤ 1048576) :
    Ev (fun k => laws_szRecordS.f k l left) (if left < (l.length : Int) + sumRecord l then -1 else left - ((l.length : Int) + sumRecord l)) := by
  unfold laws_szRecordS.f
  rw [w64 (by omega) (by omega)]
  by_cases h : left - l.length < 0
  · rw [if_pos (by omega)]
    exact ev_pos h (Ev.now _)
  · have h2 := szRecordS_l l hx (by omega) l.length 0 (left - l.length) (by omega) (by omega) (by omega)
    rw [List.drop_zero] at h2
    have e : (if left < (l.length : Int) + sumRecord l then (-1 : Int) else left - ((l.length : Int) + sumRecord l)) = (if left - l.length < sumRecord l then -1 else left - l.length - sumRecord l) := by
      by_cases hc : left < (l.length : Int) + sumRecord l
      · rw [if_pos hc, if_pos (by omega)]
      · rw [if_neg hc, if_neg (by omega)]; omega
    rw [e]
    exact ev_neg h h2
theorem toRecord_f (x : S34) (h : ((x).f5).length ≤ 1048576) : Ev (fun k => laws_toRecord.f k (x).f0 (x).f1 (x).f2 (x).f3 (x).f4 (x).f5) ((x).f0, (x).f1, (x).f2, (x).f3, (x).f4, (x).f5) := by
  unfold laws_toRecord.f
  exact Ev.bind (toByteS_f _ h) (Ev.now _)
theorem toRecordS_l (l : List S34) (hn : l.length ≤ 1048576) (hx : ∀ x ∈ l, ((x).f5).length ≤ 1048576) (d : Nat) : ∀ (i : Nat) (y : List S37), i + d = l.length → y.length = l.length → (∀ j, j < i → y[j]? = (l.map cvRecord)[j]?) → Ev (fun k => laws_toRecordS.l0 k l y (i : Int)) (l.map cvRecord) := by
  induction d with
  | zero =>
    intro i y hi hy hj
    refine Ev.step (f := fun _ => some (l.map cvRecord)) (fun k => ?_) (Ev.now _)
    simp only [laws_toRecordS.l0]
    rw [if_neg (by omega)]
    congr 1
    refine List.ext_getElem? fun j => ?_
    by_cases h : j < i
    · exact hj j h
    · rw [List.getElem?_eq_none (by omega), List.getElem?_eq_none (by rw [List.length_map]; omega)]
  | succ d ih =>
    intro i y hi hy hj
    have hr := rdA_Record l i (by omega)
    have ht := toRecord_f (l[i]'(by omega)) (hx _ (List.getElem_mem _))
    have h2 := ih (i + 1) (y.set i (cvRecord (l[i]'(by omega)))) (by omega) (by simp [hy]) (by
      intro j hlt
      by_cases h : j = i
      · subst h
        rw [List.getElem?_set_self (by omega), List.getElem?_map, List.getElem?_eq_getElem (by omega)]
        rfl
      · rw [List.getElem?_set_ne (by omega)]
        exact hj j (by omega))
    refine Ev.step (fun k => by rw [laws_toRecordS.l0, if_pos (by omega), if_pos (by omega), hr]) (Ev.bind ht ?_)
    refine ev_pos (by omega) ?_
    rw [w64 (by omega) (by omega), Int.toNat_natCast]
    exact h2
theorem toRecordS_f (l : List S34) (hn : l.length ≤ 1048576) (hx : ∀ x ∈ l, ((x).f5).length ≤ 1048576) : Ev (fun k => laws_toRecordS.f k l) (l.map cvRecord) := by
  unfold laws_toRecordS.f
  refine ev_pos (by omega) (ev_pos (by omega) ?_)
  exact toRecordS_l l hn hx l.length 0 _ (by omega) (by simp) (by intro j h; omega)
theorem eqRecord_same (x : S37) (h : ((x).f5).length ≤ 1048576) : Ev (fun k => laws_eqRecord.f k (x).f0 (x).f1 (x).f2 (x).f3 (x).f4 (x).f5 (x).f0 (x).f1 (x).f2 (x).f3 (x).f4 (x).f5) true := by
  unfold laws_eqRecord.f
  repeat refine ev_pos rfl ?_
  refine Ev.bind (eqByteS_same _ h) ?_
  exact ev_pos rfl (Ev.now _)
theorem eqRecordS_l (l : List S37) (hn : l.length ≤ 1048576) (hx : ∀ x ∈ l, ((x).f5).length ≤ 1048576) (d : Nat) : ∀ (i : Nat), i + d = l.length → Ev (fun k => laws_eqRecordS.l0 k l l (i : Int)) true := by
  induction d with
  | zero =>
    intro i hi
    refine Ev.step (fun k => by rw [laws_eqRecordS.l0, if_neg (by omega)]) (Ev.now _)
  | succ d ih =>
    intro i hi
    have hr := rdB_Record l i (by omega)
    have ht := eqRecord_same (l[i]'(by omega)) (hx _ (List.getElem_mem _))
    refine Ev.step (fun k => by rw [laws_eqRecordS.l0, if_pos (by omega), if_pos (by omega), if_pos (by omega), hr]) (Ev.bind ht (ev_pos rfl ?_))
    rw [w64 (by omega) (by omega)]
    exact ih (i + 1) (by omega)
theorem eqRecordS_same (l : List S37) (hn : l.length ≤ 1048576) (hx : ∀ x ∈ l, ((x).f5).length ≤ 1048576) : Ev (fun k => laws_eqRecordS.f k l l) true := by
  unfold laws_eqRecordS.f
  exact ev_pos rfl (eqRecordS_l l hn hx l.length 0 (by omega))

def sumLen : List (List Int) → Nat
  | [] => 0
  | x :: l => x.length + sumLen l
theorem rdl_nat (l : List (List Int)) (i : Nat) (h : i < l.length) : rd_L2 l (i : Int) = l[i] := by
  simp [rd_L2, List.getD_eq_getElem?_getD, List.getElem?_eq_getElem h]
theorem sumLen_drop (l : List (List Int)) (i : Nat) (h : i < l.length) : sumLen (l.drop i) = (l[i]).length + sumLen (l.drop (i + 1)) := by
  rw [List.drop_eq_getElem_cons h]
  rfl
theorem sumLen_mem {l : List (List Int)} {x : List Int} (h : x ∈ l) : x.length ≤ sumLen l := by
  induction l with
  | nil => cases h
  | cons y l ih =>
    simp only [sumLen]
    rcases List.mem_cons.1 h with rfl | h
    · omega
    · have := ih h; omega

theorem recOk_len (kd lsn xid pg sl : Int) (d : List Int) (h : recOk kd lsn xid pg sl d = true) : d.length ≤ 256 := by
  unfold recOk at h
  split at h
  · simp only [Bool.and_eq_true, decide_eq_true_eq] at h
    omega
  · split at h
    · simp only [Bool.and_eq_true, decide_eq_true_eq] at h
      omega
    · split at h
      · simp only [Bool.and_eq_true, decide_eq_true_eq] at h
        omega
      · split at h
        · simp only [Bool.and_eq_true, decide_eq_true_eq] at h
          omega
        · split at h
          · simp only [Bool.and_eq_true, decide_eq_true_eq] at h
            omega
          · simp at h
/-- a record's bytes -/
def recBytes (kd lsn xid pg sl : Int) (d : List Int) : List Int := if recOk kd lsn xid pg sl d then frameOf kd (((pn lsn 4 ++ pn xid 4) ++ pn pg 2) ++ pn sl 2 ++ d) else []
theorem recBytes_length (kd lsn xid pg sl : Int) (d : List Int) : (recBytes kd lsn xid pg sl d).length ≤ 1100 := by
  unfold recBytes
  split
  · exact frameOf_length _ _
  · exact Nat.zero_le _
theorem recBody_bytes (lsn xid pg sl : Int) (d : List Int) (hb : IsBytes d) : IsBytes (((pn lsn 4 ++ pn xid 4) ++ pn pg 2) ++ pn sl 2 ++ d) := by
  intro x hx
  rcases List.mem_append.1 hx with hx | hx
  · rcases List.mem_append.1 hx with hx | hx
    · rcases List.mem_append.1 hx with hx | hx
      · rcases List.mem_append.1 hx with hx | hx
        · exact pn_bytes _ _ x hx
        · exact pn_bytes _ _ x hx
      · exact pn_bytes _ _ x hx
    · exact pn_bytes _ _ x hx
  · exact hb x hx
theorem spec_RecordBytes_f (kd lsn xid pg sl : Int) (d : List Int) (hb : IsBytes d) (hn : d.length ≤ 1048576) (h1 : lsn ≤ 9223372036854775807) (h2 : xid ≤ 9223372036854775807) (h3 : pg ≤ 9223372036854775807) (h4 : sl ≤ 9223372036854775807) : Ev (fun k => spec_RecordBytes.f k kd lsn xid pg sl d) (recBytes kd lsn xid pg sl d) := by
  have l1 := pn_length lsn 4
  have l2 := pn_length xid 4
  have l3 := pn_length pg 2
  have l4 := pn_length sl 2
  unfold spec_RecordBytes.f recBytes
  refine ev_bind0 (spec_RecordOk_f kd lsn xid pg sl d) ?_
  cases hr : recOk kd lsn xid pg sl d with
  | false => exact ev_neg (by simp) (Ev.now _)
  | true =>
    have hd := recOk_len kd lsn xid pg sl d hr
    refine ev_pos rfl ?_
    refine Ev.bind (spec_PutNum_f lsn 4 h1) ?_
    refine Ev.bind (spec_PutNum_f xid 4 h2) ?_
    refine ev_pos (by omega) ?_
    refine ev_bind0 rfl ?_
    refine Ev.bind (spec_PutNum_f pg 2 h3) ?_
    refine ev_pos (by simp only [List.length_append]; omega) ?_
    refine ev_bind0 rfl ?_
    refine Ev.bind (spec_PutNum_f sl 2 h4) ?_
    refine ev_pos (by simp only [List.length_append]; omega) ?_
    refine ev_bind0 rfl ?_
    refine ev_pos (by simp only [List.length_append]; omega) ?_
    refine Ev.bind (spec_Frame_f kd _ (recBody_bytes lsn xid pg sl d hb) (by simp only [List.length_append]; omega)) ?_
    exact Ev.now _
theorem take_flat (l : List (List Int)) (i : Nat) (h : i < l.length) : (l.take (i + 1)).flatten = (l.take i).flatten ++ l[i] := by
  rw [List.take_succ_eq_append_getElem h, List.flatten_append]
  simp
theorem flat_le (l : List (List Int)) (i : Nat) : (l.take i).flatten.length ≤ l.flatten.length := by
  have : l.flatten = (l.take i).flatten ++ (l.drop i).flatten := by rw [← List.flatten_append, List.take_append_drop]
  rw [this, List.length_append]
  omega
theorem concat_l1 (l : List (List Int)) (hl : l.length ≤ 1048576) (ht : l.flatten.length ≤ 35184372088832) (d : Nat) : ∀ (i : Nat), i + d = l.length → Ev (fun k => slices_Concat_byte_byte.l1 k (l.take i).flatten l (l.length : Int) (i : Int)) l.flatten := by
  induction d with
  | zero =>
    intro i hi
    refine Ev.step (f := fun _ => some l.flatten) (fun k => ?_) (Ev.now _)
    rw [slices_Concat_byte_byte.l1, if_neg (by omega), List.take_of_length_le (by omega)]
  | succ d ih =>
    intro i hi
    have hx : rd_L2 l (i : Int) = l[i] := rdl_nat l i (by omega)
    have h1 := take_flat l i (by omega)
    have h2 := flat_le l (i + 1)
    rw [h1, List.length_append] at h2
    refine Ev.step (f := fun k => slices_Concat_byte_byte.l1 k (l.take (i + 1)).flatten l (l.length : Int) ((i + 1 : Nat) : Int)) (fun k => ?_) (ih (i + 1) (by omega))
    rw [slices_Concat_byte_byte.l1, if_pos (by omega), if_pos (by omega), if_pos (by omega), hx, if_pos (by omega), w64 (by omega) (by omega), h1]
    simp
theorem concat_l0 (l : List (List Int)) (hl : l.length ≤ 1048576) (ht : l.flatten.length ≤ 35184372088832) (d : Nat) : ∀ (i : Nat), i + d = l.length → Ev (fun k => slices_Concat_byte_byte.l0 k l ((l.take i).flatten.length : Int) l (l.length : Int) (i : Int)) l.flatten := by
  induction d with
  | zero =>
    intro i hi
    refine Ev.step (f := fun k => (slices_Grow_byte_byte.f ((l.take i).flatten.length : Int)).bind fun t => slices_Concat_byte_byte.l1 k t l (l.length : Int) 0) (fun k => ?_) ?_
    · rw [slices_Concat_byte_byte.l0, if_neg (by omega)]
    · have h2 := flat_le l i
      refine ev_bind0 (a := ([] : List Int)) (by unfold slices_Grow_byte_byte.f; rw [if_pos (by omega)]) ?_
      exact concat_l1 l hl ht l.length 0 (by omega)
  | succ d ih =>
    intro i hi
    have hx : rd_L2 l (i : Int) = l[i] := rdl_nat l i (by omega)
    have h1 := take_flat l i (by omega)
    have h2 := flat_le l (i + 1)
    have h3 : (l.take (i + 1)).flatten.length = (l.take i).flatten.length + l[i].length := by rw [h1, List.length_append]
    refine Ev.step (f := fun k => slices_Concat_byte_byte.l0 k l ((l.take (i + 1)).flatten.length : Int) l (l.length : Int) ((i + 1 : Nat) : Int)) (fun k => ?_) (ih (i + 1) (by omega))
    rw [slices_Concat_byte_byte.l0, if_pos (by omega), if_pos (by omega), if_pos (by omega), hx, w64 (by omega) (by omega), if_neg (by omega), w64 (by omega) (by omega), h3]
    simp
theorem concat_f (l : List (List Int)) (hl : l.length ≤ 1048576) (ht : l.flatten.length ≤ 35184372088832) : Ev (fun k => slices_Concat_byte_byte.f k l) l.flatten := concat_l0 l hl ht l.length 0 (by omega)
theorem impl_RecordBytes_f (kd lsn xid pg sl : Int) (d : List Int) (hb : IsBytes d) (hn : d.length ≤ 1048576) (h1 : lsn ≤ 9223372036854775807) (h2 : xid ≤ 9223372036854775807) (h3 : pg ≤ 9223372036854775807) (h4 : sl ≤ 9223372036854775807) : Ev (fun k => impl_RecordBytes.f k kd lsn xid pg sl d) (recBytes kd lsn xid pg sl d) := by
  have l1 := pn_length lsn 4
  have l2 := pn_length xid 4
  have l3 := pn_length pg 2
  have l4 := pn_length sl 2
  unfold impl_RecordBytes.f recBytes
  refine Ev.bind (impl_RecordOk_f kd lsn xid pg sl d) ?_
  cases hr : recOk kd lsn xid pg sl d with
  | false => exact ev_neg (by simp) (Ev.now _)
  | true =>
    have hd := recOk_len kd lsn xid pg sl d hr
    refine ev_pos rfl ?_
    refine Ev.bind (impl_PutNum_f lsn 4 h1) ?_
    refine Ev.bind (impl_PutNum_f xid 4 h2) ?_
    refine Ev.bind (impl_PutNum_f pg 2 h3) ?_
    refine Ev.bind (impl_PutNum_f sl 2 h4) ?_
    have e : ([pn lsn 4, pn xid 4, pn pg 2, pn sl 2, d] : List (List Int)).flatten = ((pn lsn 4 ++ pn xid 4) ++ pn pg 2) ++ pn sl 2 ++ d := by simp
    refine Ev.bind (concat_f [pn lsn 4, pn xid 4, pn pg 2, pn sl 2, d] (by simp) (by rw [e]; simp only [List.length_append]; omega)) ?_
    rw [e]
    refine Ev.bind (impl_Frame_f kd _ (recBody_bytes lsn xid pg sl d hb) (by simp only [List.length_append]; omega)) ?_
    exact Ev.now _

/-- rows of Record marked one behind the other -/
def marksRecord (m : Int) : List S37 → List S37
  | [] => []
  | x :: l => ⟨m, m + 1, m + 1 + 1, m + 1 + 1 + 1, m + 1 + 1 + 1 + 1, marksB (m + 1 + 1 + 1 + 1 + 1) (x.f5).length⟩ :: marksRecord (m + 5 + (x.f5).length) l
def sumB_Record : List S37 → Nat
  | [] => 0
  | x :: l => (x.f5).length + sumB_Record l
theorem sumB_Record_le (l : List S37) (n b : Nat) (hn : l.length ≤ n) (hx : ∀ x ∈ l, (x.f5).length ≤ b) : sumB_Record l ≤ n * b := by
  induction l generalizing n with
  | nil => simp [sumB_Record]
  | cons x l ih =>
    obtain ⟨n, rfl⟩ : ∃ q, n = q + 1 := ⟨n - 1, by simp at hn; omega⟩
    have h1 := ih n (by simp at hn; omega) (fun y hy => hx y (List.mem_cons_of_mem _ hy))
    have h2 := hx x (List.mem_cons_self ..)
    simp only [sumB_Record, Nat.add_mul, Nat.one_mul]
    omega
theorem markRecord_go (rest : List S37) : ∀ (pre : List S37) (m : Int), 0 ≤ m → m + 5 * rest.length + sumB_Record rest ≤ 1000000000000 → (∀ x ∈ rest, (x.f5).length ≤ 1048576) →
    Ev (fun k => laws_markRecordS.go k rest.length pre.length (pre ++ rest) m) (m + 5 * rest.length + sumB_Record rest, pre ++ marksRecord m rest) := by
  induction rest with
  | nil =>
    intro pre m h0 h1 hx
    refine Ev.congr (f := fun _ => some (m, pre ++ [])) (fun k => rfl) ?_
    rw [show (m : Int) + 5 * (([] : List S37).length : Nat) + (sumB_Record ([] : List S37) : Nat) = m by simp [sumB_Record]]
    exact Ev.now _
  | cons x rest ih =>
    intro pre m h0 h1 hx
    have hs : sumB_Record (x :: rest) = (x.f5).length + sumB_Record rest := rfl
    rw [hs, List.length_cons] at h1
    have hxl := hx x (List.mem_cons_self ..)
    have h2 := ih (pre ++ [(⟨m, m + 1, m + 1 + 1, m + 1 + 1 + 1, m + 1 + 1 + 1 + 1, marksB (m + 1 + 1 + 1 + 1 + 1) (x.f5).length⟩ : S37)]) (m + 5 + (x.f5).length) (by omega) (by push_cast at h1 ⊢; omega) (fun y hy => hx y (List.mem_cons_of_mem _ hy))
    have hg : (pre ++ x :: rest).getD pre.length z37 = x := by simp [List.getD_eq_getElem?_getD]
    refine Ev.congr (fun k => by rw [List.length_cons, laws_markRecordS.go, hg]) (ev_pos (c := 0 ≤ m ∧ m ≤ 1000000000000) ⟨h0, by push_cast at h1; omega⟩ (Ev.bind (markByteS_f x.f5 hxl (m + 1 + 1 + 1 + 1 + 1) (by omega) (by push_cast at h1; omega)) ?_))
    dsimp only
    have hset : (pre ++ x :: rest).set pre.length (⟨m, m + 1, m + 1 + 1, m + 1 + 1 + 1, m + 1 + 1 + 1 + 1, marksB (m + 1 + 1 + 1 + 1 + 1) (x.f5).length⟩ : S37) = (pre ++ [(⟨m, m + 1, m + 1 + 1, m + 1 + 1 + 1, m + 1 + 1 + 1 + 1, marksB (m + 1 + 1 + 1 + 1 + 1) (x.f5).length⟩ : S37)]) ++ rest := by simp
    rw [hset, show pre.length + 1 = (pre ++ [(⟨m, m + 1, m + 1 + 1, m + 1 + 1 + 1, m + 1 + 1 + 1 + 1, marksB (m + 1 + 1 + 1 + 1 + 1) (x.f5).length⟩ : S37)]).length by simp, show (m : Int) + 5 * ((x :: rest).length : Nat) + ((sumB_Record (x :: rest) : Nat) : Int) = m + 5 + (x.f5).length + 5 * rest.length + sumB_Record rest by rw [hs, List.length_cons]; push_cast; omega,
      show pre ++ marksRecord m (x :: rest) = (pre ++ [(⟨m, m + 1, m + 1 + 1, m + 1 + 1 + 1, m + 1 + 1 + 1 + 1, marksB (m + 1 + 1 + 1 + 1 + 1) (x.f5).length⟩ : S37)]) ++ marksRecord (m + 5 + (x.f5).length) rest by simp [marksRecord], show m + 1 + 1 + 1 + 1 + 1 + ((x.f5).length : Int) = m + 5 + (x.f5).length by omega]
    exact h2
theorem markRecordS_f (l : List S37) (hn : l.length ≤ 1048576) (hx : ∀ x ∈ l, (x.f5).length ≤ 1048576) (m : Int) (h0 : 0 ≤ m) (h1 : m + 5 * l.length + sumB_Record l ≤ 1000000000000) : Ev (fun k => laws_markRecordS.f k l m) (m + 5 * l.length + sumB_Record l, marksRecord m l) := by
  unfold laws_markRecordS.f
  refine ev_pos hn ?_
  exact markRecord_go l [] m h0 h1 hx

theorem recOk_kind (kd lsn xid pg sl : Int) (d : List Int) (h : recOk kd lsn xid pg sl d = true) : 1 ≤ kd ∧ kd ≤ 5 := by
  unfold recOk at h
  split at h
  · omega
  · split at h
    · omega
    · split at h
      · omega
      · split at h
        · omega
        · split at h
          · omega
          · simp at h
/-- an element's bytes -/
def recB (x : S37) : List Int := recBytes x.f0 x.f1 x.f2 x.f3 x.f4 x.f5
def recK (x : S37) : Bool := recOk x.f0 x.f1 x.f2 x.f3 x.f4 x.f5
theorem recB_no (x : S37) (h : recK x = false) : (recB x).length = 0 := by
  unfold recB recBytes
  rw [if_neg (by unfold recK at h; rw [h]; simp)]
  rfl
theorem recB_yes (x : S37) (h : recK x = true) : 0 < (recB x).length := by
  unfold recB recBytes
  unfold recK at h
  have h1 := recOk_kind _ _ _ _ _ _ h
  have h2 := recOk_len _ _ _ _ _ _ h
  have l1 := pn_length x.f1 4
  have l2 := pn_length x.f2 4
  have l3 := pn_length x.f3 2
  have l4 := pn_length x.f4 2
  rw [if_pos h]
  unfold frameOf
  rw [if_pos ⟨⟨h1.1, by omega⟩, by simp only [List.length_append]; omega⟩]
  simp [frameHead]
/-- a log's bytes -/
def logOf : List S37 → List Int → List Int × Bool
  | [], acc => (acc, true)
  | x :: l, acc => if recK x = true ∧ acc.length + (recB x).length ≤ 65536 then logOf l (acc ++ recB x) else ([], false)
theorem logOf_length (l : List S37) : ∀ acc : List Int, acc.length ≤ 65536 → (logOf l acc).1.length ≤ 65536 := by
  induction l with
  | nil => intro acc h; exact h
  | cons x l ih =>
    intro acc h
    unfold logOf
    split
    · rename_i h2
      exact ih _ (by rw [List.length_append]; exact h2.2)
    · exact Nat.zero_le _
/-- what is asked of an element -/
def GoodR (x : S37) : Prop := IsBytes x.f5 ∧ x.f5.length ≤ 1048576 ∧ x.f1 ≤ 9223372036854775807 ∧ x.f2 ≤ 9223372036854775807 ∧ x.f3 ≤ 9223372036854775807 ∧ x.f4 ≤ 9223372036854775807
theorem spec_log_l (l : List S37) (hn : l.length ≤ 1048576) (hg : ∀ x ∈ l, GoodR x) (d : Nat) : ∀ (i : Nat) (acc : List Int), i + d = l.length → acc.length ≤ 65536 → Ev (fun k => spec_LogBytes.l0 k l acc (i : Int)) (logOf (l.drop i) acc) := by
  induction d with
  | zero =>
    intro i acc hi ha
    rw [List.drop_eq_nil_of_le (by omega)]
    refine Ev.step (f := fun _ => some (acc, true)) (fun k => ?_) (Ev.now _)
    rw [spec_LogBytes.l0, if_neg (by omega)]
  | succ d ih =>
    intro i acc hi ha
    have hx : rd_T37 l (i : Int) = l[i] := rdB_Record l i (by omega)
    obtain ⟨g1, g2, g3, g4, g5, g6⟩ := hg l[i] (List.getElem_mem _)
    rw [List.drop_eq_getElem_cons (by omega)]
    have sp := spec_RecordBytes_f l[i].f0 l[i].f1 l[i].f2 l[i].f3 l[i].f4 l[i].f5 g1 g2 g3 g4 g5 g6
    have hs := recBytes_length l[i].f0 l[i].f1 l[i].f2 l[i].f3 l[i].f4 l[i].f5
    have hno := recB_no l[i]
    have hye := recB_yes l[i]
    change Ev _ (recB l[i]) at sp
    change (recB l[i]).length ≤ 1100 at hs
    refine Ev.step (fun k => by rw [spec_LogBytes.l0, if_pos (by omega), if_pos (by omega), hx]) ?_
    refine Ev.bind sp ?_
    have hw : wrap64 (65536 - (acc.length : Int)) = 65536 - (acc.length : Int) := by unfold wrap64; omega
    by_cases hk : recK l[i] = true
    · have := hye hk
      refine ev_neg (by omega) ?_
      by_cases hb : acc.length + (recB l[i]).length ≤ 65536
      · rw [show logOf (l[i] :: l.drop (i + 1)) acc = logOf (l.drop (i + 1)) (acc ++ recB l[i]) from if_pos ⟨hk, hb⟩]
        refine ev_neg (by rw [hw]; omega) ?_
        refine ev_pos (by omega) ?_
        have := ih (i + 1) (acc ++ recB l[i]) (by omega) (by rw [List.length_append]; exact hb)
        rw [show wrap64 ((i : Int) + 1) = ((i + 1 : Nat) : Int) by unfold wrap64; omega]
        exact this
      · rw [show logOf (l[i] :: l.drop (i + 1)) acc = ([], false) from if_neg (fun h => hb h.2)]
        exact ev_pos (by rw [hw]; omega) (Ev.now _)
    · rw [show logOf (l[i] :: l.drop (i + 1)) acc = ([], false) from if_neg (fun h => hk h.1)]
      have := hno (Bool.eq_false_iff.2 hk)
      exact ev_pos (by omega) (Ev.now _)
theorem spec_LogBytes_f (l : List S37) (hn : l.length ≤ 1048576) (hg : ∀ x ∈ l, GoodR x) : Ev (fun k => spec_LogBytes.f k l) (logOf l []) := spec_log_l l hn hg l.length 0 [] (by omega) (by simp)
theorem impl_log_l (l : List S37) (hn : l.length ≤ 1048576) (hg : ∀ x ∈ l, GoodR x) (d : Nat) : ∀ (i : Nat) (acc : List Int), i + d = l.length → acc.length ≤ 65536 → Ev (fun k => impl_LogBytes.l0 k acc l (l.length : Int) (i : Int)) (logOf (l.drop i) acc) := by
  induction d with
  | zero =>
    intro i acc hi ha
    rw [List.drop_eq_nil_of_le (by omega)]
    refine Ev.step (f := fun _ => some (acc, true)) (fun k => ?_) (Ev.now _)
    rw [impl_LogBytes.l0, if_neg (by omega)]
  | succ d ih =>
    intro i acc hi ha
    have hx : rd_T37 l (i : Int) = l[i] := rdB_Record l i (by omega)
    obtain ⟨g1, g2, g3, g4, g5, g6⟩ := hg l[i] (List.getElem_mem _)
    rw [List.drop_eq_getElem_cons (by omega)]
    have im := impl_RecordBytes_f l[i].f0 l[i].f1 l[i].f2 l[i].f3 l[i].f4 l[i].f5 g1 g2 g3 g4 g5 g6
    have ok := impl_RecordOk_f l[i].f0 l[i].f1 l[i].f2 l[i].f3 l[i].f4 l[i].f5
    have hs := recBytes_length l[i].f0 l[i].f1 l[i].f2 l[i].f3 l[i].f4 l[i].f5
    change Ev _ (recB l[i]) at im
    change Ev _ (recK l[i]) at ok
    change (recB l[i]).length ≤ 1100 at hs
    refine Ev.step (fun k => by rw [impl_LogBytes.l0, if_pos (by omega), if_pos (by omega), if_pos (by omega), hx]) ?_
    refine Ev.bind ok ?_
    by_cases hk : recK l[i] = true
    · refine ev_pos hk ?_
      refine Ev.bind im ?_
      refine ev_pos (by omega) ?_
      refine ev_bind0 rfl ?_
      by_cases hb : acc.length + (recB l[i]).length ≤ 65536
      · rw [show logOf (l[i] :: l.drop (i + 1)) acc = logOf (l.drop (i + 1)) (acc ++ recB l[i]) from if_pos ⟨hk, hb⟩]
        refine ev_neg (by rw [List.length_append]; omega) ?_
        have := ih (i + 1) (acc ++ recB l[i]) (by omega) (by rw [List.length_append]; exact hb)
        rw [show wrap64 ((i : Int) + 1) = ((i + 1 : Nat) : Int) by unfold wrap64; omega]
        exact this
      · rw [show logOf (l[i] :: l.drop (i + 1)) acc = ([], false) from if_neg (fun h => hb h.2)]
        exact ev_pos (by rw [List.length_append]; omega) (Ev.now _)
    · rw [show logOf (l[i] :: l.drop (i + 1)) acc = ([], false) from if_neg (fun h => hk h.1)]
      exact ev_neg hk (Ev.now _)
theorem impl_LogBytes_f (l : List S37) (hn : l.length ≤ 1048576) (hg : ∀ x ∈ l, GoodR x) : Ev (fun k => impl_LogBytes.f k l) (logOf l []) := impl_log_l l hn hg l.length 0 [] (by omega) (by simp)
theorem sumB_cvR (ws : List S34) : sumB_Record (ws.map cvRecord) = sumRecord ws := by
  induction ws with
  | nil => rfl
  | cons x l ih =>
    show (cvRecord x).f5.length + sumB_Record (l.map cvRecord) = x.f5.length + sumRecord l
    rw [ih]
    rfl

/-- The pure statement. -/
def Stmt : Prop := ∀ (l0 : List (S34)), ((fun xs => xs.length ≤ 9223372036854775807 ∧ ∀ x ∈ xs, (fun x => (fun v => (fun n => (Lit.int .i64 n).wf = true) v.1 ∧ (fun v => (fun n => (Lit.int .i64 n).wf = true) v.1 ∧ (fun v => (fun n => (Lit.int .i64 n).wf = true) v.1 ∧ (fun v => (fun n => (Lit.int .i64 n).wf = true) v.1 ∧ (fun v => (fun n => (Lit.int .i64 n).wf = true) v.1 ∧ (fun xs => xs.length ≤ 9223372036854775807 ∧ ∀ x ∈ xs, (fun n => (Lit.int .u8 n).wf = true) x) v.2) v.2) v.2) v.2) v.2) (x.f0, x.f1, x.f2, x.f3, x.f4, x.f5)) x) l0) → laws_FnExactLogBytes.H l0
theorem main : Stmt := by
  intro ws ⟨hl2, hw2⟩
  unfold laws_FnExactLogBytes.H
  have hx2 : ∀ x ∈ ws, x.f5.length ≤ 9223372036854775807 := fun x h => (hw2 x h).2.2.2.2.2.1
  obtain ⟨k1, h1⟩ := Ev.rounds (szRecordS_f ws hl2 hx2 1048576 (by omega) (by omega))
  refine ⟨k1, _, h1, ?_⟩
  by_cases h : (1048576 : Int) < ws.length + sumRecord ws
  · rw [if_pos h]
    exact Or.inl (by omega)
  rw [if_neg h]
  refine Or.inr ⟨by omega, ?_⟩
  have hn2 : ws.length ≤ 1048576 := by omega
  have hy2 : ∀ x ∈ ws, x.f5.length ≤ 1048576 := fun x hxl => by have := sumRecord_mem hxl; omega
  have hm : (ws.map cvRecord).length ≤ 1048576 := by rw [List.length_map]; exact hn2
  have hi : ∀ n : Int, (Lit.int .i64 n).wf = true → n ≤ 9223372036854775807 := fun n h => (show -9223372036854775808 ≤ n ∧ n ≤ 9223372036854775807 by simpa [Lit.wf, IntKind.min, IntKind.max, IntKind.signed, IntKind.bits] using h).2
  have hg : ∀ x ∈ ws.map cvRecord, GoodR x := by
    intro x hx
    obtain ⟨y, hy, rfl⟩ := List.mem_map.1 hx
    obtain ⟨_, w1, w2, w3, w4, _, w5⟩ := hw2 y hy
    exact ⟨isBytes_of w5, hy2 y hy, hi _ w1, hi _ w2, hi _ w3, hi _ w4⟩
  have hm2 : ∀ x ∈ ws.map cvRecord, x.f5.length ≤ 1048576 := fun x hx => (hg x hx).2.1
  have sp := spec_LogBytes_f _ hm hg
  have im := impl_LogBytes_f _ hm hg
  have hr := logOf_length (ws.map cvRecord) [] (by simp)
  generalize logOf (ws.map cvRecord) [] = r at sp im hr
  obtain ⟨r1, r2⟩ := r
  dsimp only at hr
  obtain ⟨k2, h2⟩ := Ev.rounds (toRecordS_f ws hn2 hy2)
  obtain ⟨k3, h3⟩ := Ev.rounds sp
  obtain ⟨k4, h4⟩ := Ev.rounds im
  obtain ⟨k5, h5⟩ := Ev.rounds (eqByteS_same r1 (by omega))
  obtain ⟨k6, h6⟩ := Ev.rounds (eqRecordS_same _ hm hm2)
  obtain ⟨k7, h7⟩ := Ev.rounds (markRecordS_f (ws.map cvRecord) hm hm2 1 (by omega) (by rw [sumB_cvR, List.length_map]; omega))
  obtain ⟨k8, h8⟩ := Ev.rounds (markByteS_f r1 (by omega) 1 (by omega) (by omega))
  obtain ⟨k9, h9⟩ := Ev.rounds (heldByteS_f r1.length (by omega) 1 (by omega) (by omega))
  exact ⟨k2, _, h2, k3, _, _, h3, k2, _, h2, k4, h4, k5, h5, k2, _, h2, k6, h6, k7, _, _, h7, by omega, k5, h5, k8, _, _, h8, by omega, k9, h9, k2, _, h2, k4, h4, k5, h5, k9, h9, trivial⟩

end Go.Proofs.Ytkbclccnnllddaa.Pure.ofFnExactLogBytes
namespace Go.Proofs.Ytkbclccnnllddaa.PrintWords
/-- The word that the printed row asks for, under the name by which it asks. -/
abbrev sized_ints := @Go.Proofs.YtkbclccnnllddaaW.PrintWords.sized_ints
end Go.Proofs.Ytkbclccnnllddaa.PrintWords
namespace Go.Proofs.Ytkbclccnnllddaa.Pure
open Go.Proofs.Ytkbclccnnllddaa.PFnExactLogBytes
theorem FnExactLogBytes : ofFnExactLogBytes.Stmt := ofFnExactLogBytes.main
end Go.Proofs.Ytkbclccnnllddaa.Pure

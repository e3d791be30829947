/-
The law FnExactPageBytes answers true: for every page the program's PageBytes gives the reference's bytes, in new memory each time, and the page stays as it was.
Conditions: none beyond the bounds of the statement itself.
-/
import Derived.Test.YtokpniagnbaflaaPFnExactPageBytesx5
import Derived.Test.YtokpniagnbaflaaWSized
set_option linter.unusedVariables false
set_option linter.unusedSimpArgs false
namespace Go.Proofs.Ytokpniagnbaflaa.Pure.ofFnExactPageBytes
open Go.RowKit Go.Proofs.Ytokpniagnbaflaa.PFnExactPageBytes Go.Proofs.YtokpniagnbaflaaW.PrintWords Go.Proofs.YtokpniagnbaflaaW.PrintLast Go.Proofs.YtokpniagnbaflaaW.PrintMore

theorem ev_pos {α : Type} {c : Prop} [Decidable c] {A B : Nat → Option α} {r : α} (hc : c) (h : Ev A r) : Ev (fun k => if c then A k else B k) r := by
  refine Ev.congr (fun k => ?_) h
  rw [if_pos hc]
theorem ev_neg {α : Type} {c : Prop} [Decidable c] {A B : Nat → Option α} {r : α} (hc : ¬ c) (h : Ev B r) : Ev (fun k => if c then A k else B k) r := by
  refine Ev.congr (fun k => ?_) h
  rw [if_neg hc]
theorem ev_bind0 {α β : Type} {g : Option α} {f : Nat → α → Option β} {a : α} {r : β} (h : g = some a) (k : Ev (fun n => f n a) r) : Ev (fun n => g.bind (f n)) r := by
  refine Ev.congr (fun n => ?_) k
  rw [h]; rfl
theorem w64 {x : Int} (h0 : -9223372036854775808 ≤ x) (h1 : x ≤ 9223372036854775807) : wrap64 x = x := by
  unfold wrap64; omega
theorem rd_cons (x : Int) (l : List Int) : rd (x :: l) 0 = x := rfl
theorem rd_nat (l : List Int) (i : Nat) (h : i < l.length) : rd l (i : Int) = l[i] := by
  simp [rd, List.getD_eq_getElem?_getD, List.getElem?_eq_getElem h]
theorem rd_at (l : List Int) (i : Int) (h0 : 0 ≤ i) (h : i < l.length) : ∃ x, x ∈ l ∧ rd l i = x := by
  obtain ⟨n, rfl⟩ := Int.eq_ofNat_of_zero_le h0
  exact ⟨l[n]'(by omega), List.getElem_mem _, rd_nat l n (by omega)⟩
def marks (m : Int) : Nat → List Int
  | 0 => []
  | n + 1 => m :: marks (m + 1) n
def marksB (m : Int) : Nat → List Int
  | 0 => []
  | n + 1 => (m % 256) :: marksB (m + 1) n
theorem marks_length (n : Nat) : ∀ m, (marks m n).length = n := by
  induction n with
  | zero => intro m; rfl
  | succ n ih => intro m; simp [marks, ih]
theorem marksB_length (n : Nat) : ∀ m, (marksB m n).length = n := by
  induction n with
  | zero => intro m; rfl
  | succ n ih => intro m; simp [marksB, ih]
theorem marks_get (n : Nat) : ∀ m (i : Nat) (h : i < (marks m n).length), (marks m n)[i] = m + i := by
  induction n with
  | zero => intro m i h; simp [marks] at h
  | succ n ih =>
    intro m i h
    cases i with
    | zero => simp [marks]
    | succ i => simp only [marks, List.getElem_cons_succ]; rw [ih]; push_cast; omega
theorem marksB_get (n : Nat) : ∀ m (i : Nat) (h : i < (marksB m n).length), (marksB m n)[i] = (m + i) % 256 := by
  induction n with
  | zero => intro m i h; simp [marksB] at h
  | succ n ih =>
    intro m i h
    cases i with
    | zero => simp [marksB]
    | succ i => simp only [marksB, List.getElem_cons_succ]; rw [ih]; push_cast; omega


theorem impl_within_f (a b c : Int) : impl_within.f a b c = some (decide (b ≤ a ∧ a ≤ c)) := by
  unfold impl_within.f
  by_cases h : b ≤ a <;> simp [h]


theorem spec_l5in_f (a b c : Int) : spec_l5in.f a b c = some (decide (b ≤ a ∧ a ≤ c)) := by
  unfold spec_l5in.f
  by_cases h : b ≤ a <;> simp [h]


/-- a number as d bytes, low first -/
def le (n : Int) : Nat → List Int
  | 0 => []
  | d + 1 => (n % 256) :: le (n / 256) d
theorem le_length (d : Nat) : ∀ n, (le n d).length = d := by
  induction d with
  | zero => intro n; rfl
  | succ d ih => intro n; simp [le, ih]
theorem le_bytes (d : Nat) : ∀ n, ∀ x ∈ le n d, 0 ≤ x ∧ x ≤ 255 := by
  induction d with
  | zero => intro n x hx; simp [le] at hx
  | succ d ih =>
    intro n x hx
    simp only [le, List.mem_cons] at hx
    rcases hx with rfl | hx
    · omega
    · exact ih _ x hx
def PnOk (n size : Int) : Prop := (1 ≤ size ∧ size ≤ 8) ∧ 0 ≤ n ∧ n / 256 ^ size.toNat = 0
instance (n size : Int) : Decidable (PnOk n size) := by unfold PnOk; infer_instance
def pn (n size : Int) : List Int := if PnOk n size then le n size.toNat else []
theorem pow256 (d : Nat) (n : Int) : n / 256 / 256 ^ d = n / 256 ^ (d + 1) := by
  rw [Int.pow_succ, Int.mul_comm, Int.ediv_ediv_of_nonneg (by decide)]
theorem spec_PutNum_l (size : Int) (hs : size ≤ 8) (d : Nat) : ∀ (n i : Int) (out : List Int), 0 ≤ n → n ≤ 9223372036854775807 → 0 ≤ i → i + d = size → out.length ≤ 100 - d →
    Ev (fun k => spec_PutNum.l0 k n size out i) (if n / 256 ^ d > 0 then [] else out ++ le n d) := by
  induction d with
  | zero =>
    intro n i out h0 h1 hi he ho
    refine Ev.step (f := fun _ => some (if n / 256 ^ 0 > 0 then [] else out ++ le n 0)) (fun k => ?_) (Ev.now _)
    simp only [spec_PutNum.l0]
    rw [if_neg (by omega)]
    by_cases hn : n > 0
    · rw [if_pos hn, if_pos (by simpa using hn)]
    · rw [if_neg hn, if_neg (by simpa using hn)]
      simp [le]
  | succ d ih =>
    intro n i out h0 h1 hi he ho
    have hq : Int.tdiv n 256 = n / 256 := Int.tdiv_eq_ediv_of_nonneg h0
    have hm : Int.tmod n 256 = n % 256 := Int.tmod_eq_emod_of_nonneg h0
    have := ih (n / 256) (i + 1) (out ++ [n % 256]) (by omega) (by omega) (by omega) (by omega) (by simp; omega)
    rw [pow256] at this
    simp only [List.append_assoc, List.cons_append, List.nil_append] at this
    refine Ev.step (fun k => ?_) this
    simp only [spec_PutNum.l0]
    rw [if_pos (by omega), if_pos (by omega), hq, hm, w64 (by omega) (by omega), w64 (by omega) (by omega), show n % 256 % 256 = n % 256 by omega]
theorem impl_PutNum_l (size : Int) (hs : size ≤ 8) (d : Nat) : ∀ (n i : Int) (out : List Int), 0 ≤ i → i + d = size → out.length ≤ 100 - d →
    Ev (fun k => impl_PutNum.l0 k n out size i) (out ++ le n d) := by
  induction d with
  | zero =>
    intro n i out hi he ho
    refine Ev.step (f := fun _ => some (out ++ le n 0)) (fun k => ?_) (Ev.now _)
    simp only [impl_PutNum.l0]
    rw [if_neg (by omega)]
    simp [le]
  | succ d ih =>
    intro n i out hi he ho
    have := ih (n / 256) (i + 1) (out ++ [n % 256]) (by omega) (by omega) (by simp; omega)
    simp only [List.append_assoc, List.cons_append, List.nil_append] at this
    refine Ev.step (fun k => ?_) this
    simp only [impl_PutNum.l0]
    rw [if_pos (by omega), if_pos (by omega), w64 (by omega) (by omega)]
theorem pn_off (n size : Int) (h : ¬ PnOk n size) : pn n size = [] := by rw [pn, if_neg h]
theorem div_small (n : Int) (d : Nat) (h0 : 0 ≤ n) : ¬ n / 256 ^ d > 0 ↔ n / 256 ^ d = 0 := by
  have : 0 ≤ n / 256 ^ d := Int.ediv_nonneg h0 (Int.le_of_lt (Int.pow_pos (by decide)))
  omega
theorem spec_PutNum_f (n size : Int) (h1 : n ≤ 9223372036854775807) : Ev (fun k => spec_PutNum.f k n size) (pn n size) := by
  unfold spec_PutNum.f
  by_cases s1 : size < 1
  · refine ev_pos s1 (Ev.step (f := fun _ => some []) (fun k => by simp only [spec_PutNum.j0, if_true]) ?_)
    rw [pn_off n size (fun h => by have := h.1; omega)]
    exact Ev.now _
  refine ev_neg s1 ?_
  by_cases s2 : size > 8
  · refine ev_pos s2 (Ev.step (f := fun _ => some []) (fun k => by simp only [spec_PutNum.j0, if_true]) ?_)
    rw [pn_off n size (fun h => by have := h.1; omega)]
    exact Ev.now _
  refine ev_neg s2 ?_
  by_cases s3 : n < 0
  · refine Ev.step (f := fun _ => some []) (fun k => by simp only [spec_PutNum.j0]; rw [if_pos (decide_eq_true s3)]) ?_
    rw [pn_off n size (fun h => by have := h.2.1; omega)]
    exact Ev.now _
  refine Ev.step (f := fun k => spec_PutNum.l0 k n size [] 0) (fun k => by simp only [spec_PutNum.j0]; rw [if_neg (by simpa using s3)]) ?_
  have := spec_PutNum_l size (by omega) size.toNat n 0 [] (by omega) h1 (by omega) (by omega) (by simp)
  by_cases hz : n / 256 ^ size.toNat > 0
  · rw [if_pos hz] at this
    rw [pn_off n size (fun h => by have := h.2.2; omega)]
    exact this
  · rw [if_neg hz] at this
    rw [pn, if_pos ⟨⟨by omega, by omega⟩, by omega, (div_small n _ (by omega)).1 hz⟩]
    exact this
theorem shr_pow (n size : Int) (h1 : 1 ≤ size) (h2 : size < 8) : shr .i64 n (wrap64 (8 * size)) = n / 256 ^ size.toNat := by
  rw [w64 (by omega) (by omega)]
  unfold shr
  rw [Nat.min_eq_left (by simp [IntKind.bits]; omega)]
  obtain ⟨m, rfl⟩ := Int.eq_ofNat_of_zero_le (show 0 ≤ size by omega)
  have : (8 * (m : Int)).toNat = 8 * m := by omega
  rw [this, Int.toNat_natCast, Int.pow_mul]
  rfl
theorem impl_PutNum_f (n size : Int) (h1 : n ≤ 9223372036854775807) : Ev (fun k => impl_PutNum.f k n size) (pn n size) := by
  unfold impl_PutNum.f
  refine ev_bind0 (impl_within_f _ _ _) ?_
  by_cases s1 : 1 ≤ size ∧ size ≤ 8
  · refine ev_pos (decide_eq_true s1) ?_
    by_cases s2 : n < 0
    · refine ev_pos s2 (Ev.step (f := fun _ => some []) (fun k => by simp only [impl_PutNum.j0, if_true]) ?_)
      rw [pn_off n size (fun h => by have := h.2.1; omega)]
      exact Ev.now _
    refine ev_neg s2 ?_
    have hl := impl_PutNum_l size (by omega) size.toNat n 0 [] (by omega) (by omega) (by simp)
    by_cases s3 : size < 8
    · refine ev_pos s3 (ev_pos (by rw [w64 (by omega) (by omega)]; omega) ?_)
      rw [shr_pow n size s1.1 s3]
      by_cases hz : n / 256 ^ size.toNat = 0
      · refine Ev.step (f := fun k => impl_PutNum.l0 k n [] size 0) (fun k => by simp only [impl_PutNum.j0]; rw [if_neg (by simp [hz])]) ?_
        rw [pn, if_pos ⟨s1, by omega, hz⟩]
        exact hl
      · refine Ev.step (f := fun _ => some []) (fun k => by simp only [impl_PutNum.j0]; rw [if_pos (by simp [hz])]) ?_
        rw [pn_off n size (fun h => hz h.2.2)]
        exact Ev.now _
    · refine ev_neg s3 ?_
      obtain rfl : size = 8 := by omega
      refine Ev.step (f := fun k => impl_PutNum.l0 k n [] 8 0) (fun k => by simp only [impl_PutNum.j0, Bool.false_eq_true, if_false]) ?_
      have hz : n / 256 ^ (8 : Int).toNat = 0 := by
        have : (256 : Int) ^ (8 : Int).toNat = 18446744073709551616 := by decide
        rw [this]; omega
      rw [pn, if_pos ⟨s1, by omega, hz⟩]
      exact hl
  · refine ev_neg (by simpa using s1) (Ev.step (f := fun _ => some []) (fun k => by simp only [impl_PutNum.j0, if_true]) ?_)
    rw [pn_off n size (fun h => s1 h.1)]
    exact Ev.now _
theorem pn_length (n size : Int) : (pn n size).length ≤ 8 := by
  unfold pn
  split
  · rename_i h
    rw [le_length]
    have := h.1
    omega
  · simp


theorem toByteS_l (l : List Int) (hn : l.length ≤ 1048576) (d : Nat) : ∀ (i : Nat) (y : List Int), i + d = l.length → y.length = l.length → (∀ j, j < i → y[j]? = l[j]?) → Ev (fun k => laws_toByteS.l0 k l y (i : Int)) l := by
  induction d with
  | zero =>
    intro i y hi hy hj
    refine Ev.step (f := fun _ => some l) (fun k => ?_) (Ev.now _)
    simp only [laws_toByteS.l0]
    rw [if_neg (by omega)]
    congr 1
    refine List.ext_getElem? fun j => ?_
    by_cases h : j < i
    · exact hj j h
    · rw [List.getElem?_eq_none (by omega), List.getElem?_eq_none (by omega)]
  | succ d ih =>
    intro i y hi hy hj
    refine Ev.step (f := fun k => laws_toByteS.l0 k l (y.set i (rd l i)) ((i + 1 : Nat) : Int)) (fun k => ?_) (ih (i + 1) _ (by omega) (by simp [hy]) ?_)
    · simp only [laws_toByteS.l0]
      rw [if_pos (by omega), if_pos (by omega), if_pos (by omega), w64 (by omega) (by omega)]
      simp
    · intro j hlt
      by_cases h : j = i
      · subst h
        rw [List.getElem?_set_self (by omega), rd_nat l j (by omega), List.getElem?_eq_getElem (by omega)]
      · rw [List.getElem?_set_ne (by omega)]
        exact hj j (by omega)
theorem toByteS_f (l : List Int) (hn : l.length ≤ 1048576) : Ev (fun k => laws_toByteS.f k l) l := by
  unfold laws_toByteS.f
  refine ev_pos (by omega) (ev_pos (by omega) ?_)
  exact toByteS_l l hn l.length 0 _ (by omega) (by simp) (by intro j h; omega)


theorem eqByteS_l (a b : List Int) (hn : a.length ≤ 1048576) (hab : a.length = b.length) (d : Nat) : ∀ (i : Nat), i + d = a.length → (∀ j, j < i → a[j]? = b[j]?) → Ev (fun k => laws_eqByteS.l0 k a b (i : Int)) (decide (a = b)) := by
  induction d with
  | zero =>
    intro i hi hj
    refine Ev.step (f := fun _ => some true) (fun k => ?_) ?_
    · simp only [laws_eqByteS.l0]
      rw [if_neg (by omega)]
    · have : a = b := by
        refine List.ext_getElem? fun j => ?_
        by_cases h : j < i
        · exact hj j h
        · rw [List.getElem?_eq_none (by omega), List.getElem?_eq_none (by omega)]
      rw [decide_eq_true this]
      exact Ev.now _
  | succ d ih =>
    intro i hi hj
    have ha : rd a (i : Int) = a[i]'(by omega) := rd_nat a i (by omega)
    have hb : rd b (i : Int) = b[i]'(by omega) := rd_nat b i (by omega)
    by_cases he : rd a (i : Int) = rd b (i : Int)
    · refine Ev.step (f := fun k => laws_eqByteS.l0 k a b ((i + 1 : Nat) : Int)) (fun k => ?_) (ih (i + 1) (by omega) ?_)
      · simp only [laws_eqByteS.l0]
        rw [if_pos (by omega), if_pos (by omega), if_pos (by omega), if_pos he, w64 (by omega) (by omega)]
        simp
      · intro j hlt
        by_cases h : j = i
        · subst h
          rw [List.getElem?_eq_getElem (by omega), List.getElem?_eq_getElem (by omega), ← ha, ← hb, he]
        · exact hj j (by omega)
    · refine Ev.step (f := fun _ => some false) (fun k => ?_) ?_
      · simp only [laws_eqByteS.l0]
        rw [if_pos (by omega), if_pos (by omega), if_pos (by omega), if_neg he]
      · have : ¬ a = b := by
          rintro rfl
          exact he rfl
        rw [decide_eq_false this]
        exact Ev.now _
theorem eqByteS_f (a b : List Int) (hn : a.length ≤ 1048576) : Ev (fun k => laws_eqByteS.f k a b) (decide (a = b)) := by
  unfold laws_eqByteS.f
  by_cases h : a.length = b.length
  · refine ev_pos (by omega) ?_
    exact eqByteS_l a b hn h a.length 0 (by omega) (by intro j h; omega)
  · refine ev_neg (by omega) ?_
    rw [decide_eq_false (by rintro rfl; exact h rfl)]
    exact Ev.now _
theorem eqByteS_same (a : List Int) (hn : a.length ≤ 1048576) : Ev (fun k => laws_eqByteS.f k a a) true := by
  have := eqByteS_f a a hn
  rwa [decide_eq_true rfl] at this


theorem markByteS_l (a : List Int) (hn : a.length ≤ 1048576) (m0 : Int) (h0 : 0 ≤ m0) (h1 : m0 ≤ 1000000000000) (d : Nat) : ∀ (i : Nat) (y : List Int), i + d = a.length → y.length = a.length → (∀ j, j < i → y[j]? = (marksB m0 a.length)[j]?) → Ev (fun k => laws_markByteS.l0 k y (m0 + i) (i : Int)) (m0 + a.length, marksB m0 a.length) := by
  have hml := marksB_length a.length m0
  induction d with
  | zero =>
    intro i y hi hy hj
    refine Ev.step (f := fun _ => some (m0 + a.length, marksB m0 a.length)) (fun k => ?_) (Ev.now _)
    simp only [laws_markByteS.l0]
    rw [if_neg (by omega)]
    have hy2 : y = marksB m0 a.length := by
      refine List.ext_getElem? fun j => ?_
      by_cases h : j < i
      · exact hj j h
      · rw [List.getElem?_eq_none (by omega), List.getElem?_eq_none (by omega)]
    rw [hy2, show (i : Int) = a.length by omega]
  | succ d ih =>
    intro i y hi hy hj
    refine Ev.step (f := fun k => laws_markByteS.l0 k (y.set i ((m0+i)%256)) (m0 + (i + 1 : Nat)) ((i + 1 : Nat) : Int)) (fun k => ?_) (ih (i + 1) _ (by omega) (by simp [hy]) ?_)
    · simp only [laws_markByteS.l0]
      rw [if_pos (by omega), if_pos (by omega), w64 (by omega) (by omega), w64 (by omega) (by omega)]
      simp [Int.add_assoc]
    · intro j hlt
      by_cases h : j = i
      · subst h
        rw [List.getElem?_set_self (by omega), List.getElem?_eq_getElem (by omega), marksB_get]
      · rw [List.getElem?_set_ne (by omega)]
        exact hj j (by omega)
theorem markByteS_f (a : List Int) (hn : a.length ≤ 1048576) (m : Int) (h0 : 0 ≤ m) (h1 : m ≤ 1000000000000) : Ev (fun k => laws_markByteS.f k a m) (m + a.length, marksB m a.length) := by
  unfold laws_markByteS.f
  have := markByteS_l a hn m h0 h1 a.length 0 a (by omega) rfl (by intro j h; omega)
  simpa using this


theorem heldByteS_l (n : Nat) (hn : n ≤ 1048576) (m0 : Int) (h0 : 0 ≤ m0) (h1 : m0 ≤ 1000000000000) (d : Nat) : ∀ (i : Nat), i + d = n → Ev (fun k => laws_heldByteS.l0 k (marksB m0 n) (m0 + i) (i : Int)) (m0 + n) := by
  have hml := marksB_length n m0
  induction d with
  | zero =>
    intro i hi
    refine Ev.step (f := fun _ => some (m0 + n)) (fun k => ?_) (Ev.now _)
    simp only [laws_heldByteS.l0]
    rw [if_neg (by omega), show (i : Int) = n by omega]
  | succ d ih =>
    intro i hi
    refine Ev.step (f := fun k => laws_heldByteS.l0 k (marksB m0 n) (m0 + (i + 1 : Nat)) ((i + 1 : Nat) : Int)) (fun k => ?_) (ih (i + 1) (by omega))
    simp only [laws_heldByteS.l0]
    rw [if_pos (by omega), if_pos (by omega), if_pos (by rw [rd_nat _ i (by omega), marksB_get]), w64 (by omega) (by omega), w64 (by omega) (by omega)]
    simp [Int.add_assoc]
theorem heldByteS_f (n : Nat) (hn : n ≤ 1048576) (m : Int) (h0 : 0 ≤ m) (h1 : m ≤ 1000000000000) : Ev (fun k => laws_heldByteS.f k (marksB m n) m) (m + n) := by
  unfold laws_heldByteS.f
  have := heldByteS_l n hn m h0 h1 n 0 (by omega)
  simpa using this


theorem szByte_f (l : List Int) (left : Int) (h0 : 0 ≤ left) (h1 : left ≤ 1048576) (hl : l.length ≤ 9223372036854775807) : laws_szByteS.f l left = some (if left < l.length then -1 else left - l.length) := by
  unfold laws_szByteS.f
  rw [w64 (by omega) (by omega)]
  by_cases h : left < l.length
  · rw [if_pos (by omega), if_pos h]
  · rw [if_neg (by omega), if_neg h]


def sumLen : List (List Int) → Nat
  | [] => 0
  | x :: l => x.length + sumLen l
theorem rdl_nat (l : List (List Int)) (i : Nat) (h : i < l.length) : rd_L1 l (i : Int) = l[i] := by
  simp [rd_L1, List.getD_eq_getElem?_getD, List.getElem?_eq_getElem h]
theorem sumLen_drop (l : List (List Int)) (i : Nat) (h : i < l.length) : sumLen (l.drop i) = (l[i]).length + sumLen (l.drop (i + 1)) := by
  rw [List.drop_eq_getElem_cons h]
  rfl
theorem sumLen_mem {l : List (List Int)} {x : List Int} (h : x ∈ l) : x.length ≤ sumLen l := by
  induction l with
  | nil => cases h
  | cons y l ih =>
    simp only [sumLen]
    rcases List.mem_cons.1 h with rfl | h
    · omega
    · have := ih h; omega
theorem szByteSS_l (l : List (List Int)) (hx : ∀ x ∈ l, x.length ≤ 9223372036854775807) (hn : l.length ≤ 1048576) (d : Nat) : ∀ (i : Nat) (left : Int), i + d = l.length → 0 ≤ left → left ≤ 1048576 →
    Ev (fun k => laws_szByteSS.l0 k l left (i : Int)) (if left < sumLen (l.drop i) then -1 else left - sumLen (l.drop i)) := by
  induction d with
  | zero =>
    intro i left hi h0 h1
    refine Ev.step (f := fun _ => some left) (fun k => ?_) ?_
    · simp only [laws_szByteSS.l0]
      rw [if_neg (by omega)]
    · have e : sumLen (l.drop i) = 0 := by
        rw [List.drop_eq_nil_of_le (by omega)]
        rfl
      have hz : (if left < sumLen (l.drop i) then (-1 : Int) else left - sumLen (l.drop i)) = left := by
        rw [if_neg (by omega)]
        omega
      rw [hz]
      exact Ev.now _
  | succ d ih =>
    intro i left hi h0 h1
    have hr := rdl_nat l i (by omega)
    have hl := hx (l[i]'(by omega)) (List.getElem_mem _)
    have hs := szByte_f (l[i]'(by omega)) left h0 h1 hl
    have hd := sumLen_drop l i (by omega)
    by_cases h : left < (l[i]'(by omega)).length
    · rw [if_pos h] at hs
      refine Ev.step (f := fun _ => some (-1)) (fun k => ?_) ?_
      · simp only [laws_szByteSS.l0]
        rw [if_pos (by omega), if_pos (by omega), hr, hs]
        simp
      · rw [if_pos (by omega)]
        exact Ev.now _
    · rw [if_neg h] at hs
      have h2 := ih (i + 1) (left - (l[i]'(by omega)).length) (by omega) (by omega) (by omega)
      have e : (if left < sumLen (l.drop i) then (-1 : Int) else left - sumLen (l.drop i)) = (if left - (l[i]'(by omega)).length < sumLen (l.drop (i + 1)) then -1 else left - (l[i]'(by omega)).length - sumLen (l.drop (i + 1))) := by
        rw [hd]
        by_cases hc : left < (((l[i]'(by omega)).length + sumLen (l.drop (i + 1)) : Nat) : Int)
        · rw [if_pos hc, if_pos (by omega)]
        · rw [if_neg hc, if_neg (by omega)]; omega
      rw [e]
      refine Ev.step (fun k => ?_) h2
      simp only [laws_szByteSS.l0]
      rw [if_pos (by omega), if_pos (by omega), hr, hs]
      simp only [Option.bind_some]
      rw [if_neg (by omega), w64 (by omega) (by omega)]
      rfl
theorem szByteSS_f (l : List (List Int)) (hl : l.length ≤ 9223372036854775807) (hx : ∀ x ∈ l, x.length ≤ 9223372036854775807) (left : Int) (h0 : 0 ≤ left) (h1 : left ≤ 1048576) :
    Ev (fun k => laws_szByteSS.f k l left) (if left < (l.length : Int) + sumLen l then -1 else left - ((l.length : Int) + sumLen l)) := by
  unfold laws_szByteSS.f
  rw [w64 (by omega) (by omega)]
  by_cases h : left - l.length < 0
  · rw [if_pos (by omega)]
    exact ev_pos h (Ev.now _)
  · have h2 := szByteSS_l l hx (by omega) l.length 0 (left - l.length) (by omega) (by omega) (by omega)
    rw [List.drop_zero] at h2
    have e : (if left < (l.length : Int) + sumLen l then (-1 : Int) else left - ((l.length : Int) + sumLen l)) = (if left - l.length < sumLen l then -1 else left - l.length - sumLen l) := by
      by_cases hc : left < (l.length : Int) + sumLen l
      · rw [if_pos hc, if_pos (by omega)]
      · rw [if_neg hc, if_neg (by omega)]; omega
    rw [e]
    exact ev_neg h h2
theorem toByteSS_l (l : List (List Int)) (hn : l.length ≤ 1048576) (hx : ∀ x ∈ l, x.length ≤ 1048576) (d : Nat) : ∀ (i : Nat) (y : List (List Int)), i + d = l.length → y.length = l.length → (∀ j, j < i → y[j]? = l[j]?) → Ev (fun k => laws_toByteSS.l0 k l y (i : Int)) l := by
  induction d with
  | zero =>
    intro i y hi hy hj
    refine Ev.step (f := fun _ => some l) (fun k => ?_) (Ev.now _)
    simp only [laws_toByteSS.l0]
    rw [if_neg (by omega)]
    congr 1
    refine List.ext_getElem? fun j => ?_
    by_cases h : j < i
    · exact hj j h
    · rw [List.getElem?_eq_none (by omega), List.getElem?_eq_none (by omega)]
  | succ d ih =>
    intro i y hi hy hj
    have hr := rdl_nat l i (by omega)
    have ht := toByteS_f (l[i]'(by omega)) (hx _ (List.getElem_mem _))
    have h2 := ih (i + 1) (y.set i (l[i]'(by omega))) (by omega) (by simp [hy]) (by
      intro j hlt
      by_cases h : j = i
      · subst h
        rw [List.getElem?_set_self (by omega), List.getElem?_eq_getElem (by omega)]
      · rw [List.getElem?_set_ne (by omega)]
        exact hj j (by omega))
    refine Ev.step (f := fun k => (laws_toByteS.f k (l[i]'(by omega))).bind fun t => if (i : Int) < (y.length : Int) then laws_toByteSS.l0 k l (y.set (i : Int).toNat t) (wrap64 ((i : Int) + 1)) else none) (fun k => ?_) (Ev.bind ht ?_)
    · simp only [laws_toByteSS.l0]
      rw [if_pos (by omega), if_pos (by omega), hr]
    · refine ev_pos (by omega) ?_
      rw [w64 (by omega) (by omega), Int.toNat_natCast]
      exact h2
theorem toByteSS_f (l : List (List Int)) (hn : l.length ≤ 1048576) (hx : ∀ x ∈ l, x.length ≤ 1048576) : Ev (fun k => laws_toByteSS.f k l) l := by
  unfold laws_toByteSS.f
  refine ev_pos (by omega) (ev_pos (by omega) ?_)
  exact toByteSS_l l hn hx l.length 0 _ (by omega) (by simp) (by intro j h; omega)


theorem eqByteSS_l (l : List (List Int)) (hn : l.length ≤ 1048576) (hx : ∀ x ∈ l, x.length ≤ 1048576) (d : Nat) : ∀ (i : Nat), i + d = l.length → Ev (fun k => laws_eqByteSS.l0 k l l (i : Int)) true := by
  induction d with
  | zero =>
    intro i hi
    refine Ev.step (f := fun _ => some true) (fun k => ?_) (Ev.now _)
    simp only [laws_eqByteSS.l0]
    rw [if_neg (by omega)]
  | succ d ih =>
    intro i hi
    have hr := rdl_nat l i (by omega)
    have ht := eqByteS_same (l[i]'(by omega)) (hx _ (List.getElem_mem _))
    refine Ev.step (f := fun k => (laws_eqByteS.f k (l[i]'(by omega)) (l[i]'(by omega))).bind fun t => if t = true then laws_eqByteSS.l0 k l l (wrap64 ((i : Int) + 1)) else some false) (fun k => ?_) (Ev.bind ht (ev_pos rfl ?_))
    · simp only [laws_eqByteSS.l0]
      rw [if_pos (by omega), if_pos (by omega), hr]
      rw [if_pos (by omega)]
    · rw [w64 (by omega) (by omega)]
      exact ih (i + 1) (by omega)
theorem eqByteSS_same (l : List (List Int)) (hn : l.length ≤ 1048576) (hx : ∀ x ∈ l, x.length ≤ 1048576) : Ev (fun k => laws_eqByteSS.f k l l) true := by
  unfold laws_eqByteSS.f
  exact ev_pos rfl (eqByteSS_l l hn hx l.length 0 (by omega))


theorem szPage_f (lsn : Int) (l : List (List Int)) (hl : l.length ≤ 9223372036854775807) (hx : ∀ x ∈ l, x.length ≤ 9223372036854775807) (left : Int) (h0 : 0 ≤ left) (h1 : left ≤ 1048576) :
    Ev (fun k => laws_szPage.f k lsn l left) (if left < (l.length : Int) + sumLen l then -1 else left - ((l.length : Int) + sumLen l)) := by
  unfold laws_szPage.f
  refine Ev.bind (szByteSS_f l hl hx left h0 h1) ?_
  by_cases h : left < (l.length : Int) + sumLen l
  · rw [if_pos h]
    exact ev_pos (by omega) (Ev.now _)
  · rw [if_neg h]
    exact ev_neg (by omega) (Ev.now _)
theorem toPage_f (lsn : Int) (l : List (List Int)) (hn : l.length ≤ 1048576) (hx : ∀ x ∈ l, x.length ≤ 1048576) : Ev (fun k => laws_toPage.f k lsn l) (lsn, l) := by
  unfold laws_toPage.f
  exact Ev.bind (toByteSS_f l hn hx) (Ev.now _)


theorem eqPage_same (lsn : Int) (l : List (List Int)) (hn : l.length ≤ 1048576) (hx : ∀ x ∈ l, x.length ≤ 1048576) : Ev (fun k => laws_eqPage.f k lsn l lsn l) true := by
  unfold laws_eqPage.f
  exact ev_pos rfl (Ev.bind (eqByteSS_same l hn hx) (ev_pos rfl (Ev.now _)))


/-- how many bytes a page uses, or -1 -/
def puOf (lsn : Int) (l : List (List Int)) : Int :=
  if ¬ ((0 ≤ lsn ∧ lsn ≤ 1000000) ∧ l.length ≤ 16) then -1
  else if ∃ x ∈ l, 92 < x.length then -1
  else if 240 < 1 + l.length + sumLen l then -1
  else if 0 < l.length ∧ (rd_L1 l ((l.length : Int) - 1)).length = 0 then -1
  else 1 + l.length + sumLen l
theorem small_sum (l : List (List Int)) (h : ¬ ∃ x ∈ l, 92 < x.length) : sumLen l ≤ 92 * l.length := by
  induction l with
  | nil => simp [sumLen]
  | cons x l ih =>
    have h1 := ih (fun ⟨y, hy, hz⟩ => h ⟨y, List.mem_cons_of_mem _ hy, hz⟩)
    have h2 : ¬ 92 < x.length := fun hz => h ⟨x, List.mem_cons_self .., hz⟩
    simp only [sumLen, List.length_cons]
    omega
def sumTake (l : List (List Int)) (i : Nat) : Nat := sumLen (l.take i)
theorem sumTake_succ (l : List (List Int)) (i : Nat) (h : i < l.length) : sumTake l (i + 1) = sumTake l i + (l[i]).length := by
  have hs : ∀ a b : List (List Int), sumLen (a ++ b) = sumLen a + sumLen b := by
    intro a b
    induction a with
    | nil => simp [sumLen]
    | cons x a ih => simp only [List.cons_append, sumLen, ih]; omega
  unfold sumTake
  rw [List.take_succ_eq_append_getElem h, hs]
  simp [sumLen]
theorem sumTake_le (l : List (List Int)) (i : Nat) (hl : l.length ≤ 16) (hi : i ≤ l.length) (h : ∀ j (hj : j < l.length), j < i → (l[j]).length ≤ 92) : sumTake l i ≤ 92 * i := by
  induction i with
  | zero => simp [sumTake, sumLen]
  | succ i ih =>
    have h1 := ih (by omega) (fun j hj hji => h j hj (by omega))
    have h2 := h i (by omega) (by omega)
    rw [sumTake_succ l i (by omega)]
    omega
theorem spec_PageUsed_end (lsn : Int) (l : List (List Int)) (hp : (0 ≤ lsn ∧ lsn ≤ 1000000) ∧ l.length ≤ 16) (hs : ¬ ∃ x ∈ l, 92 < x.length) : ∀ (i : Nat), i = l.length →
    Ev (fun k => spec_PageUsed.l0 k (1 + l.length + sumLen l : Int) (i : Int) lsn l) (puOf lsn l) := by
  intro i hi
  have hb := small_sum l hs
  unfold puOf
  rw [if_neg (not_not_intro hp), if_neg hs]
  have last : ∀ b : Bool, b = decide (0 < l.length ∧ (rd_L1 l ((l.length : Int) - 1)).length = 0) → Ev (fun k => spec_PageUsed.j2 k (1 + l.length + sumLen l : Int) b) (if 240 < 1 + l.length + sumLen l then -1 else if 0 < l.length ∧ (rd_L1 l ((l.length : Int) - 1)).length = 0 then -1 else 1 + l.length + sumLen l) := by
    intro b hb2
    refine Ev.step (f := fun _ => some (if 240 < 1 + l.length + sumLen l then (-1 : Int) else if 0 < l.length ∧ (rd_L1 l ((l.length : Int) - 1)).length = 0 then -1 else 1 + l.length + sumLen l)) (fun k => ?_) (Ev.now _)
    simp only [spec_PageUsed.j2, hb2, decide_eq_true_eq]
    by_cases h1 : 0 < l.length ∧ (rd_L1 l ((l.length : Int) - 1)).length = 0
    · rw [if_pos h1, if_pos h1]
      split <;> rfl
    · rw [if_neg h1, if_neg h1]
      by_cases h2 : 240 < 1 + l.length + sumLen l
      · rw [if_pos (by omega), if_pos h2]
      · rw [if_neg (by omega), if_neg h2]
  by_cases h0 : (l.length : Int) > 0
  · refine Ev.step (fun k => ?_) (last _ rfl)
    simp only [spec_PageUsed.l0]
    rw [if_neg (by omega), if_pos h0, w64 (by omega) (by omega), if_pos (by omega), if_pos (by omega)]
    congr 1
    by_cases h1 : (rd_L1 l ((l.length : Int) - 1)).length = 0
    · rw [decide_eq_true ⟨by omega, h1⟩, h1]; rfl
    · rw [decide_eq_false (fun h => h1 h.2)]
      simpa using h1
  · refine Ev.step (fun k => ?_) (last false (by rw [decide_eq_false]; omega))
    simp only [spec_PageUsed.l0]
    rw [if_neg (by omega), if_neg h0]
theorem spec_PageUsed_l (lsn : Int) (l : List (List Int)) (hp : (0 ≤ lsn ∧ lsn ≤ 1000000) ∧ l.length ≤ 16) (d : Nat) : ∀ (i : Nat), i + d = l.length → (∀ j (hj : j < l.length), j < i → (l[j]).length ≤ 92) →
    Ev (fun k => spec_PageUsed.l0 k (1 + l.length + sumTake l i : Int) (i : Int) lsn l) (puOf lsn l) := by
  induction d with
  | zero =>
    intro i hi hj
    have e : sumTake l i = sumLen l := by unfold sumTake; rw [List.take_of_length_le (by omega)]
    rw [e]
    refine spec_PageUsed_end lsn l hp ?_ i (by omega)
    rintro ⟨x, hx, h⟩
    obtain ⟨j, hjl, rfl⟩ := List.mem_iff_getElem.1 hx
    have := hj j hjl (by omega)
    omega
  | succ d ih =>
    intro i hi hj
    have hr := rdl_nat l i (by omega)
    have hb := sumTake_le l i hp.2 (by omega) hj
    by_cases h : (l[i]'(by omega)).length > 92
    · have e : puOf lsn l = -1 := by
        unfold puOf
        rw [if_neg (not_not_intro hp), if_pos ⟨_, List.getElem_mem _, h⟩]
      rw [e]
      refine Ev.step (f := fun _ => some (-1)) (fun k => ?_) (Ev.now _)
      simp only [spec_PageUsed.l0]
      rw [if_pos (by omega), if_pos (by omega), hr, if_pos (by omega)]
    · have h2 := ih (i + 1) (by omega) (by
        intro j hjl hji
        by_cases hje : j = i
        · subst hje; omega
        · exact hj j hjl (by omega))
      rw [sumTake_succ l i (by omega)] at h2
      refine Ev.step (fun k => ?_) h2
      simp only [spec_PageUsed.l0]
      rw [if_pos (by omega), if_pos (by omega), hr, if_neg (by omega), w64 (x := 1 + (l.length : Int) + (sumTake l i : Int) + ((l[i]'(by omega)).length : Int)) (by omega) (by omega), w64 (by omega) (by omega)]
      congr 1
      omega
theorem impl_PageUsed_l (lsn : Int) (l : List (List Int)) (hp : (0 ≤ lsn ∧ lsn ≤ 1000000) ∧ l.length ≤ 16) (d : Nat) : ∀ (i : Nat), i + d = l.length → (∀ j (hj : j < l.length), j < i → (l[j]).length ≤ 92) →
    Ev (fun k => impl_PageUsed.l0 k (1 + l.length + sumTake l i : Int) l (l.length : Int) (i : Int) lsn l) (puOf lsn l) := by
  induction d with
  | zero =>
    intro i hi hj
    have e : sumTake l i = sumLen l := by unfold sumTake; rw [List.take_of_length_le (by omega)]
    rw [e]
    have hs : ¬ ∃ x ∈ l, 92 < x.length := by
      rintro ⟨x, hx, h⟩
      obtain ⟨j, hjl, rfl⟩ := List.mem_iff_getElem.1 hx
      have := hj j hjl (by omega)
      omega
    have hb := small_sum l hs
    unfold puOf
    rw [if_neg (not_not_intro hp), if_neg hs]
    refine Ev.step (f := fun _ => some (if 240 < 1 + l.length + sumLen l then (-1 : Int) else if 0 < l.length ∧ (rd_L1 l ((l.length : Int) - 1)).length = 0 then -1 else 1 + l.length + sumLen l)) (fun k => ?_) (Ev.now _)
    simp only [impl_PageUsed.l0]
    rw [if_neg (by omega)]
    by_cases h2 : 240 < 1 + l.length + sumLen l
    · rw [if_pos (by omega), if_pos h2]
    · rw [if_neg (by omega), if_neg h2]
      by_cases h0 : (l.length : Int) > 0
      · rw [if_pos h0, w64 (by omega) (by omega), if_pos (by omega), if_pos (by omega)]
        by_cases h1 : (rd_L1 l ((l.length : Int) - 1)).length = 0
        · rw [if_pos (by omega), if_pos ⟨by omega, h1⟩]
        · rw [if_neg (by omega), if_neg (fun h => h1 h.2)]
      · rw [if_neg h0, if_neg (by omega)]
  | succ d ih =>
    intro i hi hj
    have hr := rdl_nat l i (by omega)
    have hb := sumTake_le l i hp.2 (by omega) hj
    by_cases h : (l[i]'(by omega)).length > 92
    · have e : puOf lsn l = -1 := by
        unfold puOf
        rw [if_neg (not_not_intro hp), if_pos ⟨_, List.getElem_mem _, h⟩]
      rw [e]
      refine Ev.step (f := fun _ => some (-1)) (fun k => ?_) (Ev.now _)
      simp only [impl_PageUsed.l0]
      rw [if_pos (by omega), if_pos (by omega), if_pos (by omega), hr, if_pos (by omega)]
    · have h2 := ih (i + 1) (by omega) (by
        intro j hjl hji
        by_cases hje : j = i
        · subst hje; omega
        · exact hj j hjl (by omega))
      rw [sumTake_succ l i (by omega)] at h2
      refine Ev.step (fun k => ?_) h2
      simp only [impl_PageUsed.l0]
      rw [if_pos (by omega), if_pos (by omega), if_pos (by omega), hr, if_neg (by omega), w64 (x := 1 + (l.length : Int) + (sumTake l i : Int) + ((l[i]'(by omega)).length : Int)) (by omega) (by omega), w64 (by omega) (by omega)]
      congr 1
      omega
theorem puOf_off (lsn : Int) (l : List (List Int)) (h : ¬ ((0 ≤ lsn ∧ lsn ≤ 1000000) ∧ l.length ≤ 16)) : puOf lsn l = -1 := by
  unfold puOf
  rw [if_pos h]
theorem spec_PageUsed_f (lsn : Int) (l : List (List Int)) (hn : l.length ≤ 1048576) : Ev (fun k => spec_PageUsed.f k lsn l) (puOf lsn l) := by
  unfold spec_PageUsed.f
  refine ev_bind0 (spec_l5in_f _ _ _) ?_
  by_cases h : 0 ≤ lsn ∧ lsn ≤ 1000000
  · refine ev_pos (decide_eq_true h) ?_
    by_cases h2 : (l.length : Int) > 16
    · rw [decide_eq_true h2, puOf_off lsn l (fun h => by have := h.2; omega)]
      exact Ev.step (f := fun _ => some (-1)) (fun k => by simp only [spec_PageUsed.j0, if_true]) (Ev.now _)
    · rw [decide_eq_false h2]
      refine Ev.step (fun k => by simp only [spec_PageUsed.j0, Bool.false_eq_true, if_false]; rfl) ?_
      rw [w64 (by omega) (by omega)]
      have := spec_PageUsed_l lsn l ⟨h, by omega⟩ l.length 0 (by omega) (fun j hj hji => by omega)
      simpa [sumTake, sumLen] using this
  · rw [puOf_off lsn l (fun h2 => h h2.1)]
    refine ev_neg (by simpa using h) ?_
    exact Ev.step (f := fun _ => some (-1)) (fun k => by simp only [spec_PageUsed.j0, if_true]) (Ev.now _)
theorem impl_PageUsed_f (lsn : Int) (l : List (List Int)) (hn : l.length ≤ 1048576) : Ev (fun k => impl_PageUsed.f k lsn l) (puOf lsn l) := by
  unfold impl_PageUsed.f
  refine ev_bind0 (impl_within_f _ _ _) ?_
  by_cases h : 0 ≤ lsn ∧ lsn ≤ 1000000
  · refine ev_pos (decide_eq_true h) ?_
    by_cases h2 : (l.length : Int) > 16
    · rw [decide_eq_true h2, puOf_off lsn l (fun h => by have := h.2; omega)]
      exact Ev.step (f := fun _ => some (-1)) (fun k => by simp only [impl_PageUsed.j0, if_true]) (Ev.now _)
    · rw [decide_eq_false h2]
      refine Ev.step (fun k => by simp only [impl_PageUsed.j0, Bool.false_eq_true, if_false]; rfl) ?_
      rw [w64 (by omega) (by omega)]
      have := impl_PageUsed_l lsn l ⟨h, by omega⟩ l.length 0 (by omega) (fun j hj hji => by omega)
      simpa [sumTake, sumLen] using this
  · rw [puOf_off lsn l (fun h2 => h h2.1)]
    refine ev_neg (by simpa using h) ?_
    exact Ev.step (f := fun _ => some (-1)) (fun k => by simp only [impl_PageUsed.j0, if_true]) (Ev.now _)


/-- rows marked one behind the other -/
def marksSS (m : Int) : List (List Int) → List (List Int)
  | [] => []
  | x :: l => marksB m x.length :: marksSS (m + x.length) l
theorem marksSS_length (l : List (List Int)) : ∀ m, (marksSS m l).length = l.length := by
  induction l with
  | nil => intro m; rfl
  | cons x l ih => intro m; simp [marksSS, ih]
theorem markSS_go (rest : List (List Int)) : ∀ (pre : List (List Int)) (m : Int), 0 ≤ m → m + sumLen rest ≤ 1000000000000 → (∀ x ∈ rest, x.length ≤ 1048576) → Ev (fun k => laws_markByteSS.go k rest.length pre.length (pre ++ rest) m) (m + sumLen rest, pre ++ marksSS m rest) := by
  induction rest with
  | nil =>
    intro pre m h0 h1 hx
    refine Ev.congr (f := fun _ => some (m, pre ++ [])) (fun k => rfl) ?_
    rw [show (m : Int) + (sumLen ([] : List (List Int)) : Nat) = m by simp [sumLen]]
    exact Ev.now _
  | cons x rest ih =>
    intro pre m h0 h1 hx
    have hs : sumLen (x :: rest) = x.length + sumLen rest := rfl
    rw [hs] at h1
    have hxl := hx x (List.mem_cons_self ..)
    have h2 := ih (pre ++ [marksB m x.length]) (m + x.length) (by omega) (by omega) (fun y hy => hx y (List.mem_cons_of_mem _ hy))
    have hg : (pre ++ x :: rest).getD pre.length [] = x := by simp [List.getD_eq_getElem?_getD]
    refine Ev.congr (fun k => by rw [List.length_cons, laws_markByteSS.go, hg]) (Ev.bind (markByteS_f x hxl m h0 (by omega)) ?_)
    dsimp only
    have hset : (pre ++ x :: rest).set pre.length (marksB m x.length) = (pre ++ [marksB m x.length]) ++ rest := by simp
    rw [hset, show pre.length + 1 = (pre ++ [marksB m x.length]).length by simp, show (m : Int) + ((sumLen (x :: rest) : Nat) : Int) = m + x.length + sumLen rest by rw [hs]; push_cast; omega, show pre ++ marksSS m (x :: rest) = (pre ++ [marksB m x.length]) ++ marksSS (m + x.length) rest by simp [marksSS]]
    exact h2
theorem markByteSS_f (l : List (List Int)) (hn : l.length ≤ 1048576) (hx : ∀ x ∈ l, x.length ≤ 1048576) (m : Int) (h0 : 0 ≤ m) (h1 : m + sumLen l ≤ 1000000000000) : Ev (fun k => laws_markByteSS.f k l m) (m + sumLen l, marksSS m l) := by
  unfold laws_markByteSS.f
  refine ev_pos hn ?_
  exact markSS_go l [] m h0 h1 hx
theorem sumLen_le (l : List (List Int)) (n b : Nat) (hn : l.length ≤ n) (hx : ∀ x ∈ l, x.length ≤ b) : sumLen l ≤ n * b := by
  induction l generalizing n with
  | nil => simp [sumLen]
  | cons x l ih =>
    obtain ⟨n, rfl⟩ : ∃ q, n = q + 1 := ⟨n - 1, by simp at hn; omega⟩
    have h1 := ih n (by simp at hn; omega) (fun y hy => hx y (List.mem_cons_of_mem _ hy))
    have h2 := hx x (List.mem_cons_self ..)
    simp only [sumLen, Nat.add_mul, Nat.one_mul]
    omega


theorem markPage_f (lsn : Int) (l : List (List Int)) (hn : l.length ≤ 1048576) (hx : ∀ x ∈ l, x.length ≤ 1048576) (m : Int) (h0 : 0 ≤ m) (h1 : m + sumLen l ≤ 1000000000000) : Ev (fun k => laws_markPage.f k lsn l m) (m + sumLen l, marksSS m l) := by
  unfold laws_markPage.f
  exact markByteSS_f l hn hx m h0 h1

theorem pu_all (lsn : Int) (l : List (List Int)) (h : ¬ puOf lsn l < 0) : ((0 ≤ lsn ∧ lsn ≤ 1000000) ∧ l.length ≤ 16) ∧ (∀ x ∈ l, x.length ≤ 92) ∧ 1 + l.length + sumLen l ≤ 240 := by
  unfold puOf at h
  split at h
  · omega
  · rename_i h1
    split at h
    · omega
    · rename_i h2
      split at h
      · omega
      · refine ⟨Classical.not_not.1 h1, fun x hx => ?_, by omega⟩
        rcases Nat.lt_or_ge 92 x.length with h3 | h3
        · exact absurd ⟨x, hx, h3⟩ h2
        · exact h3
/-- A page's body ahead of its slots' bytes: how many slots, and how long each is. -/
def pgLens (l : List (List Int)) : List Int := l.map fun x => (x.length : Int) % 256
def pgHead (l : List (List Int)) : List Int := ([(l.length : Int) % 256] : List Int) ++ pgLens l
def pgBody (l : List (List Int)) : List Int := (pgHead l ++ l.flatten) ++ List.replicate (240 - (1 + l.length + sumLen l)) 0
theorem flat_length (l : List (List Int)) : l.flatten.length = sumLen l := by
  induction l with
  | nil => rfl
  | cons x l ih => simp only [List.flatten_cons, List.length_append, sumLen, ih]
theorem pgHead_length (l : List (List Int)) : (pgHead l).length = 1 + l.length := by simp [pgHead, pgLens]; omega
theorem pgBody_length (l : List (List Int)) (h : 1 + l.length + sumLen l ≤ 240) : (pgBody l).length = 240 := by
  unfold pgBody
  rw [List.length_append, List.length_append, List.length_replicate, pgHead_length, flat_length]
  omega
/-- The bytes of a page. -/
def pbOf (lsn : Int) (l : List (List Int)) : List Int := if puOf lsn l < 0 then [] else parts 60 (pn lsn 4) (pgBody l) fours
theorem flat_take (l : List (List Int)) (i : Nat) (h : i < l.length) : (l.take (i + 1)).flatten = (l.take i).flatten ++ l[i] := by
  rw [List.take_succ_eq_append_getElem h, List.flatten_append]
  simp
theorem flat_take_le (l : List (List Int)) (i : Nat) : (l.take i).flatten.length ≤ sumLen l := by
  rw [← flat_length]
  have := congrArg List.length (congrArg List.flatten (List.take_append_drop i l))
  rw [List.flatten_append, List.length_append] at this
  omega
theorem impl_PageBytes_l1 (lsn : Int) (l : List (List Int)) (hl : l.length ≤ 16) (hs : 1 + l.length + sumLen l ≤ 240) (hn : lsn ≤ 1000000) (hx : ∀ x ∈ l, x.length ≤ 92) (d : Nat) : ∀ i : Nat, i + d = l.length →
    Ev (fun k => impl_PageBytes.l1 k (pgHead l ++ (l.take i).flatten) l (l.length : Int) (i : Int) lsn l) (parts 60 (pn lsn 4) (pgBody l) fours) := by
  have hL := pn_length lsn 4
  have hh := pgHead_length l
  induction d with
  | zero =>
    intro i hi
    rw [List.take_of_length_le (by omega)]
    have e : (pgHead l ++ l.flatten).length = 1 + l.length + sumLen l := by rw [List.length_append, hh, flat_length]
    have hb := pgBody_length l hs
    have hB : (pgHead l ++ l.flatten) ++ List.replicate (wrap64 (240 - ((pgHead l ++ l.flatten).length : Int)) : Int).toNat 0 = pgBody l := by
      rw [w64 (by omega) (by omega), e]
      unfold pgBody
      congr 2
      omega
    refine Ev.step (f := fun k => (impl_PutNum.f k lsn 4).bind fun t => if 4 * t.length + (pgBody l).length < 140737488355328 then some (parts 60 t (pgBody l) fours) else none) (fun k => ?_) ?_
    · rw [impl_PageBytes.l1, if_neg (by omega), hB, w64 (by omega) (by omega), if_pos (by omega), if_pos (by omega)]
      rfl
    · exact Ev.bind (impl_PutNum_f lsn 4 (by omega)) (ev_pos (by omega) (Ev.now _))
  | succ d ih =>
    intro i hi
    have hr := rdl_nat l i (by omega)
    have hb := hx _ (List.getElem_mem (show i < l.length by omega))
    have hf := flat_take_le l i
    refine Ev.step (fun k => by rw [impl_PageBytes.l1, if_pos (by omega), if_pos (by omega), if_pos (by omega), hr, if_pos (by rw [List.length_append]; omega), w64 (by omega) (by omega), List.append_assoc, ← flat_take l i (by omega)]) ?_
    exact ih (i + 1) (by omega)
theorem lens_take (l : List (List Int)) (i : Nat) (h : i < l.length) : pgLens (l.take (i + 1)) = pgLens (l.take i) ++ [((l[i]).length : Int) % 256] := by
  unfold pgLens
  rw [List.take_succ_eq_append_getElem h, List.map_append]
  rfl
theorem impl_PageBytes_l0 (lsn : Int) (l : List (List Int)) (hl : l.length ≤ 16) (hs : 1 + l.length + sumLen l ≤ 240) (hn : lsn ≤ 1000000) (hx : ∀ x ∈ l, x.length ≤ 92) (d : Nat) : ∀ i : Nat, i + d = l.length →
    Ev (fun k => impl_PageBytes.l0 k (([(l.length : Int) % 256] : List Int) ++ pgLens (l.take i)) l (l.length : Int) (i : Int) lsn l) (parts 60 (pn lsn 4) (pgBody l) fours) := by
  induction d with
  | zero =>
    intro i hi
    rw [List.take_of_length_le (by omega)]
    refine Ev.step (fun k => by rw [impl_PageBytes.l0, if_neg (by omega)]) ?_
    have := impl_PageBytes_l1 lsn l hl hs hn hx l.length 0 (by omega)
    simpa [pgHead] using this
  | succ d ih =>
    intro i hi
    have hr := rdl_nat l i (by omega)
    refine Ev.step (fun k => by rw [impl_PageBytes.l0, if_pos (by omega), if_pos (by omega), if_pos (by omega), hr, if_pos (by simp [pgLens]; omega), w64 (by omega) (by omega), List.append_assoc, ← lens_take l i (by omega)]) ?_
    exact ih (i + 1) (by omega)
theorem impl_PageBytes_f (lsn : Int) (l : List (List Int)) (hn : l.length ≤ 1048576) : Ev (fun k => impl_PageBytes.f k lsn l) (pbOf lsn l) := by
  unfold impl_PageBytes.f pbOf
  refine Ev.bind (impl_PageUsed_f lsn l hn) ?_
  by_cases h : puOf lsn l < 0
  · rw [if_pos h]
    exact ev_pos h (Ev.now _)
  · rw [if_neg h]
    obtain ⟨⟨h1, h2⟩, h3, h4⟩ := pu_all lsn l h
    refine ev_neg h ?_
    have := impl_PageBytes_l0 lsn l h2 h4 h1.2 h3 l.length 0 (by omega)
    simpa [pgLens] using this
theorem fours_take (j : Nat) (h : j < 4) : fours.take (j + 1) = fours.take j ++ [⟨j, h⟩] := by
  have hx : j = 0 ∨ j = 1 ∨ j = 2 ∨ j = 3 := by omega
  rcases hx with rfl | rfl | rfl | rfl <;> rfl
theorem spec_PageBytes_l3 (lsn : Int) (l : List (List Int)) (B : List Int) (hB : B.length = 240) (hn : lsn ≤ 1000000) (d : Nat) : ∀ j : Nat, j + d = 4 →
    Ev (fun k => spec_PageBytes.l3 k B (parts 60 (pn lsn 4) B (fours.take j)) ((60 * j : Nat) : Int) lsn l) (parts 60 (pn lsn 4) B fours) := by
  have hL := pn_length lsn 4
  induction d with
  | zero =>
    intro j hj
    obtain rfl : j = 4 := by omega
    exact Ev.step (fun k => by rw [spec_PageBytes.l3, if_neg (by omega)]; rfl) (Ev.now _)
  | succ d ih =>
    intro j hj
    have hp := parts_len 60 (pn lsn 4) B (fours.take j)
    have hp2 : (fours.take j).length * ((pn lsn 4).length + 60) ≤ 4 * (12 + 60) := Nat.mul_le_mul (by rw [List.length_take]; exact Nat.le_trans (Nat.min_le_left _ _) (by omega)) (by omega)
    have e : (B.take (wrap64 (((60 * j : Nat) : Int) + 60) : Int).toNat).drop (((60 * j : Nat) : Int)).toNat = (B.drop (60 * j)).take 60 := by
      rw [w64 (by omega) (by omega), List.drop_take]
      congr 1
      omega
    have hl : ((B.drop (60 * j)).take 60).length ≤ 60 := by rw [List.length_take]; exact Nat.min_le_left _ _
    refine Ev.step (fun k => by rw [spec_PageBytes.l3, if_pos (by omega)]) ?_
    refine Ev.bind (spec_PutNum_f lsn 4 (by omega)) ?_
    refine ev_pos (by omega) ?_
    refine ev_bind0 rfl ?_
    refine ev_pos (by omega) (ev_pos (by rw [w64 (by omega) (by omega)]; omega) (ev_pos (by rw [w64 (by omega) (by omega)]; omega) ?_))
    rw [e]
    refine ev_bind0 rfl ?_
    refine ev_pos (by rw [List.length_append]; omega) ?_
    have := ih (j + 1) (by omega)
    rw [fours_take j (by omega), parts_snoc] at this
    rw [w64 (by omega) (by omega)]
    simpa [Nat.mul_succ] using this
theorem spec_PageBytes_l2 (lsn : Int) (l : List (List Int)) (hs : 1 + l.length + sumLen l ≤ 240) (hn : lsn ≤ 1000000) (d : Nat) : ∀ n : Nat, n + d = 240 - (1 + l.length + sumLen l) →
    Ev (fun k => spec_PageBytes.l2 k ((pgHead l ++ l.flatten) ++ List.replicate n 0) lsn l) (parts 60 (pn lsn 4) (pgBody l) fours) := by
  have e : ∀ n, ((pgHead l ++ l.flatten) ++ List.replicate n (0 : Int)).length = 1 + l.length + sumLen l + n := by intro n; rw [List.length_append, List.length_append, pgHead_length, flat_length, List.length_replicate]
  induction d with
  | zero =>
    intro n hd
    have hB : (pgHead l ++ l.flatten) ++ List.replicate n (0 : Int) = pgBody l := by unfold pgBody; rw [show n = 240 - (1 + l.length + sumLen l) by omega]
    have hb := pgBody_length l hs
    rw [hB]
    refine Ev.step (f := fun k => spec_PageBytes.l3 k (pgBody l) [] 0 lsn l) (fun k => by unfold spec_PageBytes.l2; exact if_neg (by omega)) ?_
    have := spec_PageBytes_l3 lsn l (pgBody l) hb hn 4 0 (by omega)
    simpa [parts] using this
  | succ d ih =>
    intro n hd
    have e2 := e n
    refine Ev.step (f := fun k => spec_PageBytes.l2 k ((pgHead l ++ l.flatten) ++ List.replicate (n + 1) 0) lsn l) (fun k => ?_) (ih (n + 1) (by omega))
    conv => lhs; unfold spec_PageBytes.l2
    refine (if_pos (by omega)).trans ((if_pos (by omega)).trans ?_)
    rw [List.append_assoc, ← List.replicate_succ']
theorem spec_PageBytes_l1 (lsn : Int) (l : List (List Int)) (hl : l.length ≤ 16) (hs : 1 + l.length + sumLen l ≤ 240) (hn : lsn ≤ 1000000) (hx : ∀ x ∈ l, x.length ≤ 92) (d : Nat) : ∀ i : Nat, i + d = l.length →
    Ev (fun k => spec_PageBytes.l1 k (pgHead l ++ (l.take i).flatten) (i : Int) lsn l) (parts 60 (pn lsn 4) (pgBody l) fours) := by
  have hh := pgHead_length l
  induction d with
  | zero =>
    intro i hi
    rw [List.take_of_length_le (by omega)]
    refine Ev.step (fun k => by rw [spec_PageBytes.l1, if_neg (by omega)]) ?_
    have := spec_PageBytes_l2 lsn l hs hn (240 - (1 + l.length + sumLen l)) 0 (by omega)
    simpa using this
  | succ d ih =>
    intro i hi
    have hr := rdl_nat l i (by omega)
    have hb := hx _ (List.getElem_mem (show i < l.length by omega))
    have hf := flat_take_le l i
    refine Ev.step (fun k => by rw [spec_PageBytes.l1, if_pos (by omega), if_pos (by omega), hr, if_pos (by rw [List.length_append]; omega), w64 (by omega) (by omega), List.append_assoc, ← flat_take l i (by omega)]) ?_
    exact ih (i + 1) (by omega)
theorem spec_PageBytes_l0 (lsn : Int) (l : List (List Int)) (hl : l.length ≤ 16) (hs : 1 + l.length + sumLen l ≤ 240) (hn : lsn ≤ 1000000) (hx : ∀ x ∈ l, x.length ≤ 92) (d : Nat) : ∀ i : Nat, i + d = l.length →
    Ev (fun k => spec_PageBytes.l0 k (([(l.length : Int) % 256] : List Int) ++ pgLens (l.take i)) (i : Int) lsn l) (parts 60 (pn lsn 4) (pgBody l) fours) := by
  induction d with
  | zero =>
    intro i hi
    rw [List.take_of_length_le (by omega)]
    refine Ev.step (fun k => by rw [spec_PageBytes.l0, if_neg (by omega)]) ?_
    have := spec_PageBytes_l1 lsn l hl hs hn hx l.length 0 (by omega)
    simpa [pgHead] using this
  | succ d ih =>
    intro i hi
    have hr := rdl_nat l i (by omega)
    refine Ev.step (fun k => by rw [spec_PageBytes.l0, if_pos (by omega), if_pos (by omega), hr, if_pos (by simp [pgLens]; omega), w64 (by omega) (by omega), List.append_assoc, ← lens_take l i (by omega)]) ?_
    exact ih (i + 1) (by omega)
theorem spec_PageBytes_f (lsn : Int) (l : List (List Int)) (hn : l.length ≤ 1048576) : Ev (fun k => spec_PageBytes.f k lsn l) (pbOf lsn l) := by
  unfold spec_PageBytes.f pbOf
  refine Ev.bind (spec_PageUsed_f lsn l hn) ?_
  by_cases h : puOf lsn l < 0
  · rw [if_pos h]
    exact ev_pos h (Ev.now _)
  · rw [if_neg h]
    obtain ⟨⟨h1, h2⟩, h3, h4⟩ := pu_all lsn l h
    refine ev_neg h ?_
    have := spec_PageBytes_l0 lsn l h2 h4 h1.2 h3 l.length 0 (by omega)
    simpa [pgLens] using this
theorem pbOf_length (lsn : Int) (l : List (List Int)) : (pbOf lsn l).length ≤ 1000 := by
  unfold pbOf
  split
  · simp
  · have h1 := parts_len 60 (pn lsn 4) (pgBody l) fours
    have h2 := pn_length lsn 4
    have h3 : fours.length * ((pn lsn 4).length + 60) ≤ 4 * (12 + 60) := Nat.mul_le_mul (by decide) (by omega)
    omega


/-- The pure statement. -/
def Stmt : Prop := ∀ (a0_0 : Int) (l0_1 : List (List Int)), ((fun n => (Lit.int .i64 n).wf = true) a0_0) → ((fun xs => xs.length ≤ 9223372036854775807 ∧ ∀ x ∈ xs, (fun xs => xs.length ≤ 9223372036854775807 ∧ ∀ x ∈ xs, (fun n => (Lit.int .u8 n).wf = true) x) x) l0_1) → laws_FnExactPageBytes.H a0_0 l0_1
theorem main : Stmt := by
  intro lsn l w0 ⟨hl, hw⟩
  have hx : ∀ x ∈ l, x.length ≤ 9223372036854775807 := fun x h => (hw x h).1
  unfold laws_FnExactPageBytes.H
  obtain ⟨k1, h1⟩ := Ev.rounds (szPage_f lsn l hl hx 1048576 (by omega) (by omega))
  refine ⟨k1, _, h1, ?_⟩
  by_cases h : (1048576 : Int) < (l.length : Int) + sumLen l
  · rw [if_pos h]
    exact Or.inl (by omega)
  rw [if_neg h]
  refine Or.inr ⟨by omega, ?_⟩
  have hn : l.length ≤ 1048576 := by omega
  have hx2 : ∀ x ∈ l, x.length ≤ 1048576 := fun x hxl => by have := sumLen_mem hxl; omega
  have hs := pbOf_length lsn l
  obtain ⟨k2, h2⟩ := Ev.rounds (toPage_f lsn l hn hx2)
  obtain ⟨k3, h3⟩ := Ev.rounds (spec_PageBytes_f lsn l hn)
  obtain ⟨k4, h4⟩ := Ev.rounds (impl_PageBytes_f lsn l hn)
  obtain ⟨k5, h5⟩ := Ev.rounds (eqByteS_same (pbOf lsn l) (by omega))
  obtain ⟨k6, h6⟩ := Ev.rounds (eqPage_same lsn l hn hx2)
  obtain ⟨k7, h7⟩ := Ev.rounds (markPage_f lsn l hn hx2 1 (by omega) (by omega))
  obtain ⟨k8, h8⟩ := Ev.rounds (markByteS_f (pbOf lsn l) (by omega) 1 (by omega) (by omega))
  obtain ⟨k9, h9⟩ := Ev.rounds (heldByteS_f (pbOf lsn l).length (by omega) 1 (by omega) (by omega))
  exact ⟨k2, _, _, h2, k3, _, h3, k2, _, _, h2, k4, h4, k5, h5, k2, _, _, h2, k6, h6, k7, _, _, h7, by omega, k5, h5, k8, _, _, h8, by omega, k9, h9, k2, _, _, h2, k4, h4, k5, h5, k9, h9, trivial⟩

end Go.Proofs.Ytokpniagnbaflaa.Pure.ofFnExactPageBytes
namespace Go.Proofs.Ytokpniagnbaflaa.PrintWords
/-- The word that the printed row asks for, under the name by which it asks. -/
abbrev sized_ints := @Go.Proofs.YtokpniagnbaflaaW.PrintWords.sized_ints
end Go.Proofs.Ytokpniagnbaflaa.PrintWords
namespace Go.Proofs.Ytokpniagnbaflaa.Pure
open Go.Proofs.Ytokpniagnbaflaa.PFnExactPageBytes
theorem FnExactPageBytes : ofFnExactPageBytes.Stmt := ofFnExactPageBytes.main
end Go.Proofs.Ytokpniagnbaflaa.Pure

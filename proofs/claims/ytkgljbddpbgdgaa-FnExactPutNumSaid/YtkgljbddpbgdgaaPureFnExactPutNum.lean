/-
The law FnExactPutNum answers true: for every number and size the program's PutNum gives the reference's bytes, in new memory each time.
Conditions: none beyond the bounds of the statement itself.
-/
import Derived.Test.YtkgljbddpbgdgaaPFnExactPutNumx2
set_option linter.unusedVariables false
set_option linter.unusedSimpArgs false
namespace Go.Proofs.Ytkgljbddpbgdgaa.Pure.ofFnExactPutNum
open Go.RowKit Go.Proofs.Ytkgljbddpbgdgaa.PFnExactPutNum Go.Proofs.YtkgljbddpbgdgaaW.PrintWords Go.Proofs.YtkgljbddpbgdgaaW.PrintLast Go.Proofs.YtkgljbddpbgdgaaW.PrintMore

theorem ev_pos {α : Type} {c : Prop} [Decidable c] {A B : Nat → Option α} {r : α} (hc : c) (h : Ev A r) : Ev (fun k => if c then A k else B k) r := by
  refine Ev.congr (fun k => ?_) h
  rw [if_pos hc]
theorem ev_neg {α : Type} {c : Prop} [Decidable c] {A B : Nat → Option α} {r : α} (hc : ¬ c) (h : Ev B r) : Ev (fun k => if c then A k else B k) r := by
  refine Ev.congr (fun k => ?_) h
  rw [if_neg hc]
theorem ev_bind0 {α β : Type} {g : Option α} {f : Nat → α → Option β} {a : α} {r : β} (h : g = some a) (k : Ev (fun n => f n a) r) : Ev (fun n => g.bind (f n)) r := by
  refine Ev.congr (fun n => ?_) k
  rw [h]; rfl
theorem w64 {x : Int} (h0 : -9223372036854775808 ≤ x) (h1 : x ≤ 9223372036854775807) : wrap64 x = x := by
  unfold wrap64; omega
theorem rd_cons (x : Int) (l : List Int) : rd (x :: l) 0 = x := rfl
theorem rd_nat (l : List Int) (i : Nat) (h : i < l.length) : rd l (i : Int) = l[i] := by
  simp [rd, List.getD_eq_getElem?_getD, List.getElem?_eq_getElem h]
theorem rd_at (l : List Int) (i : Int) (h0 : 0 ≤ i) (h : i < l.length) : ∃ x, x ∈ l ∧ rd l i = x := by
  obtain ⟨n, rfl⟩ := Int.eq_ofNat_of_zero_le h0
  exact ⟨l[n]'(by omega), List.getElem_mem _, rd_nat l n (by omega)⟩
def marks (m : Int) : Nat → List Int
  | 0 => []
  | n + 1 => m :: marks (m + 1) n
def marksB (m : Int) : Nat → List Int
  | 0 => []
  | n + 1 => (m % 256) :: marksB (m + 1) n
theorem marks_length (n : Nat) : ∀ m, (marks m n).length = n := by
  induction n with
  | zero => intro m; rfl
  | succ n ih => intro m; simp [marks, ih]
theorem marksB_length (n : Nat) : ∀ m, (marksB m n).length = n := by
  induction n with
  | zero => intro m; rfl
  | succ n ih => intro m; simp [marksB, ih]
theorem marks_get (n : Nat) : ∀ m (i : Nat) (h : i < (marks m n).length), (marks m n)[i] = m + i := by
  induction n with
  | zero => intro m i h; simp [marks] at h
  | succ n ih =>
    intro m i h
    cases i with
    | zero => simp [marks]
    | succ i => simp only [marks, List.getElem_cons_succ]; rw [ih]; push_cast; omega
theorem marksB_get (n : Nat) : ∀ m (i : Nat) (h : i < (marksB m n).length), (marksB m n)[i] = (m + i) % 256 := by
  induction n with
  | zero => intro m i h; simp [marksB] at h
  | succ n ih =>
    intro m i h
    cases i with
    | zero => simp [marksB]
    | succ i => simp only [marksB, List.getElem_cons_succ]; rw [ih]; push_cast; omega

theorem impl_within_f (a b c : Int) : impl_within.f a b c = some (decide (b ≤ a ∧ a ≤ c)) := by
  unfold impl_within.f
  by_cases h : b ≤ a <;> simp [h]

/-- a number as d bytes, low first -/
def le (n : Int) : Nat → List Int
  | 0 => []
  | d + 1 => (n % 256) :: le (n / 256) d
theorem le_length (d : Nat) : ∀ n, (le n d).length = d := by
  induction d with
  | zero => intro n; rfl
  | succ d ih => intro n; simp [le, ih]
theorem le_bytes (d : Nat) : ∀ n, ∀ x ∈ le n d, 0 ≤ x ∧ x ≤ 255 := by
  induction d with
  | zero => intro n x hx; simp [le] at hx
  | succ d ih =>
    intro n x hx
    simp only [le, List.mem_cons] at hx
    rcases hx with rfl | hx
    · omega
    · exact ih _ x hx
def PnOk (n size : Int) : Prop := (1 ≤ size ∧ size ≤ 8) ∧ 0 ≤ n ∧ n / 256 ^ size.toNat = 0
instance (n size : Int) : Decidable (PnOk n size) := by unfold PnOk; infer_instance
def pn (n size : Int) : List Int := if PnOk n size then le n size.toNat else []
theorem pow256 (d : Nat) (n : Int) : n / 256 / 256 ^ d = n / 256 ^ (d + 1) := by
  rw [Int.pow_succ, Int.mul_comm, Int.ediv_ediv_of_nonneg (by decide)]
theorem spec_PutNum_l (size : Int) (hs : size ≤ 8) (d : Nat) : ∀ (n i : Int) (out : List Int), 0 ≤ n → n ≤ 9223372036854775807 → 0 ≤ i → i + d = size → out.length ≤ 100 - d →
    Ev (fun k => spec_PutNum.l0 k n size out i) (if n / 256 ^ d > 0 then [] else out ++ le n d) := by
  induction d with
  | zero =>
    intro n i out h0 h1 hi he ho
    refine Ev.step (f := fun _ => some (if n / 256 ^ 0 > 0 then [] else out ++ le n 0)) (fun k => ?_) (Ev.now _)
    simp only [spec_PutNum.l0]
    rw [if_neg (by omega)]
    by_cases hn : n > 0
    · rw [if_pos hn, if_pos (by simpa using hn)]
    · rw [if_neg hn, if_neg (by simpa using hn)]
      simp [le]
  | succ d ih =>
    intro n i out h0 h1 hi he ho
    have hq : Int.tdiv n 256 = n / 256 := Int.tdiv_eq_ediv_of_nonneg h0
    have hm : Int.tmod n 256 = n % 256 := Int.tmod_eq_emod_of_nonneg h0
    have := ih (n / 256) (i + 1) (out ++ [n % 256]) (by omega) (by omega) (by omega) (by omega) (by simp; omega)
    rw [pow256] at this
    simp only [List.append_assoc, List.cons_append, List.nil_append] at this
    refine Ev.step (fun k => ?_) this
    simp only [spec_PutNum.l0]
    rw [if_pos (by omega), if_pos (by omega), hq, hm, w64 (by omega) (by omega), w64 (by omega) (by omega), show n % 256 % 256 = n % 256 by omega]
theorem impl_PutNum_l (size : Int) (hs : size ≤ 8) (d : Nat) : ∀ (n i : Int) (out : List Int), 0 ≤ i → i + d = size → out.length ≤ 100 - d →
    Ev (fun k => impl_PutNum.l0 k n out size i) (out ++ le n d) := by
  induction d with
  | zero =>
    intro n i out hi he ho
    refine Ev.step (f := fun _ => some (out ++ le n 0)) (fun k => ?_) (Ev.now _)
    simp only [impl_PutNum.l0]
    rw [if_neg (by omega)]
    simp [le]
  | succ d ih =>
    intro n i out hi he ho
    have := ih (n / 256) (i + 1) (out ++ [n % 256]) (by omega) (by omega) (by simp; omega)
    simp only [List.append_assoc, List.cons_append, List.nil_append] at this
    refine Ev.step (fun k => ?_) this
    simp only [impl_PutNum.l0]
    rw [if_pos (by omega), if_pos (by omega), w64 (by omega) (by omega)]
theorem pn_off (n size : Int) (h : ¬ PnOk n size) : pn n size = [] := by rw [pn, if_neg h]
theorem div_small (n : Int) (d : Nat) (h0 : 0 ≤ n) : ¬ n / 256 ^ d > 0 ↔ n / 256 ^ d = 0 := by
  have : 0 ≤ n / 256 ^ d := Int.ediv_nonneg h0 (Int.le_of_lt (Int.pow_pos (by decide)))
  omega
theorem spec_PutNum_f (n size : Int) (h1 : n ≤ 9223372036854775807) : Ev (fun k => spec_PutNum.f k n size) (pn n size) := by
  unfold spec_PutNum.f
  by_cases s1 : size < 1
  · refine ev_pos s1 (Ev.step (f := fun _ => some []) (fun k => by simp only [spec_PutNum.j0, if_true]) ?_)
    rw [pn_off n size (fun h => by have := h.1; omega)]
    exact Ev.now _
  refine ev_neg s1 ?_
  by_cases s2 : size > 8
  · refine ev_pos s2 (Ev.step (f := fun _ => some []) (fun k => by simp only [spec_PutNum.j0, if_true]) ?_)
    rw [pn_off n size (fun h => by have := h.1; omega)]
    exact Ev.now _
  refine ev_neg s2 ?_
  by_cases s3 : n < 0
  · refine Ev.step (f := fun _ => some []) (fun k => by simp only [spec_PutNum.j0]; rw [if_pos (decide_eq_true s3)]) ?_
    rw [pn_off n size (fun h => by have := h.2.1; omega)]
    exact Ev.now _
  refine Ev.step (f := fun k => spec_PutNum.l0 k n size [] 0) (fun k => by simp only [spec_PutNum.j0]; rw [if_neg (by simpa using s3)]) ?_
  have := spec_PutNum_l size (by omega) size.toNat n 0 [] (by omega) h1 (by omega) (by omega) (by simp)
  by_cases hz : n / 256 ^ size.toNat > 0
  · rw [if_pos hz] at this
    rw [pn_off n size (fun h => by have := h.2.2; omega)]
    exact this
  · rw [if_neg hz] at this
    rw [pn, if_pos ⟨⟨by omega, by omega⟩, by omega, (div_small n _ (by omega)).1 hz⟩]
    exact this
theorem shr_pow (n size : Int) (h1 : 1 ≤ size) (h2 : size < 8) : shr .i64 n (wrap64 (8 * size)) = n / 256 ^ size.toNat := by
  rw [w64 (by omega) (by omega)]
  unfold shr
  rw [Nat.min_eq_left (by simp [IntKind.bits]; omega)]
  obtain ⟨m, rfl⟩ := Int.eq_ofNat_of_zero_le (show 0 ≤ size by omega)
  have : (8 * (m : Int)).toNat = 8 * m := by omega
  rw [this, Int.toNat_natCast, Int.pow_mul]
  rfl
theorem impl_PutNum_f (n size : Int) (h1 : n ≤ 9223372036854775807) : Ev (fun k => impl_PutNum.f k n size) (pn n size) := by
  unfold impl_PutNum.f
  refine ev_bind0 (impl_within_f _ _ _) ?_
  by_cases s1 : 1 ≤ size ∧ size ≤ 8
  · refine ev_pos (decide_eq_true s1) ?_
    by_cases s2 : n < 0
    · refine ev_pos s2 (Ev.step (f := fun _ => some []) (fun k => by simp only [impl_PutNum.j0, if_true]) ?_)
      rw [pn_off n size (fun h => by have := h.2.1; omega)]
      exact Ev.now _
    refine ev_neg s2 ?_
    have hl := impl_PutNum_l size (by omega) size.toNat n 0 [] (by omega) (by omega) (by simp)
    by_cases s3 : size < 8
    · refine ev_pos s3 (ev_pos (by rw [w64 (by omega) (by omega)]; omega) ?_)
      rw [shr_pow n size s1.1 s3]
      by_cases hz : n / 256 ^ size.toNat = 0
      · refine Ev.step (f := fun k => impl_PutNum.l0 k n [] size 0) (fun k => by simp only [impl_PutNum.j0]; rw [if_neg (by simp [hz])]) ?_
        rw [pn, if_pos ⟨s1, by omega, hz⟩]
        exact hl
      · refine Ev.step (f := fun _ => some []) (fun k => by simp only [impl_PutNum.j0]; rw [if_pos (by simp [hz])]) ?_
        rw [pn_off n size (fun h => hz h.2.2)]
        exact Ev.now _
    · refine ev_neg s3 ?_
      obtain rfl : size = 8 := by omega
      refine Ev.step (f := fun k => impl_PutNum.l0 k n [] 8 0) (fun k => by simp only [impl_PutNum.j0, Bool.false_eq_true, if_false]) ?_
      have hz : n / 256 ^ (8 : Int).toNat = 0 := by
        have : (256 : Int) ^ (8 : Int).toNat = 18446744073709551616 := by decide
        rw [this]; omega
      rw [pn, if_pos ⟨s1, by omega, hz⟩]
      exact hl
  · refine ev_neg (by simpa using s1) (Ev.step (f := fun _ => some []) (fun k => by simp only [impl_PutNum.j0, if_true]) ?_)
    rw [pn_off n size (fun h => s1 h.1)]
    exact Ev.now _
theorem pn_length (n size : Int) : (pn n size).length ≤ 8 := by
  unfold pn
  split
  · rename_i h
    rw [le_length]
    have := h.1
    omega
  · simp

theorem eqByteS_l (a b : List Int) (hn : a.length ≤ 1048576) (hab : a.length = b.length) (d : Nat) : ∀ (i : Nat), i + d = a.length → (∀ j, j < i → a[j]? = b[j]?) → Ev (fun k => laws_eqByteS.l0 k a b (i : Int)) (decide (a = b)) := by
  induction d with
  | zero =>
    intro i hi hj
    refine Ev.step (f := fun _ => some true) (fun k => ?_) ?_
    · simp only [laws_eqByteS.l0]
      rw [if_neg (by omega)]
    · have : a = b := by
        refine List.ext_getElem? fun j => ?_
        by_cases h : j < i
        · exact hj j h
        · rw [List.getElem?_eq_none (by omega), List.getElem?_eq_none (by omega)]
      rw [decide_eq_true this]
      exact Ev.now _
  | succ d ih =>
    intro i hi hj
    have ha : rd a (i : Int) = a[i]'(by omega) := rd_nat a i (by omega)
    have hb : rd b (i : Int) = b[i]'(by omega) := rd_nat b i (by omega)
    by_cases he : rd a (i : Int) = rd b (i : Int)
    · refine Ev.step (f := fun k => laws_eqByteS.l0 k a b ((i + 1 : Nat) : Int)) (fun k => ?_) (ih (i + 1) (by omega) ?_)
      · simp only [laws_eqByteS.l0]
        rw [if_pos (by omega), if_pos (by omega), if_pos (by omega), if_pos he, w64 (by omega) (by omega)]
        simp
      · intro j hlt
        by_cases h : j = i
        · subst h
          rw [List.getElem?_eq_getElem (by omega), List.getElem?_eq_getElem (by omega), ← ha, ← hb, he]
        · exact hj j (by omega)
    · refine Ev.step (f := fun _ => some false) (fun k => ?_) ?_
      · simp only [laws_eqByteS.l0]
        rw [if_pos (by omega), if_pos (by omega), if_pos (by omega), if_neg he]
      · have : ¬ a = b := by
          rintro rfl
          exact he rfl
        rw [decide_eq_false this]
        exact Ev.now _
theorem eqByteS_f (a b : List Int) (hn : a.length ≤ 1048576) : Ev (fun k => laws_eqByteS.f k a b) (decide (a = b)) := by
  unfold laws_eqByteS.f
  by_cases h : a.length = b.length
  · refine ev_pos (by omega) ?_
    exact eqByteS_l a b hn h a.length 0 (by omega) (by intro j h; omega)
  · refine ev_neg (by omega) ?_
    rw [decide_eq_false (by rintro rfl; exact h rfl)]
    exact Ev.now _
theorem eqByteS_same (a : List Int) (hn : a.length ≤ 1048576) : Ev (fun k => laws_eqByteS.f k a a) true := by
  have := eqByteS_f a a hn
  rwa [decide_eq_true rfl] at this

theorem markByteS_l (a : List Int) (hn : a.length ≤ 1048576) (m0 : Int) (h0 : 0 ≤ m0) (h1 : m0 ≤ 1000000000000) (d : Nat) : ∀ (i : Nat) (y : List Int), i + d = a.length → y.length = a.length → (∀ j, j < i → y[j]? = (marksB m0 a.length)[j]?) → Ev (fun k => laws_markByteS.l0 k y (m0 + i) (i : Int)) (m0 + a.length, marksB m0 a.length) := by
  have hml := marksB_length a.length m0
  induction d with
  | zero =>
    intro i y hi hy hj
    refine Ev.step (f := fun _ => some (m0 + a.length, marksB m0 a.length)) (fun k => ?_) (Ev.now _)
    simp only [laws_markByteS.l0]
    rw [if_neg (by omega)]
    have hy2 : y = marksB m0 a.length := by
      refine List.ext_getElem? fun j => ?_
      by_cases h : j < i
      · exact hj j h
      · rw [List.getElem?_eq_none (by omega), List.getElem?_eq_none (by omega)]
    rw [hy2, show (i : Int) = a.length by omega]
  | succ d ih =>
    intro i y hi hy hj
    refine Ev.step (f := fun k => laws_markByteS.l0 k (y.set i ((m0+i)%256)) (m0 + (i + 1 : Nat)) ((i + 1 : Nat) : Int)) (fun k => ?_) (ih (i + 1) _ (by omega) (by simp [hy]) ?_)
    · simp only [laws_markByteS.l0]
      rw [if_pos (by omega), if_pos (by omega), w64 (by omega) (by omega), w64 (by omega) (by omega)]
      simp [Int.add_assoc]
    · intro j hlt
      by_cases h : j = i
      · subst h
        rw [List.getElem?_set_self (by omega), List.getElem?_eq_getElem (by omega), marksB_get]
      · rw [List.getElem?_set_ne (by omega)]
        exact hj j (by omega)
theorem markByteS_f (a : List Int) (hn : a.length ≤ 1048576) (m : Int) (h0 : 0 ≤ m) (h1 : m ≤ 1000000000000) : Ev (fun k => laws_markByteS.f k a m) (m + a.length, marksB m a.length) := by
  unfold laws_markByteS.f
  have := markByteS_l a hn m h0 h1 a.length 0 a (by omega) rfl (by intro j h; omega)
  simpa using this

theorem heldByteS_l (n : Nat) (hn : n ≤ 1048576) (m0 : Int) (h0 : 0 ≤ m0) (h1 : m0 ≤ 1000000000000) (d : Nat) : ∀ (i : Nat), i + d = n → Ev (fun k => laws_heldByteS.l0 k (marksB m0 n) (m0 + i) (i : Int)) (m0 + n) := by
  have hml := marksB_length n m0
  induction d with
  | zero =>
    intro i hi
    refine Ev.step (f := fun _ => some (m0 + n)) (fun k => ?_) (Ev.now _)
    simp only [laws_heldByteS.l0]
    rw [if_neg (by omega), show (i : Int) = n by omega]
  | succ d ih =>
    intro i hi
    refine Ev.step (f := fun k => laws_heldByteS.l0 k (marksB m0 n) (m0 + (i + 1 : Nat)) ((i + 1 : Nat) : Int)) (fun k => ?_) (ih (i + 1) (by omega))
    simp only [laws_heldByteS.l0]
    rw [if_pos (by omega), if_pos (by omega), if_pos (by rw [rd_nat _ i (by omega), marksB_get]), w64 (by omega) (by omega), w64 (by omega) (by omega)]
    simp [Int.add_assoc]
theorem heldByteS_f (n : Nat) (hn : n ≤ 1048576) (m : Int) (h0 : 0 ≤ m) (h1 : m ≤ 1000000000000) : Ev (fun k => laws_heldByteS.f k (marksB m n) m) (m + n) := by
  unfold laws_heldByteS.f
  have := heldByteS_l n hn m h0 h1 n 0 (by omega)
  simpa using this

theorem main : laws_FnExactPutNum.Pure := by
  intro n size wn ws
  have hp : -9223372036854775808 ≤ n ∧ n ≤ 9223372036854775807 := by simpa [Lit.wf, IntKind.min, IntKind.max, IntKind.signed, IntKind.bits] using wn
  have hL := pn_length n size
  refine Ev.rounds ?_
  unfold laws_FnExactPutNum.f
  refine Ev.bind (spec_PutNum_f n size hp.2) ?_
  refine Ev.bind (impl_PutNum_f n size hp.2) ?_
  refine Ev.bind (eqByteS_same _ (by omega)) (ev_pos rfl ?_)
  refine Ev.bind (markByteS_f _ (by omega) 1 (by omega) (by omega)) ?_
  refine Ev.bind (heldByteS_f _ (by omega) 1 (by omega) (by omega)) ?_
  refine ev_neg (by omega) (ev_pos rfl ?_)
  refine Ev.bind (impl_PutNum_f n size hp.2) ?_
  refine Ev.bind (eqByteS_same _ (by omega)) (ev_pos rfl ?_)
  refine Ev.bind (heldByteS_f _ (by omega) 1 (by omega) (by omega)) ?_
  exact ev_neg (by omega) (ev_pos rfl (Ev.now _))

end Go.Proofs.Ytkgljbddpbgdgaa.Pure.ofFnExactPutNum
namespace Go.Proofs.Ytkgljbddpbgdgaa.Pure
open Go.Proofs.Ytkgljbddpbgdgaa.PFnExactPutNum
theorem FnExactPutNum : laws_FnExactPutNum.Pure := ofFnExactPutNum.main
end Go.Proofs.Ytkgljbddpbgdgaa.Pure

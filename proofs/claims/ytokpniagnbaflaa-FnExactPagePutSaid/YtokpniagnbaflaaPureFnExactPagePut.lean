/-
The law FnExactPagePut answers true: for every page, slot, bytes and number the program's PagePut gives the reference's page, in memory of its own, and the page and the bytes stay as they were.
Conditions: none beyond the bounds of the statement itself.
-/
import Derived.Test.YtokpniagnbaflaaPFnExactPagePutx7
import Derived.Test.YtokpniagnbaflaaWSized
set_option linter.unusedVariables false
set_option linter.unusedSimpArgs false
namespace Go.Proofs.Ytokpniagnbaflaa.Pure.ofFnExactPagePut
open Go.RowKit Go.Proofs.Ytokpniagnbaflaa.PFnExactPagePut Go.Proofs.YtokpniagnbaflaaW.PrintWords Go.Proofs.YtokpniagnbaflaaW.PrintLast Go.Proofs.YtokpniagnbaflaaW.PrintMore

theorem ev_pos {α : Type} {c : Prop} [Decidable c] {A B : Nat → Option α} {r : α} (hc : c) (h : Ev A r) : Ev (fun k => if c then A k else B k) r := by
  refine Ev.congr (fun k => ?_) h
  rw [if_pos hc]
theorem ev_neg {α : Type} {c : Prop} [Decidable c] {A B : Nat → Option α} {r : α} (hc : ¬ c) (h : Ev B r) : Ev (fun k => if c then A k else B k) r := by
  refine Ev.congr (fun k => ?_) h
  rw [if_neg hc]
theorem ev_bind0 {α β : Type} {g : Option α} {f : Nat → α → Option β} {a : α} {r : β} (h : g = some a) (k : Ev (fun n => f n a) r) : Ev (fun n => g.bind (f n)) r := by
  refine Ev.congr (fun n => ?_) k
  rw [h]; rfl
theorem w64 {x : Int} (h0 : -9223372036854775808 ≤ x) (h1 : x ≤ 9223372036854775807) : wrap64 x = x := by
  unfold wrap64; omega
theorem rd_cons (x : Int) (l : List Int) : rd (x :: l) 0 = x := rfl
theorem rd_nat (l : List Int) (i : Nat) (h : i < l.length) : rd l (i : Int) = l[i] := by
  simp [rd, List.getD_eq_getElem?_getD, List.getElem?_eq_getElem h]
theorem rd_at (l : List Int) (i : Int) (h0 : 0 ≤ i) (h : i < l.length) : ∃ x, x ∈ l ∧ rd l i = x := by
  obtain ⟨n, rfl⟩ := Int.eq_ofNat_of_zero_le h0
  exact ⟨l[n]'(by omega), List.getElem_mem _, rd_nat l n (by omega)⟩
def marks (m : Int) : Nat → List Int
  | 0 => []
  | n + 1 => m :: marks (m + 1) n
def marksB (m : Int) : Nat → List Int
  | 0 => []
  | n + 1 => (m % 256) :: marksB (m + 1) n
theorem marks_length (n : Nat) : ∀ m, (marks m n).length = n := by
  induction n with
  | zero => intro m; rfl
  | succ n ih => intro m; simp [marks, ih]
theorem marksB_length (n : Nat) : ∀ m, (marksB m n).length = n := by
  induction n with
  | zero => intro m; rfl
  | succ n ih => intro m; simp [marksB, ih]
theorem marks_get (n : Nat) : ∀ m (i : Nat) (h : i < (marks m n).length), (marks m n)[i] = m + i := by
  induction n with
  | zero => intro m i h; simp [marks] at h
  | succ n ih =>
    intro m i h
    cases i with
    | zero => simp [marks]
    | succ i => simp only [marks, List.getElem_cons_succ]; rw [ih]; push_cast; omega
theorem marksB_get (n : Nat) : ∀ m (i : Nat) (h : i < (marksB m n).length), (marksB m n)[i] = (m + i) % 256 := by
  induction n with
  | zero => intro m i h; simp [marksB] at h
  | succ n ih =>
    intro m i h
    cases i with
    | zero => simp [marksB]
    | succ i => simp only [marksB, List.getElem_cons_succ]; rw [ih]; push_cast; omega

theorem impl_within_f (a b c : Int) : impl_within.f a b c = some (decide (b ≤ a ∧ a ≤ c)) := by
  unfold impl_within.f
  by_cases h : b ≤ a <;> simp [h]

theorem spec_l5in_f (a b c : Int) : spec_l5in.f a b c = some (decide (b ≤ a ∧ a ≤ c)) := by
  unfold spec_l5in.f
  by_cases h : b ≤ a <;> simp [h]

theorem cloneByte_f (l : List Int) (hn : l.length ≤ 1048576) : slices_Clone_byte_byte.f l = some l := by
  unfold slices_Clone_byte_byte.f
  simp only [Option.bind_some, List.nil_append, List.length_nil]
  rw [if_pos (by omega)]

theorem toByteS_l (l : List Int) (hn : l.length ≤ 1048576) (d : Nat) : ∀ (i : Nat) (y : List Int), i + d = l.length → y.length = l.length → (∀ j, j < i → y[j]? = l[j]?) → Ev (fun k => laws_toByteS.l0 k l y (i : Int)) l := by
  induction d with
  | zero =>
    intro i y hi hy hj
    refine Ev.step (f := fun _ => some l) (fun k => ?_) (Ev.now _)
    simp only [laws_toByteS.l0]
    rw [if_neg (by omega)]
    congr 1
    refine List.ext_getElem? fun j => ?_
    by_cases h : j < i
    · exact hj j h
    · rw [List.getElem?_eq_none (by omega), List.getElem?_eq_none (by omega)]
  | succ d ih =>
    intro i y hi hy hj
    refine Ev.step (f := fun k => laws_toByteS.l0 k l (y.set i (rd l i)) ((i + 1 : Nat) : Int)) (fun k => ?_) (ih (i + 1) _ (by omega) (by simp [hy]) ?_)
    · simp only [laws_toByteS.l0]
      rw [if_pos (by omega), if_pos (by omega), if_pos (by omega), w64 (by omega) (by omega)]
      simp
    · intro j hlt
      by_cases h : j = i
      · subst h
        rw [List.getElem?_set_self (by omega), rd_nat l j (by omega), List.getElem?_eq_getElem (by omega)]
      · rw [List.getElem?_set_ne (by omega)]
        exact hj j (by omega)
theorem toByteS_f (l : List Int) (hn : l.length ≤ 1048576) : Ev (fun k => laws_toByteS.f k l) l := by
  unfold laws_toByteS.f
  refine ev_pos (by omega) (ev_pos (by omega) ?_)
  exact toByteS_l l hn l.length 0 _ (by omega) (by simp) (by intro j h; omega)

theorem eqByteS_l (a b : List Int) (hn : a.length ≤ 1048576) (hab : a.length = b.length) (d : Nat) : ∀ (i : Nat), i + d = a.length → (∀ j, j < i → a[j]? = b[j]?) → Ev (fun k => laws_eqByteS.l0 k a b (i : Int)) (decide (a = b)) := by
  induction d with
  | zero =>
    intro i hi hj
    refine Ev.step (f := fun _ => some true) (fun k => ?_) ?_
    · simp only [laws_eqByteS.l0]
      rw [if_neg (by omega)]
    · have : a = b := by
        refine List.ext_getElem? fun j => ?_
        by_cases h : j < i
        · exact hj j h
        · rw [List.getElem?_eq_none (by omega), List.getElem?_eq_none (by omega)]
      rw [decide_eq_true this]
      exact Ev.now _
  | succ d ih =>
    intro i hi hj
    have ha : rd a (i : Int) = a[i]'(by omega) := rd_nat a i (by omega)
    have hb : rd b (i : Int) = b[i]'(by omega) := rd_nat b i (by omega)
    by_cases he : rd a (i : Int) = rd b (i : Int)
    · refine Ev.step (f := fun k => laws_eqByteS.l0 k a b ((i + 1 : Nat) : Int)) (fun k => ?_) (ih (i + 1) (by omega) ?_)
      · simp only [laws_eqByteS.l0]
        rw [if_pos (by omega), if_pos (by omega), if_pos (by omega), if_pos he, w64 (by omega) (by omega)]
        simp
      · intro j hlt
        by_cases h : j = i
        · subst h
          rw [List.getElem?_eq_getElem (by omega), List.getElem?_eq_getElem (by omega), ← ha, ← hb, he]
        · exact hj j (by omega)
    · refine Ev.step (f := fun _ => some false) (fun k => ?_) ?_
      · simp only [laws_eqByteS.l0]
        rw [if_pos (by omega), if_pos (by omega), if_pos (by omega), if_neg he]
      · have : ¬ a = b := by
          rintro rfl
          exact he rfl
        rw [decide_eq_false this]
        exact Ev.now _
theorem eqByteS_f (a b : List Int) (hn : a.length ≤ 1048576) : Ev (fun k => laws_eqByteS.f k a b) (decide (a = b)) := by
  unfold laws_eqByteS.f
  by_cases h : a.length = b.length
  · refine ev_pos (by omega) ?_
    exact eqByteS_l a b hn h a.length 0 (by omega) (by intro j h; omega)
  · refine ev_neg (by omega) ?_
    rw [decide_eq_false (by rintro rfl; exact h rfl)]
    exact Ev.now _
theorem eqByteS_same (a : List Int) (hn : a.length ≤ 1048576) : Ev (fun k => laws_eqByteS.f k a a) true := by
  have := eqByteS_f a a hn
  rwa [decide_eq_true rfl] at this

theorem markByteS_l (a : List Int) (hn : a.length ≤ 1048576) (m0 : Int) (h0 : 0 ≤ m0) (h1 : m0 ≤ 1000000000000) (d : Nat) : ∀ (i : Nat) (y : List Int), i + d = a.length → y.length = a.length → (∀ j, j < i → y[j]? = (marksB m0 a.length)[j]?) → Ev (fun k => laws_markByteS.l0 k y (m0 + i) (i : Int)) (m0 + a.length, marksB m0 a.length) := by
  have hml := marksB_length a.length m0
  induction d with
  | zero =>
    intro i y hi hy hj
    refine Ev.step (f := fun _ => some (m0 + a.length, marksB m0 a.length)) (fun k => ?_) (Ev.now _)
    simp only [laws_markByteS.l0]
    rw [if_neg (by omega)]
    have hy2 : y = marksB m0 a.length := by
      refine List.ext_getElem? fun j => ?_
      by_cases h : j < i
      · exact hj j h
      · rw [List.getElem?_eq_none (by omega), List.getElem?_eq_none (by omega)]
    rw [hy2, show (i : Int) = a.length by omega]
  | succ d ih =>
    intro i y hi hy hj
    refine Ev.step (f := fun k => laws_markByteS.l0 k (y.set i ((m0+i)%256)) (m0 + (i + 1 : Nat)) ((i + 1 : Nat) : Int)) (fun k => ?_) (ih (i + 1) _ (by omega) (by simp [hy]) ?_)
    · simp only [laws_markByteS.l0]
      rw [if_pos (by omega), if_pos (by omega), w64 (by omega) (by omega), w64 (by omega) (by omega)]
      simp [Int.add_assoc]
    · intro j hlt
      by_cases h : j = i
      · subst h
        rw [List.getElem?_set_self (by omega), List.getElem?_eq_getElem (by omega), marksB_get]
      · rw [List.getElem?_set_ne (by omega)]
        exact hj j (by omega)
theorem markByteS_f (a : List Int) (hn : a.length ≤ 1048576) (m : Int) (h0 : 0 ≤ m) (h1 : m ≤ 1000000000000) : Ev (fun k => laws_markByteS.f k a m) (m + a.length, marksB m a.length) := by
  unfold laws_markByteS.f
  have := markByteS_l a hn m h0 h1 a.length 0 a (by omega) rfl (by intro j h; omega)
  simpa using this

theorem heldByteS_l (n : Nat) (hn : n ≤ 1048576) (m0 : Int) (h0 : 0 ≤ m0) (h1 : m0 ≤ 1000000000000) (d : Nat) : ∀ (i : Nat), i + d = n → Ev (fun k => laws_heldByteS.l0 k (marksB m0 n) (m0 + i) (i : Int)) (m0 + n) := by
  have hml := marksB_length n m0
  induction d with
  | zero =>
    intro i hi
    refine Ev.step (f := fun _ => some (m0 + n)) (fun k => ?_) (Ev.now _)
    simp only [laws_heldByteS.l0]
    rw [if_neg (by omega), show (i : Int) = n by omega]
  | succ d ih =>
    intro i hi
    refine Ev.step (f := fun k => laws_heldByteS.l0 k (marksB m0 n) (m0 + (i + 1 : Nat)) ((i + 1 : Nat) : Int)) (fun k => ?_) (ih (i + 1) (by omega))
    simp only [laws_heldByteS.l0]
    rw [if_pos (by omega), if_pos (by omega), if_pos (by rw [rd_nat _ i (by omega), marksB_get]), w64 (by omega) (by omega), w64 (by omega) (by omega)]
    simp [Int.add_assoc]
theorem heldByteS_f (n : Nat) (hn : n ≤ 1048576) (m : Int) (h0 : 0 ≤ m) (h1 : m ≤ 1000000000000) : Ev (fun k => laws_heldByteS.f k (marksB m n) m) (m + n) := by
  unfold laws_heldByteS.f
  have := heldByteS_l n hn m h0 h1 n 0 (by omega)
  simpa using this

theorem szByte_f (l : List Int) (left : Int) (h0 : 0 ≤ left) (h1 : left ≤ 1048576) (hl : l.length ≤ 9223372036854775807) : laws_szByteS.f l left = some (if left < l.length then -1 else left - l.length) := by
  unfold laws_szByteS.f
  rw [w64 (by omega) (by omega)]
  by_cases h : left < l.length
  · rw [if_pos (by omega), if_pos h]
  · rw [if_neg (by omega), if_neg h]

def sumLen : List (List Int) → Nat
  | [] => 0
  | x :: l => x.length + sumLen l
theorem rdl_nat (l : List (List Int)) (i : Nat) (h : i < l.length) : rd_L1 l (i : Int) = l[i] := by
  simp [rd_L1, List.getD_eq_getElem?_getD, List.getElem?_eq_getElem h]
theorem sumLen_drop (l : List (List Int)) (i : Nat) (h : i < l.length) : sumLen (l.drop i) = (l[i]).length + sumLen (l.drop (i + 1)) := by
  rw [List.drop_eq_getElem_cons h]
  rfl
theorem sumLen_mem {l : List (List Int)} {x : List Int} (h : x ∈ l) : x.length ≤ sumLen l := by
  induction l with
  | nil => cases h
  | cons y l ih =>
    simp only [sumLen]
    rcases List.mem_cons.1 h with rfl | h
    · omega
    · have := ih h; omega
theorem szByteSS_l (l : List (List Int)) (hx : ∀ x ∈ l, x.length ≤ 9223372036854775807) (hn : l.length ≤ 1048576) (d : Nat) : ∀ (i : Nat) (left : Int), i + d = l.length → 0 ≤ left → left ≤ 1048576 →
    Ev (fun k => laws_szByteSS.l0 k l left (i : Int)) (if left < sumLen (l.drop i) then -1 else left - sumLen (l.drop i)) := by
  induction d with
  | zero =>
    intro i left hi h0 h1
    refine Ev.step (f := fun _ => some left) (fun k => ?_) ?_
    · simp only [laws_szByteSS.l0]
      rw [if_neg (by omega)]
    · have e : sumLen (l.drop i) = 0 := by
        rw [List.drop_eq_nil_of_le (by omega)]
        rfl
      have hz : (if left < sumLen (l.drop i) then (-1 : Int) else left - sumLen (l.drop i)) = left := by
        rw [if_neg (by omega)]
        omega
      rw [hz]
      exact Ev.now _
  | succ d ih =>
    intro i left hi h0 h1
    have hr := rdl_nat l i (by omega)
    have hl := hx (l[i]'(by omega)) (List.getElem_mem _)
    have hs := szByte_f (l[i]'(by omega)) left h0 h1 hl
    have hd := sumLen_drop l i (by omega)
    by_cases h : left < (l[i]'(by omega)).length
    · rw [if_pos h] at hs
      refine Ev.step (f := fun _ => some (-1)) (fun k => ?_) ?_
      · simp only [laws_szByteSS.l0]
        rw [if_pos (by omega), if_pos (by omega), hr, hs]
        simp
      · rw [if_pos (by omega)]
        exact Ev.now _
    · rw [if_neg h] at hs
      have h2 := ih (i + 1) (left - (l[i]'(by omega)).length) (by omega) (by omega) (by omega)
      have e : (if left < sumLen (l.drop i) then (-1 : Int) else left - sumLen (l.drop i)) = (if left - (l[i]'(by omega)).length < sumLen (l.drop (i + 1)) then -1 else left - (l[i]'(by omega)).length - sumLen (l.drop (i + 1))) := by
        rw [hd]
        by_cases hc : left < (((l[i]'(by omega)).length + sumLen (l.drop (i + 1)) : Nat) : Int)
        · rw [if_pos hc, if_pos (by omega)]
        · rw [if_neg hc, if_neg (by omega)]; omega
      rw [e]
      refine Ev.step (fun k => ?_) h2
      simp only [laws_szByteSS.l0]
      rw [if_pos (by omega), if_pos (by omega), hr, hs]
      simp only [Option.bind_some]
      rw [if_neg (by omega), w64 (by omega) (by omega)]
      rfl
theorem szByteSS_f (l : List (List Int)) (hl : l.length ≤ 9223372036854775807) (hx : ∀ x ∈ l, x.length ≤ 9223372036854775807) (left : Int) (h0 : 0 ≤ left) (h1 : left ≤ 1048576) :
    Ev (fun k => laws_szByteSS.f k l left) (if left < (l.length : Int) + sumLen l then -1 else left - ((l.length : Int) + sumLen l)) := by
  unfold laws_szByteSS.f
  rw [w64 (by omega) (by omega)]
  by_cases h : left - l.length < 0
  · rw [if_pos (by omega)]
    exact ev_pos h (Ev.now _)
  · have h2 := szByteSS_l l hx (by omega) l.length 0 (left - l.length) (by omega) (by omega) (by omega)
    rw [List.drop_zero] at h2
    have e : (if left < (l.length : Int) + sumLen l then (-1 : Int) else left - ((l.length : Int) + sumLen l)) = (if left - l.length < sumLen l then -1 else left - l.length - sumLen l) := by
      by_cases hc : left < (l.length : Int) + sumLen l
      · rw [if_pos hc, if_pos (by omega)]
      · rw [if_neg hc, if_neg (by omega)]; omega
    rw [e]
    exact ev_neg h h2
theorem toByteSS_l (l : List (List Int)) (hn : l.length ≤ 1048576) (hx : ∀ x ∈ l, x.length ≤ 1048576) (d : Nat) : ∀ (i : Nat) (y : List (List Int)), i + d = l.length → y.length = l.length → (∀ j, j < i → y[j]? = l[j]?) → Ev (fun k => laws_toByteSS.l0 k l y (i : Int)) l := by
  induction d with
  | zero =>
    intro i y hi hy hj
    refine Ev.step (f := fun _ => some l) (fun k => ?_) (Ev.now _)
    simp only [laws_toByteSS.l0]
    rw [if_neg (by omega)]
    congr 1
    refine List.ext_getElem? fun j => ?_
    by_cases h : j < i
    · exact hj j h
    · rw [List.getElem?_eq_none (by omega), List.getElem?_eq_none (by omega)]
  | succ d ih =>
    intro i y hi hy hj
    have hr := rdl_nat l i (by omega)
    have ht := toByteS_f (l[i]'(by omega)) (hx _ (List.getElem_mem _))
    have h2 := ih (i + 1) (y.set i (l[i]'(by omega))) (by omega) (by simp [hy]) (by
      intro j hlt
      by_cases h : j = i
      · subst h
        rw [List.getElem?_set_self (by omega), List.getElem?_eq_getElem (by omega)]
      · rw [List.getElem?_set_ne (by omega)]
        exact hj j (by omega))
    refine Ev.step (f := fun k => (laws_toByteS.f k (l[i]'(by omega))).bind fun t => if (i : Int) < (y.length : Int) then laws_toByteSS.l0 k l (y.set (i : Int).toNat t) (wrap64 ((i : Int) + 1)) else none) (fun k => ?_) (Ev.bind ht ?_)
    · simp only [laws_toByteSS.l0]
      rw [if_pos (by omega), if_pos (by omega), hr]
    · refine ev_pos (by omega) ?_
      rw [w64 (by omega) (by omega), Int.toNat_natCast]
      exact h2
theorem toByteSS_f (l : List (List Int)) (hn : l.length ≤ 1048576) (hx : ∀ x ∈ l, x.length ≤ 1048576) : Ev (fun k => laws_toByteSS.f k l) l := by
  unfold laws_toByteSS.f
  refine ev_pos (by omega) (ev_pos (by omega) ?_)
  exact toByteSS_l l hn hx l.length 0 _ (by omega) (by simp) (by intro j h; omega)

theorem eqByteSS_l (l : List (List Int)) (hn : l.length ≤ 1048576) (hx : ∀ x ∈ l, x.length ≤ 1048576) (d : Nat) : ∀ (i : Nat), i + d = l.length → Ev (fun k => laws_eqByteSS.l0 k l l (i : Int)) true := by
  induction d with
  | zero =>
    intro i hi
    refine Ev.step (f := fun _ => some true) (fun k => ?_) (Ev.now _)
    simp only [laws_eqByteSS.l0]
    rw [if_neg (by omega)]
  | succ d ih =>
    intro i hi
    have hr := rdl_nat l i (by omega)
    have ht := eqByteS_same (l[i]'(by omega)) (hx _ (List.getElem_mem _))
    refine Ev.step (f := fun k => (laws_eqByteS.f k (l[i]'(by omega)) (l[i]'(by omega))).bind fun t => if t = true then laws_eqByteSS.l0 k l l (wrap64 ((i : Int) + 1)) else some false) (fun k => ?_) (Ev.bind ht (ev_pos rfl ?_))
    · simp only [laws_eqByteSS.l0]
      rw [if_pos (by omega), if_pos (by omega), hr]
      rw [if_pos (by omega)]
    · rw [w64 (by omega) (by omega)]
      exact ih (i + 1) (by omega)
theorem eqByteSS_same (l : List (List Int)) (hn : l.length ≤ 1048576) (hx : ∀ x ∈ l, x.length ≤ 1048576) : Ev (fun k => laws_eqByteSS.f k l l) true := by
  unfold laws_eqByteSS.f
  exact ev_pos rfl (eqByteSS_l l hn hx l.length 0 (by omega))

theorem szPage_f (lsn : Int) (l : List (List Int)) (hl : l.length ≤ 9223372036854775807) (hx : ∀ x ∈ l, x.length ≤ 9223372036854775807) (left : Int) (h0 : 0 ≤ left) (h1 : left ≤ 1048576) :
    Ev (fun k => laws_szPage.f k lsn l left) (if left < (l.length : Int) + sumLen l then -1 else left - ((l.length : Int) + sumLen l)) := by
  unfold laws_szPage.f
  refine Ev.bind (szByteSS_f l hl hx left h0 h1) ?_
  by_cases h : left < (l.length : Int) + sumLen l
  · rw [if_pos h]
    exact ev_pos (by omega) (Ev.now _)
  · rw [if_neg h]
    exact ev_neg (by omega) (Ev.now _)
theorem toPage_f (lsn : Int) (l : List (List Int)) (hn : l.length ≤ 1048576) (hx : ∀ x ∈ l, x.length ≤ 1048576) : Ev (fun k => laws_toPage.f k lsn l) (lsn, l) := by
  unfold laws_toPage.f
  exact Ev.bind (toByteSS_f l hn hx) (Ev.now _)

theorem eqPage_same (lsn : Int) (l : List (List Int)) (hn : l.length ≤ 1048576) (hx : ∀ x ∈ l, x.length ≤ 1048576) : Ev (fun k => laws_eqPage.f k lsn l lsn l) true := by
  unfold laws_eqPage.f
  exact ev_pos rfl (Ev.bind (eqByteSS_same l hn hx) (ev_pos rfl (Ev.now _)))

/-- how many bytes a page uses, or -1 -/
def puOf (lsn : Int) (l : List (List Int)) : Int :=
  if ¬ ((0 ≤ lsn ∧ lsn ≤ 1000000) ∧ l.length ≤ 16) then -1
  else if ∃ x ∈ l, 92 < x.length then -1
  else if 240 < 1 + l.length + sumLen l then -1
  else if 0 < l.length ∧ (rd_L1 l ((l.length : Int) - 1)).length = 0 then -1
  else 1 + l.length + sumLen l
theorem small_sum (l : List (List Int)) (h : ¬ ∃ x ∈ l, 92 < x.length) : sumLen l ≤ 92 * l.length := by
  induction l with
  | nil => simp [sumLen]
  | cons x l ih =>
    have h1 := ih (fun ⟨y, hy, hz⟩ => h ⟨y, List.mem_cons_of_mem _ hy, hz⟩)
    have h2 : ¬ 92 < x.length := fun hz => h ⟨x, List.mem_cons_self .., hz⟩
    simp only [sumLen, List.length_cons]
    omega
def sumTake (l : List (List Int)) (i : Nat) : Nat := sumLen (l.take i)
theorem sumTake_succ (l : List (List Int)) (i : Nat) (h : i < l.length) : sumTake l (i + 1) = sumTake l i + (l[i]).length := by
  have hs : ∀ a b : List (List Int), sumLen (a ++ b) = sumLen a + sumLen b := by
    intro a b
    induction a with
    | nil => simp [sumLen]
    | cons x a ih => simp only [List.cons_append, sumLen, ih]; omega
  unfold sumTake
  rw [List.take_succ_eq_append_getElem h, hs]
  simp [sumLen]
theorem sumTake_le (l : List (List Int)) (i : Nat) (hl : l.length ≤ 16) (hi : i ≤ l.length) (h : ∀ j (hj : j < l.length), j < i → (l[j]).length ≤ 92) : sumTake l i ≤ 92 * i := by
  induction i with
  | zero => simp [sumTake, sumLen]
  | succ i ih =>
    have h1 := ih (by omega) (fun j hj hji => h j hj (by omega))
    have h2 := h i (by omega) (by omega)
    rw [sumTake_succ l i (by omega)]
    omega
theorem spec_PageUsed_end (lsn : Int) (l : List (List Int)) (hp : (0 ≤ lsn ∧ lsn ≤ 1000000) ∧ l.length ≤ 16) (hs : ¬ ∃ x ∈ l, 92 < x.length) : ∀ (i : Nat), i = l.length →
    Ev (fun k => spec_PageUsed.l0 k (1 + l.length + sumLen l : Int) (i : Int) lsn l) (puOf lsn l) := by
  intro i hi
  have hb := small_sum l hs
  unfold puOf
  rw [if_neg (not_not_intro hp), if_neg hs]
  have last : ∀ b : Bool, b = decide (0 < l.length ∧ (rd_L1 l ((l.length : Int) - 1)).length = 0) → Ev (fun k => spec_PageUsed.j2 k (1 + l.length + sumLen l : Int) b) (if 240 < 1 + l.length + sumLen l then -1 else if 0 < l.length ∧ (rd_L1 l ((l.length : Int) - 1)).length = 0 then -1 else 1 + l.length + sumLen l) := by
    intro b hb2
    refine Ev.step (f := fun _ => some (if 240 < 1 + l.length + sumLen l then (-1 : Int) else if 0 < l.length ∧ (rd_L1 l ((l.length : Int) - 1)).length = 0 then -1 else 1 + l.length + sumLen l)) (fun k => ?_) (Ev.now _)
    simp only [spec_PageUsed.j2, hb2, decide_eq_true_eq]
    by_cases h1 : 0 < l.length ∧ (rd_L1 l ((l.length : Int) - 1)).length = 0
    · rw [if_pos h1, if_pos h1]
      split <;> rfl
    · rw [if_neg h1, if_neg h1]
      by_cases h2 : 240 < 1 + l.length + sumLen l
      · rw [if_pos (by omega), if_pos h2]
      · rw [if_neg (by omega), if_neg h2]
  by_cases h0 : (l.length : Int) > 0
  · refine Ev.step (fun k => ?_) (last _ rfl)
    simp only [spec_PageUsed.l0]
    rw [if_neg (by omega), if_pos h0, w64 (by omega) (by omega), if_pos (by omega), if_pos (by omega)]
    congr 1
    by_cases h1 : (rd_L1 l ((l.length : Int) - 1)).length = 0
    · rw [decide_eq_true ⟨by omega, h1⟩, h1]; rfl
    · rw [decide_eq_false (fun h => h1 h.2)]
      simpa using h1
  · refine Ev.step (fun k => ?_) (last false (by rw [decide_eq_false]; omega))
    simp only [spec_PageUsed.l0]
    rw [if_neg (by omega), if_neg h0]
theorem spec_PageUsed_l (lsn : Int) (l : List (List Int)) (hp : (0 ≤ lsn ∧ lsn ≤ 1000000) ∧ l.length ≤ 16) (d : Nat) : ∀ (i : Nat), i + d = l.length → (∀ j (hj : j < l.length), j < i → (l[j]).length ≤ 92) →
    Ev (fun k => spec_PageUsed.l0 k (1 + l.length + sumTake l i : Int) (i : Int) lsn l) (puOf lsn l) := by
  induction d with
  | zero =>
    intro i hi hj
    have e : sumTake l i = sumLen l := by unfold sumTake; rw [List.take_of_length_le (by omega)]
    rw [e]
    refine spec_PageUsed_end lsn l hp ?_ i (by omega)
    rintro ⟨x, hx, h⟩
    obtain ⟨j, hjl, rfl⟩ := List.mem_iff_getElem.1 hx
    have := hj j hjl (by omega)
    omega
  | succ d ih =>
    intro i hi hj
    have hr := rdl_nat l i (by omega)
    have hb := sumTake_le l i hp.2 (by omega) hj
    by_cases h : (l[i]'(by omega)).length > 92
    · have e : puOf lsn l = -1 := by
        unfold puOf
        rw [if_neg (not_not_intro hp), if_pos ⟨_, List.getElem_mem _, h⟩]
      rw [e]
      refine Ev.step (f := fun _ => some (-1)) (fun k => ?_) (Ev.now _)
      simp only [spec_PageUsed.l0]
      rw [if_pos (by omega), if_pos (by omega), hr, if_pos (by omega)]
    · have h2 := ih (i + 1) (by omega) (by
        intro j hjl hji
        by_cases hje : j = i
        · subst hje; omega
        · exact hj j hjl (by omega))
      rw [sumTake_succ l i (by omega)] at h2
      refine Ev.step (fun k => ?_) h2
      simp only [spec_PageUsed.l0]
      rw [if_pos (by omega), if_pos (by omega), hr, if_neg (by omega), w64 (x := 1 + (l.length : Int) + (sumTake l i : Int) + ((l[i]'(by omega)).length : Int)) (by omega) (by omega), w64 (by omega) (by omega)]
      congr 1
      omega
theorem impl_PageUsed_l (lsn : Int) (l : List (List Int)) (hp : (0 ≤ lsn ∧ lsn ≤ 1000000) ∧ l.length ≤ 16) (d : Nat) : ∀ (i : Nat), i + d = l.length → (∀ j (hj : j < l.length), j < i → (l[j]).length ≤ 92) →
    Ev (fun k => impl_PageUsed.l0 k (1 + l.length + sumTake l i : Int) l (l.length : Int) (i : Int) lsn l) (puOf lsn l) := by
  induction d with
  | zero =>
    intro i hi hj
    have e : sumTake l i = sumLen l := by unfold sumTake; rw [List.take_of_length_le (by omega)]
    rw [e]
    have hs : ¬ ∃ x ∈ l, 92 < x.length := by
      rintro ⟨x, hx, h⟩
      obtain ⟨j, hjl, rfl⟩ := List.mem_iff_getElem.1 hx
      have := hj j hjl (by omega)
      omega
    have hb := small_sum l hs
    unfold puOf
    rw [if_neg (not_not_intro hp), if_neg hs]
    refine Ev.step (f := fun _ => some (if 240 < 1 + l.length + sumLen l then (-1 : Int) else if 0 < l.length ∧ (rd_L1 l ((l.length : Int) - 1)).length = 0 then -1 else 1 + l.length + sumLen l)) (fun k => ?_) (Ev.now _)
    simp only [impl_PageUsed.l0]
    rw [if_neg (by omega)]
    by_cases h2 : 240 < 1 + l.length + sumLen l
    · rw [if_pos (by omega), if_pos h2]
    · rw [if_neg (by omega), if_neg h2]
      by_cases h0 : (l.length : Int) > 0
      · rw [if_pos h0, w64 (by omega) (by omega), if_pos (by omega), if_pos (by omega)]
        by_cases h1 : (rd_L1 l ((l.length : Int) - 1)).length = 0
        · rw [if_pos (by omega), if_pos ⟨by omega, h1⟩]
        · rw [if_neg (by omega), if_neg (fun h => h1 h.2)]
      · rw [if_neg h0, if_neg (by omega)]
  | succ d ih =>
    intro i hi hj
    have hr := rdl_nat l i (by omega)
    have hb := sumTake_le l i hp.2 (by omega) hj
    by_cases h : (l[i]'(by omega)).length > 92
    · have e : puOf lsn l = -1 := by
        unfold puOf
        rw [if_neg (not_not_intro hp), if_pos ⟨_, List.getElem_mem _, h⟩]
      rw [e]
      refine Ev.step (f := fun _ => some (-1)) (fun k => ?_) (Ev.now _)
      simp only [impl_PageUsed.l0]
      rw [if_pos (by omega), if_pos (by omega), if_pos (by omega), hr, if_pos (by omega)]
    · have h2 := ih (i + 1) (by omega) (by
        intro j hjl hji
        by_cases hje : j = i
        · subst hje; omega
        · exact hj j hjl (by omega))
      rw [sumTake_succ l i (by omega)] at h2
      refine Ev.step (fun k => ?_) h2
      simp only [impl_PageUsed.l0]
      rw [if_pos (by omega), if_pos (by omega), if_pos (by omega), hr, if_neg (by omega), w64 (x := 1 + (l.length : Int) + (sumTake l i : Int) + ((l[i]'(by omega)).length : Int)) (by omega) (by omega), w64 (by omega) (by omega)]
      congr 1
      omega
theorem puOf_off (lsn : Int) (l : List (List Int)) (h : ¬ ((0 ≤ lsn ∧ lsn ≤ 1000000) ∧ l.length ≤ 16)) : puOf lsn l = -1 := by
  unfold puOf
  rw [if_pos h]
theorem spec_PageUsed_f (lsn : Int) (l : List (List Int)) (hn : l.length ≤ 1048576) : Ev (fun k => spec_PageUsed.f k lsn l) (puOf lsn l) := by
  unfold spec_PageUsed.f
  refine ev_bind0 (spec_l5in_f _ _ _) ?_
  by_cases h : 0 ≤ lsn ∧ lsn ≤ 1000000
  · refine ev_pos (decide_eq_true h) ?_
    by_cases h2 : (l.length : Int) > 16
    · rw [decide_eq_true h2, puOf_off lsn l (fun h => by have := h.2; omega)]
      exact Ev.step (f := fun _ => some (-1)) (fun k => by simp only [spec_PageUsed.j0, if_true]) (Ev.now _)
    · rw [decide_eq_false h2]
      refine Ev.step (fun k => by simp only [spec_PageUsed.j0, Bool.false_eq_true, if_false]; rfl) ?_
      rw [w64 (by omega) (by omega)]
      have := spec_PageUsed_l lsn l ⟨h, by omega⟩ l.length 0 (by omega) (fun j hj hji => by omega)
      simpa [sumTake, sumLen] using this
  · rw [puOf_off lsn l (fun h2 => h h2.1)]
    refine ev_neg (by simpa using h) ?_
    exact Ev.step (f := fun _ => some (-1)) (fun k => by simp only [spec_PageUsed.j0, if_true]) (Ev.now _)
theorem impl_PageUsed_f (lsn : Int) (l : List (List Int)) (hn : l.length ≤ 1048576) : Ev (fun k => impl_PageUsed.f k lsn l) (puOf lsn l) := by
  unfold impl_PageUsed.f
  refine ev_bind0 (impl_within_f _ _ _) ?_
  by_cases h : 0 ≤ lsn ∧ lsn ≤ 1000000
  · refine ev_pos (decide_eq_true h) ?_
    by_cases h2 : (l.length : Int) > 16
    · rw [decide_eq_true h2, puOf_off lsn l (fun h => by have := h.2; omega)]
      exact Ev.step (f := fun _ => some (-1)) (fun k => by simp only [impl_PageUsed.j0, if_true]) (Ev.now _)
    · rw [decide_eq_false h2]
      refine Ev.step (fun k => by simp only [impl_PageUsed.j0, Bool.false_eq_true, if_false]; rfl) ?_
      rw [w64 (by omega) (by omega)]
      have := impl_PageUsed_l lsn l ⟨h, by omega⟩ l.length 0 (by omega) (fun j hj hji => by omega)
      simpa [sumTake, sumLen] using this
  · rw [puOf_off lsn l (fun h2 => h h2.1)]
    refine ev_neg (by simpa using h) ?_
    exact Ev.step (f := fun _ => some (-1)) (fun k => by simp only [impl_PageUsed.j0, if_true]) (Ev.now _)

/-- rows marked one behind the other -/
def marksSS (m : Int) : List (List Int) → List (List Int)
  | [] => []
  | x :: l => marksB m x.length :: marksSS (m + x.length) l
theorem marksSS_length (l : List (List Int)) : ∀ m, (marksSS m l).length = l.length := by
  induction l with
  | nil => intro m; rfl
  | cons x l ih => intro m; simp [marksSS, ih]
theorem markSS_go (rest : List (List Int)) : ∀ (pre : List (List Int)) (m : Int), 0 ≤ m → m + sumLen rest ≤ 1000000000000 → (∀ x ∈ rest, x.length ≤ 1048576) → Ev (fun k => laws_markByteSS.go k rest.length pre.length (pre ++ rest) m) (m + sumLen rest, pre ++ marksSS m rest) := by
  induction rest with
  | nil =>
    intro pre m h0 h1 hx
    refine Ev.congr (f := fun _ => some (m, pre ++ [])) (fun k => rfl) ?_
    rw [show (m : Int) + (sumLen ([] : List (List Int)) : Nat) = m by simp [sumLen]]
    exact Ev.now _
  | cons x rest ih =>
    intro pre m h0 h1 hx
    have hs : sumLen (x :: rest) = x.length + sumLen rest := rfl
    rw [hs] at h1
    have hxl := hx x (List.mem_cons_self ..)
    have h2 := ih (pre ++ [marksB m x.length]) (m + x.length) (by omega) (by omega) (fun y hy => hx y (List.mem_cons_of_mem _ hy))
    have hg : (pre ++ x :: rest).getD pre.length [] = x := by simp [List.getD_eq_getElem?_getD]
    refine Ev.congr (fun k => by rw [List.length_cons, laws_markByteSS.go, hg]) (Ev.bind (markByteS_f x hxl m h0 (by omega)) ?_)
    dsimp only
    have hset : (pre ++ x :: rest).set pre.length (marksB m x.length) = (pre ++ [marksB m x.length]) ++ rest := by simp
    rw [hset, show pre.length + 1 = (pre ++ [marksB m x.length]).length by simp, show (m : Int) + ((sumLen (x :: rest) : Nat) : Int) = m + x.length + sumLen rest by rw [hs]; push_cast; omega, show pre ++ marksSS m (x :: rest) = (pre ++ [marksB m x.length]) ++ marksSS (m + x.length) rest by simp [marksSS]]
    exact h2
theorem markByteSS_f (l : List (List Int)) (hn : l.length ≤ 1048576) (hx : ∀ x ∈ l, x.length ≤ 1048576) (m : Int) (h0 : 0 ≤ m) (h1 : m + sumLen l ≤ 1000000000000) : Ev (fun k => laws_markByteSS.f k l m) (m + sumLen l, marksSS m l) := by
  unfold laws_markByteSS.f
  refine ev_pos hn ?_
  exact markSS_go l [] m h0 h1 hx
theorem heldSS_l (rest : List (List Int)) : ∀ (pre : List (List Int)) (m : Int), 0 ≤ m → m + sumLen rest ≤ 1000000000000 → (∀ x ∈ rest, x.length ≤ 1048576) → pre.length + rest.length ≤ 1048576 → Ev (fun k => laws_heldByteSS.l0 k (pre ++ marksSS m rest) m (pre.length : Int)) (m + sumLen rest) := by
  induction rest with
  | nil =>
    intro pre m h0 h1 hx hn
    refine Ev.step (f := fun _ => some m) (fun k => by rw [laws_heldByteSS.l0, if_neg (by simp [marksSS])]) ?_
    rw [show (m : Int) + (sumLen ([] : List (List Int)) : Nat) = m by simp [sumLen]]
    exact Ev.now _
  | cons x rest ih =>
    intro pre m h0 h1 hx hn
    have hs : sumLen (x :: rest) = x.length + sumLen rest := rfl
    rw [hs] at h1
    rw [List.length_cons] at hn
    have hxl := hx x (List.mem_cons_self ..)
    have h2 := ih (pre ++ [marksB m x.length]) (m + x.length) (by omega) (by omega) (fun y hy => hx y (List.mem_cons_of_mem _ hy)) (by simp; omega)
    have hr : rd_L1 (pre ++ marksSS m (x :: rest)) (pre.length : Int) = marksB m x.length := by simp [rd_L1, marksSS, List.getD_eq_getElem?_getD]
    refine Ev.step (fun k => by rw [laws_heldByteSS.l0, if_pos (by simp [marksSS]; omega), if_pos (by omega), hr]) (Ev.bind (heldByteS_f x.length hxl m h0 (by omega)) ?_)
    refine ev_neg (by omega) ?_
    rw [w64 (by omega) (by omega), show pre ++ marksSS m (x :: rest) = (pre ++ [marksB m x.length]) ++ marksSS (m + x.length) rest by simp [marksSS], show (m : Int) + ((sumLen (x :: rest) : Nat) : Int) = m + x.length + sumLen rest by rw [hs]; push_cast; omega]
    rw [show (((pre ++ [marksB m x.length]).length : Nat) : Int) = (pre.length : Int) + 1 by simp] at h2
    exact h2
theorem heldByteSS_f (l : List (List Int)) (hn : l.length ≤ 1048576) (hx : ∀ x ∈ l, x.length ≤ 1048576) (m : Int) (h0 : 0 ≤ m) (h1 : m + sumLen l ≤ 1000000000000) : Ev (fun k => laws_heldByteSS.f k (marksSS m l) m) (m + sumLen l) := by
  unfold laws_heldByteSS.f
  exact heldSS_l l [] m h0 h1 hx (by simpa using hn)
theorem sumLen_le (l : List (List Int)) (n b : Nat) (hn : l.length ≤ n) (hx : ∀ x ∈ l, x.length ≤ b) : sumLen l ≤ n * b := by
  induction l generalizing n with
  | nil => simp [sumLen]
  | cons x l ih =>
    obtain ⟨n, rfl⟩ : ∃ q, n = q + 1 := ⟨n - 1, by simp at hn; omega⟩
    have h1 := ih n (by simp at hn; omega) (fun y hy => hx y (List.mem_cons_of_mem _ hy))
    have h2 := hx x (List.mem_cons_self ..)
    simp only [sumLen, Nat.add_mul, Nat.one_mul]
    omega

theorem markPage_f (lsn : Int) (l : List (List Int)) (hn : l.length ≤ 1048576) (hx : ∀ x ∈ l, x.length ≤ 1048576) (m : Int) (h0 : 0 ≤ m) (h1 : m + sumLen l ≤ 1000000000000) : Ev (fun k => laws_markPage.f k lsn l m) (m + sumLen l, marksSS m l) := by
  unfold laws_markPage.f
  exact markByteSS_f l hn hx m h0 h1
theorem heldPage_f (lsn : Int) (l : List (List Int)) (hn : l.length ≤ 1048576) (hx : ∀ x ∈ l, x.length ≤ 1048576) (m : Int) (h0 : 0 ≤ m) (h1 : m + sumLen l ≤ 1000000000000) : Ev (fun k => laws_heldPage.f k lsn (marksSS m l) m) (m + sumLen l) := by
  unfold laws_heldPage.f
  refine Ev.bind (heldByteSS_f l hn hx m h0 h1) ?_
  exact ev_neg (by omega) (Ev.now _)

theorem pu_small (lsn : Int) (l : List (List Int)) (h : ¬ puOf lsn l < 0) : l.length ≤ 16 ∧ ∀ x ∈ l, x.length ≤ 92 := by
  unfold puOf at h
  split at h
  · omega
  · rename_i h1
    split at h
    · omega
    · rename_i h2
      refine ⟨by omega, fun x hx => ?_⟩
      rcases Nat.lt_or_ge 92 x.length with h3 | h3
      · exact absurd ⟨x, hx, h3⟩ h2
      · exact h3
theorem l7copy_l (lsn : Int) (l : List (List Int)) (hl : l.length ≤ 16) (hx : ∀ x ∈ l, x.length ≤ 92) (d : Nat) : ∀ i : Nat, i + d = l.length → Ev (fun k => spec_l7copy.l0 k (i : Int) lsn l lsn (l.take i)) (lsn, l) := by
  induction d with
  | zero =>
    intro i hi
    rw [List.take_of_length_le (by omega)]
    exact Ev.step (fun k => by rw [spec_l7copy.l0, if_neg (by omega)]) (Ev.now _)
  | succ d ih =>
    intro i hi
    have hr := rdl_nat l i (by omega)
    have hb := hx _ (List.getElem_mem (show i < l.length by omega))
    refine Ev.step (fun k => by rw [spec_l7copy.l0, if_pos (by omega), Option.bind_some, if_pos (by omega), hr, if_pos (by simp; omega), if_pos (by rw [List.length_take]; omega), w64 (by omega) (by omega), List.nil_append]) ?_
    rw [← List.take_succ_eq_append_getElem (by omega)]
    exact ih (i + 1) (by omega)
theorem l7copy_f (lsn : Int) (l : List (List Int)) (hl : l.length ≤ 16) (hx : ∀ x ∈ l, x.length ≤ 92) : Ev (fun k => spec_l7copy.f k lsn l) (lsn, l) := by
  unfold spec_l7copy.f
  exact l7copy_l lsn l hl hx l.length 0 (by omega)
theorem slots_l (l : List (List Int)) (hl : l.length ≤ 16) (hx : ∀ x ∈ l, x.length ≤ 92) (d : Nat) : ∀ i : Nat, i + d = l.length → Ev (fun k => impl_Page_slots.l0 k (l.take i) l (l.length : Int) (i : Int)) l := by
  induction d with
  | zero =>
    intro i hi
    rw [List.take_of_length_le (by omega)]
    exact Ev.step (fun k => by rw [impl_Page_slots.l0, if_neg (by omega)]) (Ev.now _)
  | succ d ih =>
    intro i hi
    have hr := rdl_nat l i (by omega)
    have hb := hx _ (List.getElem_mem (show i < l.length by omega))
    have hc : slices_Clone_byte_byte.f (l[i]'(by omega)) = some (l[i]'(by omega)) := by
      unfold slices_Clone_byte_byte.f
      rw [Option.bind_some, if_pos (by simp; omega), List.nil_append]
    refine Ev.step (fun k => by rw [impl_Page_slots.l0, if_pos (by omega), if_pos (by omega), if_pos (by omega), hr, hc, Option.bind_some, if_pos (by rw [List.length_take]; omega), w64 (by omega) (by omega)]) ?_
    rw [← List.take_succ_eq_append_getElem (by omega)]
    exact ih (i + 1) (by omega)
theorem slots_f (lsn : Int) (l : List (List Int)) (hl : l.length ≤ 16) (hx : ∀ x ∈ l, x.length ≤ 92) : Ev (fun k => impl_Page_slots.f k lsn l) l := by
  unfold impl_Page_slots.f
  exact slots_l l hl hx l.length 0 (by omega)

/-- slots added up to a place -/
def padTo (l : List (List Int)) (s : Nat) : List (List Int) := l ++ List.replicate (s + 1 - l.length) []
theorem padTo_length (l : List (List Int)) (s : Nat) : (padTo l s).length = max l.length (s + 1) := by
  unfold padTo
  rw [List.length_append, List.length_replicate]
  omega
theorem padTo_grow (l : List (List Int)) (s : Nat) (h : l.length ≤ s) : padTo (l ++ [[]]) s = padTo l s := by
  unfold padTo
  rw [List.append_assoc, List.length_append, List.length_singleton, show s + 1 - l.length = (s + 1 - (l.length + 1)) + 1 by omega, List.replicate_succ]
  rfl
theorem padTo_done (l : List (List Int)) (s : Nat) (h : s < l.length) : padTo l s = l := by
  unfold padTo
  rw [show s + 1 - l.length = 0 by omega, List.replicate_zero, List.append_nil]
theorem padTo_small (l : List (List Int)) (s b : Nat) (hx : ∀ x ∈ l, x.length ≤ b) : ∀ x ∈ padTo l s, x.length ≤ b := by
  intro x h
  unfold padTo at h
  rcases List.mem_append.1 h with h | h
  · exact hx x h
  · rw [(List.mem_replicate.1 h).2]; exact Nat.zero_le _
/-- what is answered of a page into which bytes were put -/
def putEnd (n : Int) (l : List (List Int)) (s : Nat) (d : List Int) : Int × List (List Int) × Bool :=
  if puOf n ((padTo l s).set s d) < 0 then (0, [], false) else (n, (padTo l s).set s d, true)
/-- a page with bytes put into a slot -/
def putOf (lsn : Int) (l : List (List Int)) (s : Int) (d : List Int) (n : Int) : Int × List (List Int) × Bool :=
  if puOf lsn l < 0 ∨ ¬ (0 ≤ s ∧ s ≤ 15) ∨ d.length = 0 ∨ ¬ (1 ≤ n ∧ n ≤ 1000000) then (0, [], false) else putEnd n l s.toNat d
theorem putEnd_big (n : Int) (l : List (List Int)) (s : Nat) (d : List Int) (h : 92 < d.length) : putEnd n l s d = (0, [], false) := by
  unfold putEnd
  rw [if_pos]
  have hm : d ∈ (padTo l s).set s d := List.mem_set (by rw [padTo_length]; omega) d
  unfold puOf
  split
  · omega
  · rw [if_pos ⟨d, hm, h⟩]; omega
theorem putOf_small (lsn : Int) (l : List (List Int)) (s : Int) (d : List Int) (n : Int) : (putOf lsn l s d n).2.1.length ≤ 16 ∧ ∀ x ∈ (putOf lsn l s d n).2.1, x.length ≤ 92 := by
  unfold putOf
  split
  · exact ⟨by simp, by simp⟩
  · unfold putEnd
    split
    · exact ⟨by simp, by simp⟩
    · rename_i h
      exact pu_small n _ h
theorem put_spec (n lsn : Int) (s : Nat) (hs : s ≤ 15) (d : List Int) (hd : d.length ≤ 92) (m : Nat) : ∀ l : List (List Int), s + 1 - l.length = m → l.length ≤ 16 → Ev (fun k => spec_PagePut.l0 k (s : Int) d n lsn l) (putEnd n l s d) := by
  induction m with
  | zero =>
    intro l hm hl
    have hp := padTo_done l s (by omega)
    unfold putEnd
    rw [hp]
    refine Ev.step (fun k => by rw [spec_PagePut.l0, if_neg (by omega), Option.bind_some, if_pos (by simp; omega), if_pos (by omega), if_pos (by omega), Option.bind_some, List.nil_append, show ((s : Nat) : Int).toNat = s from rfl]) ?_
    refine Ev.bind (spec_PageUsed_f n (l.set s d) (by rw [List.length_set]; omega)) ?_
    by_cases hu : puOf n (l.set s d) < 0
    · rw [if_pos hu, if_pos hu]
      exact Ev.now _
    · rw [if_neg hu, if_neg hu]
      exact Ev.now _
  | succ m ih =>
    intro l hm hl
    refine Ev.step (fun k => by rw [spec_PagePut.l0, if_pos (by omega), if_pos (by omega)]) ?_
    have := ih (l ++ [[]]) (by rw [List.length_append, List.length_singleton]; omega) (by rw [List.length_append, List.length_singleton]; omega)
    unfold putEnd at this ⊢
    rw [padTo_grow l s (by omega)] at this
    exact this
theorem put_impl (n : Int) (s : Nat) (hs : s ≤ 15) (d : List Int) (hd : d.length ≤ 1048576) (m : Nat) : ∀ l : List (List Int), s + 1 - l.length = m → l.length ≤ 16 → Ev (fun k => impl_PagePut.l0 k (s : Int) d n l) (putEnd n l s d) := by
  induction m with
  | zero =>
    intro l hm hl
    have hp := padTo_done l s (by omega)
    unfold putEnd
    rw [hp]
    refine Ev.step (fun k => by rw [impl_PagePut.l0, if_neg (by omega), cloneByte_f d hd, Option.bind_some, if_pos (by omega), if_pos (by omega), Option.bind_some, show ((s : Nat) : Int).toNat = s from rfl]) ?_
    refine Ev.bind (impl_PageUsed_f n (l.set s d) (by rw [List.length_set]; omega)) ?_
    by_cases hu : puOf n (l.set s d) < 0
    · rw [if_pos hu, if_pos hu]
      exact Ev.now _
    · rw [if_neg hu, if_neg hu]
      exact Ev.now _
  | succ m ih =>
    intro l hm hl
    refine Ev.step (fun k => by rw [impl_PagePut.l0, if_pos (by omega), if_pos (by omega)]) ?_
    have := ih (l ++ [[]]) (by rw [List.length_append, List.length_singleton]; omega) (by rw [List.length_append, List.length_singleton]; omega)
    unfold putEnd at this ⊢
    rw [padTo_grow l s (by omega)] at this
    exact this
theorem spec_PagePut_f (lsn : Int) (l : List (List Int)) (s : Int) (d : List Int) (n : Int) (hl : l.length ≤ 1048576) : Ev (fun k => spec_PagePut.f k lsn l s d n) (putOf lsn l s d n) := by
  unfold spec_PagePut.f putOf
  refine Ev.bind (spec_PageUsed_f lsn l hl) ?_
  have bad : Ev (fun k => spec_PagePut.j0 k s d n true lsn l) (0, [], false) := Ev.step (fun k => by rw [spec_PagePut.j0, if_pos rfl]) (Ev.now _)
  by_cases hu : puOf lsn l < 0
  · rw [if_pos (Or.inl hu)]
    exact ev_pos hu bad
  refine ev_neg hu (ev_bind0 (spec_l5in_f s 0 15) ?_)
  by_cases hs : 0 ≤ s ∧ s ≤ 15
  · refine ev_pos (decide_eq_true hs) ?_
    by_cases h0 : d.length = 0
    · rw [if_pos (Or.inr (Or.inr (Or.inl h0)))]
      exact ev_pos (by omega) bad
    refine ev_neg (by omega) ?_
    by_cases h9 : 92 < d.length
    · refine ev_pos (by omega) ?_
      rw [putEnd_big n l s.toNat d h9, ite_self]
      exact bad
    refine ev_neg (by omega) (ev_bind0 (spec_l5in_f n 1 1000000) ?_)
    by_cases hn : 1 ≤ n ∧ n ≤ 1000000
    · rw [decide_eq_true hn, if_neg (fun h => h.elim hu (fun h => h.elim (fun h => h hs) (fun h => h.elim h0 (fun h => h hn))))]
      have hp := pu_small lsn l hu
      refine Ev.step (fun k => by rw [spec_PagePut.j0, if_neg (by simp)]) (Ev.bind (l7copy_f lsn l hp.1 hp.2) ?_)
      have := put_spec n lsn s.toNat (by omega) d (by omega) _ l rfl hp.1
      rw [show ((s.toNat : Nat) : Int) = s by omega] at this
      exact this
    · rw [decide_eq_false hn, if_pos (Or.inr (Or.inr (Or.inr hn)))]
      exact bad
  · refine ev_neg (by rw [decide_eq_false hs]; exact Bool.false_ne_true) ?_
    rw [if_pos (Or.inr (Or.inl hs))]
    exact bad
theorem impl_PagePut_f (lsn : Int) (l : List (List Int)) (s : Int) (d : List Int) (n : Int) (hl : l.length ≤ 1048576) (hd : d.length ≤ 1048576) : Ev (fun k => impl_PagePut.f k lsn l s d n) (putOf lsn l s d n) := by
  unfold impl_PagePut.f putOf
  refine Ev.bind (impl_PageUsed_f lsn l hl) ?_
  have bad : Ev (fun k => impl_PagePut.j0 k s d n true lsn l) (0, [], false) := Ev.step (fun k => by rw [impl_PagePut.j0, if_pos rfl]) (Ev.now _)
  by_cases hu : puOf lsn l < 0
  · rw [if_pos (Or.inl hu)]
    exact ev_pos hu bad
  refine ev_neg hu (ev_bind0 (show impl_isSlot.f s = some (decide (0 ≤ s ∧ s ≤ 15)) by unfold impl_isSlot.f; rw [impl_within_f]; rfl) ?_)
  by_cases hs : 0 ≤ s ∧ s ≤ 15
  · refine ev_pos (decide_eq_true hs) ?_
    by_cases h0 : d.length = 0
    · rw [if_pos (Or.inr (Or.inr (Or.inl h0)))]
      exact ev_pos (by omega) bad
    refine ev_neg (by omega) ?_
    refine ev_bind0 (show impl_isLsn.f n = some (decide (1 ≤ n ∧ n ≤ 1000000)) by unfold impl_isLsn.f; rw [impl_within_f]; rfl) ?_
    by_cases hn : 1 ≤ n ∧ n ≤ 1000000
    · rw [decide_eq_true hn, if_neg (fun h => h.elim hu (fun h => h.elim (fun h => h hs) (fun h => h.elim h0 (fun h => h hn))))]
      have hp := pu_small lsn l hu
      refine Ev.step (fun k => by rw [impl_PagePut.j0, if_neg (by simp)]) (Ev.bind (slots_f lsn l hp.1 hp.2) ?_)
      have := put_impl n s.toNat (by omega) d hd _ l rfl hp.1
      rw [show ((s.toNat : Nat) : Int) = s by omega] at this
      exact this
    · rw [decide_eq_false hn, if_pos (Or.inr (Or.inr (Or.inr hn)))]
      exact bad
  · refine ev_neg (by rw [decide_eq_false hs]; exact Bool.false_ne_true) ?_
    rw [if_pos (Or.inr (Or.inl hs))]
    exact bad

/-- The pure statement. -/
def Stmt : Prop := ∀ (a0_0 : Int) (l0_1 : List (List Int)) (a1 : Int) (l2 : List (Int)) (a3 : Int), ((fun n => (Lit.int .i64 n).wf = true) a0_0) → ((fun xs => xs.length ≤ 9223372036854775807 ∧ ∀ x ∈ xs, (fun xs => xs.length ≤ 9223372036854775807 ∧ ∀ x ∈ xs, (fun n => (Lit.int .u8 n).wf = true) x) x) l0_1) → ((fun n => (Lit.int .i64 n).wf = true) a1) → ((fun xs => xs.length ≤ 9223372036854775807 ∧ ∀ x ∈ xs, (fun n => (Lit.int .u8 n).wf = true) x) l2) → ((fun n => (Lit.int .i64 n).wf = true) a3) → laws_FnExactPagePut.H a0_0 l0_1 a1 l2 a3
theorem main : Stmt := by
  intro lsn l s d n w0 ⟨hl, hw⟩ _ _ _
  have hx : ∀ x ∈ l, x.length ≤ 9223372036854775807 := fun x h => (hw x h).1
  unfold laws_FnExactPagePut.H
  by_cases hd : (1048576 : Int) < (d.length : Int)
  · exact Or.inl hd
  refine Or.inr ⟨hd, ?_⟩
  have hdn : d.length ≤ 1048576 := by omega
  obtain ⟨k1, h1⟩ := Ev.rounds (szPage_f lsn l hl hx 1048576 (by omega) (by omega))
  refine ⟨k1, _, h1, ?_⟩
  by_cases h : (1048576 : Int) < (l.length : Int) + sumLen l
  · rw [if_pos h]
    exact Or.inl (by omega)
  rw [if_neg h]
  refine Or.inr ⟨by omega, ?_⟩
  have hn : l.length ≤ 1048576 := by omega
  have hx2 : ∀ x ∈ l, x.length ≤ 1048576 := fun x hxl => by have := sumLen_mem hxl; omega
  have hc := putOf_small lsn l s d n
  have sp := spec_PagePut_f lsn l s d n hn
  have im := impl_PagePut_f lsn l s d n hn hdn
  generalize putOf lsn l s d n = r at hc sp im
  obtain ⟨r1, r2, r3⟩ := r
  dsimp only at hc
  have hn2 : r2.length ≤ 1048576 := by omega
  have hx3 : ∀ x ∈ r2, x.length ≤ 1048576 := fun x hxl => by have := hc.2 x hxl; omega
  have hsum := sumLen_le r2 16 92 hc.1 hc.2
  obtain ⟨k2, h2⟩ := Ev.rounds (toPage_f lsn l hn hx2)
  obtain ⟨k3, h3⟩ := Ev.rounds sp
  obtain ⟨k4, h4⟩ := Ev.rounds im
  obtain ⟨k5, h5⟩ := Ev.rounds (eqPage_same r1 r2 hn2 hx3)
  obtain ⟨k6, h6⟩ := Ev.rounds (eqPage_same lsn l hn hx2)
  obtain ⟨k7, h7⟩ := Ev.rounds (markPage_f lsn l hn hx2 1 (by omega) (by omega))
  obtain ⟨k8, h8⟩ := Ev.rounds (markPage_f r1 r2 hn2 hx3 1 (by omega) (by omega))
  obtain ⟨k9, h9⟩ := Ev.rounds (heldPage_f r1 r2 hn2 hx3 1 (by omega) (by omega))
  obtain ⟨ka, ha⟩ := Ev.rounds (toByteS_f d hdn)
  obtain ⟨kb, hb⟩ := Ev.rounds (eqByteS_same d hdn)
  obtain ⟨kc, hc2⟩ := Ev.rounds (markByteS_f d hdn (1 + sumLen l) (by omega) (by omega))
  exact ⟨k2, _, _, h2, ka, _, ha, k3, _, _, _, h3, k2, _, _, h2, ka, _, ha, k4, h4, k5, h5, k2, _, _, h2, k6, h6, ka, _, ha, kb, hb, k7, _, _, h7, by omega, kc, _, _, hc2, by omega, k5, h5, k8, _, _, h8, by omega, k9, h9, k2, _, _, h2, ka, _, ha, k4, h4, k5, h5, k9, h9, trivial⟩

end Go.Proofs.Ytokpniagnbaflaa.Pure.ofFnExactPagePut
namespace Go.Proofs.Ytokpniagnbaflaa.PrintWords
/-- The word that the printed row asks for, under the name by which it asks. -/
abbrev sized_ints := @Go.Proofs.YtokpniagnbaflaaW.PrintWords.sized_ints
end Go.Proofs.Ytokpniagnbaflaa.PrintWords
namespace Go.Proofs.Ytokpniagnbaflaa.Pure
open Go.Proofs.Ytokpniagnbaflaa.PFnExactPagePut
theorem FnExactPagePut : ofFnExactPagePut.Stmt := ofFnExactPagePut.main
end Go.Proofs.Ytokpniagnbaflaa.Pure

/-
The law FnExactDiskRead answers true: for every disk and number the program's DiskRead gives the reference's bytes, in memory of its own, and the disk stays as it was.
Conditions: none beyond the bounds of the statement itself.
-/
import Derived.Test.YtipfcppghbijgaaPFnExactDiskReadx6
import Derived.Test.YtipfcppghbijgaaWSized
set_option linter.unusedVariables false
set_option linter.unusedSimpArgs false
namespace Go.Proofs.Ytipfcppghbijgaa.Pure.ofFnExactDiskRead
open Go.RowKit Go.Proofs.Ytipfcppghbijgaa.PFnExactDiskRead Go.Proofs.YtipfcppghbijgaaW.PrintWords Go.Proofs.YtipfcppghbijgaaW.PrintLast Go.Proofs.YtipfcppghbijgaaW.PrintMore

theorem ev_pos {α : Type} {c : Prop} [Decidable c] {A B : Nat → Option α} {r : α} (hc : c) (h : Ev A r) : Ev (fun k => if c then A k else B k) r := by
  refine Ev.congr (fun k => ?_) h
  rw [if_pos hc]
theorem ev_neg {α : Type} {c : Prop} [Decidable c] {A B : Nat → Option α} {r : α} (hc : ¬ c) (h : Ev B r) : Ev (fun k => if c then A k else B k) r := by
  refine Ev.congr (fun k => ?_) h
  rw [if_neg hc]
theorem ev_bind0 {α β : Type} {g : Option α} {f : Nat → α → Option β} {a : α} {r : β} (h : g = some a) (k : Ev (fun n => f n a) r) : Ev (fun n => g.bind (f n)) r := by
  refine Ev.congr (fun n => ?_) k
  rw [h]; rfl
theorem w64 {x : Int} (h0 : -9223372036854775808 ≤ x) (h1 : x ≤ 9223372036854775807) : wrap64 x = x := by
  unfold wrap64; omega
theorem rd_cons (x : Int) (l : List Int) : rd (x :: l) 0 = x := rfl
theorem rd_nat (l : List Int) (i : Nat) (h : i < l.length) : rd l (i : Int) = l[i] := by
  simp [rd, List.getD_eq_getElem?_getD, List.getElem?_eq_getElem h]
theorem rd_at (l : List Int) (i : Int) (h0 : 0 ≤ i) (h : i < l.length) : ∃ x, x ∈ l ∧ rd l i = x := by
  obtain ⟨n, rfl⟩ := Int.eq_ofNat_of_zero_le h0
  exact ⟨l[n]'(by omega), List.getElem_mem _, rd_nat l n (by omega)⟩
def marks (m : Int) : Nat → List Int
  | 0 => []
  | n + 1 => m :: marks (m + 1) n
def marksB (m : Int) : Nat → List Int
  | 0 => []
  | n + 1 => (m % 256) :: marksB (m + 1) n
theorem marks_length (n : Nat) : ∀ m, (marks m n).length = n := by
  induction n with
  | zero => intro m; rfl
  | succ n ih => intro m; simp [marks, ih]
theorem marksB_length (n : Nat) : ∀ m, (marksB m n).length = n := by
  induction n with
  | zero => intro m; rfl
  | succ n ih => intro m; simp [marksB, ih]
theorem marks_get (n : Nat) : ∀ m (i : Nat) (h : i < (marks m n).length), (marks m n)[i] = m + i := by
  induction n with
  | zero => intro m i h; simp [marks] at h
  | succ n ih =>
    intro m i h
    cases i with
    | zero => simp [marks]
    | succ i => simp only [marks, List.getElem_cons_succ]; rw [ih]; push_cast; omega
theorem marksB_get (n : Nat) : ∀ m (i : Nat) (h : i < (marksB m n).length), (marksB m n)[i] = (m + i) % 256 := by
  induction n with
  | zero => intro m i h; simp [marksB] at h
  | succ n ih =>
    intro m i h
    cases i with
    | zero => simp [marksB]
    | succ i => simp only [marksB, List.getElem_cons_succ]; rw [ih]; push_cast; omega

theorem impl_within_f (a b c : Int) : impl_within.f a b c = some (decide (b ≤ a ∧ a ≤ c)) := by
  unfold impl_within.f
  by_cases h : b ≤ a <;> simp [h]

theorem toByteS_l (l : List Int) (hn : l.length ≤ 1048576) (d : Nat) : ∀ (i : Nat) (y : List Int), i + d = l.length → y.length = l.length → (∀ j, j < i → y[j]? = l[j]?) → Ev (fun k => laws_toByteS.l0 k l y (i : Int)) l := by
  induction d with
  | zero =>
    intro i y hi hy hj
    refine Ev.step (f := fun _ => some l) (fun k => ?_) (Ev.now _)
    simp only [laws_toByteS.l0]
    rw [if_neg (by omega)]
    congr 1
    refine List.ext_getElem? fun j => ?_
    by_cases h : j < i
    · exact hj j h
    · rw [List.getElem?_eq_none (by omega), List.getElem?_eq_none (by omega)]
  | succ d ih =>
    intro i y hi hy hj
    refine Ev.step (f := fun k => laws_toByteS.l0 k l (y.set i (rd l i)) ((i + 1 : Nat) : Int)) (fun k => ?_) (ih (i + 1) _ (by omega) (by simp [hy]) ?_)
    · simp only [laws_toByteS.l0]
      rw [if_pos (by omega), if_pos (by omega), if_pos (by omega), w64 (by omega) (by omega)]
      simp
    · intro j hlt
      by_cases h : j = i
      · subst h
        rw [List.getElem?_set_self (by omega), rd_nat l j (by omega), List.getElem?_eq_getElem (by omega)]
      · rw [List.getElem?_set_ne (by omega)]
        exact hj j (by omega)
theorem toByteS_f (l : List Int) (hn : l.length ≤ 1048576) : Ev (fun k => laws_toByteS.f k l) l := by
  unfold laws_toByteS.f
  refine ev_pos (by omega) (ev_pos (by omega) ?_)
  exact toByteS_l l hn l.length 0 _ (by omega) (by simp) (by intro j h; omega)

theorem eqByteS_l (a b : List Int) (hn : a.length ≤ 1048576) (hab : a.length = b.length) (d : Nat) : ∀ (i : Nat), i + d = a.length → (∀ j, j < i → a[j]? = b[j]?) → Ev (fun k => laws_eqByteS.l0 k a b (i : Int)) (decide (a = b)) := by
  induction d with
  | zero =>
    intro i hi hj
    refine Ev.step (f := fun _ => some true) (fun k => ?_) ?_
    · simp only [laws_eqByteS.l0]
      rw [if_neg (by omega)]
    · have : a = b := by
        refine List.ext_getElem? fun j => ?_
        by_cases h : j < i
        · exact hj j h
        · rw [List.getElem?_eq_none (by omega), List.getElem?_eq_none (by omega)]
      rw [decide_eq_true this]
      exact Ev.now _
  | succ d ih =>
    intro i hi hj
    have ha : rd a (i : Int) = a[i]'(by omega) := rd_nat a i (by omega)
    have hb : rd b (i : Int) = b[i]'(by omega) := rd_nat b i (by omega)
    by_cases he : rd a (i : Int) = rd b (i : Int)
    · refine Ev.step (f := fun k => laws_eqByteS.l0 k a b ((i + 1 : Nat) : Int)) (fun k => ?_) (ih (i + 1) (by omega) ?_)
      · simp only [laws_eqByteS.l0]
        rw [if_pos (by omega), if_pos (by omega), if_pos (by omega), if_pos he, w64 (by omega) (by omega)]
        simp
      · intro j hlt
        by_cases h : j = i
        · subst h
          rw [List.getElem?_eq_getElem (by omega), List.getElem?_eq_getElem (by omega), ← ha, ← hb, he]
        · exact hj j (by omega)
    · refine Ev.step (f := fun _ => some false) (fun k => ?_) ?_
      · simp only [laws_eqByteS.l0]
        rw [if_pos (by omega), if_pos (by omega), if_pos (by omega), if_neg he]
      · have : ¬ a = b := by
          rintro rfl
          exact he rfl
        rw [decide_eq_false this]
        exact Ev.now _
theorem eqByteS_f (a b : List Int) (hn : a.length ≤ 1048576) : Ev (fun k => laws_eqByteS.f k a b) (decide (a = b)) := by
  unfold laws_eqByteS.f
  by_cases h : a.length = b.length
  · refine ev_pos (by omega) ?_
    exact eqByteS_l a b hn h a.length 0 (by omega) (by intro j h; omega)
  · refine ev_neg (by omega) ?_
    rw [decide_eq_false (by rintro rfl; exact h rfl)]
    exact Ev.now _
theorem eqByteS_same (a : List Int) (hn : a.length ≤ 1048576) : Ev (fun k => laws_eqByteS.f k a a) true := by
  have := eqByteS_f a a hn
  rwa [decide_eq_true rfl] at this

theorem markByteS_l (a : List Int) (hn : a.length ≤ 1048576) (m0 : Int) (h0 : 0 ≤ m0) (h1 : m0 ≤ 1000000000000) (d : Nat) : ∀ (i : Nat) (y : List Int), i + d = a.length → y.length = a.length → (∀ j, j < i → y[j]? = (marksB m0 a.length)[j]?) → Ev (fun k => laws_markByteS.l0 k y (m0 + i) (i : Int)) (m0 + a.length, marksB m0 a.length) := by
  have hml := marksB_length a.length m0
  induction d with
  | zero =>
    intro i y hi hy hj
    refine Ev.step (f := fun _ => some (m0 + a.length, marksB m0 a.length)) (fun k => ?_) (Ev.now _)
    simp only [laws_markByteS.l0]
    rw [if_neg (by omega)]
    have hy2 : y = marksB m0 a.length := by
      refine List.ext_getElem? fun j => ?_
      by_cases h : j < i
      · exact hj j h
      · rw [List.getElem?_eq_none (by omega), List.getElem?_eq_none (by omega)]
    rw [hy2, show (i : Int) = a.length by omega]
  | succ d ih =>
    intro i y hi hy hj
    refine Ev.step (f := fun k => laws_markByteS.l0 k (y.set i ((m0+i)%256)) (m0 + (i + 1 : Nat)) ((i + 1 : Nat) : Int)) (fun k => ?_) (ih (i + 1) _ (by omega) (by simp [hy]) ?_)
    · simp only [laws_markByteS.l0]
      rw [if_pos (by omega), if_pos (by omega), w64 (by omega) (by omega), w64 (by omega) (by omega)]
      simp [Int.add_assoc]
    · intro j hlt
      by_cases h : j = i
      · subst h
        rw [List.getElem?_set_self (by omega), List.getElem?_eq_getElem (by omega), marksB_get]
      · rw [List.getElem?_set_ne (by omega)]
        exact hj j (by omega)
theorem markByteS_f (a : List Int) (hn : a.length ≤ 1048576) (m : Int) (h0 : 0 ≤ m) (h1 : m ≤ 1000000000000) : Ev (fun k => laws_markByteS.f k a m) (m + a.length, marksB m a.length) := by
  unfold laws_markByteS.f
  have := markByteS_l a hn m h0 h1 a.length 0 a (by omega) rfl (by intro j h; omega)
  simpa using this

theorem heldByteS_l (n : Nat) (hn : n ≤ 1048576) (m0 : Int) (h0 : 0 ≤ m0) (h1 : m0 ≤ 1000000000000) (d : Nat) : ∀ (i : Nat), i + d = n → Ev (fun k => laws_heldByteS.l0 k (marksB m0 n) (m0 + i) (i : Int)) (m0 + n) := by
  have hml := marksB_length n m0
  induction d with
  | zero =>
    intro i hi
    refine Ev.step (f := fun _ => some (m0 + n)) (fun k => ?_) (Ev.now _)
    simp only [laws_heldByteS.l0]
    rw [if_neg (by omega), show (i : Int) = n by omega]
  | succ d ih =>
    intro i hi
    refine Ev.step (f := fun k => laws_heldByteS.l0 k (marksB m0 n) (m0 + (i + 1 : Nat)) ((i + 1 : Nat) : Int)) (fun k => ?_) (ih (i + 1) (by omega))
    simp only [laws_heldByteS.l0]
    rw [if_pos (by omega), if_pos (by omega), if_pos (by rw [rd_nat _ i (by omega), marksB_get]), w64 (by omega) (by omega), w64 (by omega) (by omega)]
    simp [Int.add_assoc]
theorem heldByteS_f (n : Nat) (hn : n ≤ 1048576) (m : Int) (h0 : 0 ≤ m) (h1 : m ≤ 1000000000000) : Ev (fun k => laws_heldByteS.f k (marksB m n) m) (m + n) := by
  unfold laws_heldByteS.f
  have := heldByteS_l n hn m h0 h1 n 0 (by omega)
  simpa using this

theorem szByte_f (l : List Int) (left : Int) (h0 : 0 ≤ left) (h1 : left ≤ 1048576) (hl : l.length ≤ 9223372036854775807) : laws_szByteS.f l left = some (if left < l.length then -1 else left - l.length) := by
  unfold laws_szByteS.f
  rw [w64 (by omega) (by omega)]
  by_cases h : left < l.length
  · rw [if_pos (by omega), if_pos h]
  · rw [if_neg (by omega), if_neg h]

def sumLen : List (List Int) → Nat
  | [] => 0
  | x :: l => x.length + sumLen l
theorem rdl_nat (l : List (List Int)) (i : Nat) (h : i < l.length) : rd_L1 l (i : Int) = l[i] := by
  simp [rd_L1, List.getD_eq_getElem?_getD, List.getElem?_eq_getElem h]
theorem sumLen_drop (l : List (List Int)) (i : Nat) (h : i < l.length) : sumLen (l.drop i) = (l[i]).length + sumLen (l.drop (i + 1)) := by
  rw [List.drop_eq_getElem_cons h]
  rfl
theorem sumLen_mem {l : List (List Int)} {x : List Int} (h : x ∈ l) : x.length ≤ sumLen l := by
  induction l with
  | nil => cases h
  | cons y l ih =>
    simp only [sumLen]
    rcases List.mem_cons.1 h with rfl | h
    · omega
    · have := ih h; omega
theorem szByteSS_l (l : List (List Int)) (hx : ∀ x ∈ l, x.length ≤ 9223372036854775807) (hn : l.length ≤ 1048576) (d : Nat) : ∀ (i : Nat) (left : Int), i + d = l.length → 0 ≤ left → left ≤ 1048576 →
    Ev (fun k => laws_szByteSS.l0 k l left (i : Int)) (if left < sumLen (l.drop i) then -1 else left - sumLen (l.drop i)) := by
  induction d with
  | zero =>
    intro i left hi h0 h1
    refine Ev.step (f := fun _ => some left) (fun k => ?_) ?_
    · simp only [laws_szByteSS.l0]
      rw [if_neg (by omega)]
    · have e : sumLen (l.drop i) = 0 := by
        rw [List.drop_eq_nil_of_le (by omega)]
        rfl
      have hz : (if left < sumLen (l.drop i) then (-1 : Int) else left - sumLen (l.drop i)) = left := by
        rw [if_neg (by omega)]
        omega
      rw [hz]
      exact Ev.now _
  | succ d ih =>
    intro i left hi h0 h1
    have hr := rdl_nat l i (by omega)
    have hl := hx (l[i]'(by omega)) (List.getElem_mem _)
    have hs := szByte_f (l[i]'(by omega)) left h0 h1 hl
    have hd := sumLen_drop l i (by omega)
    by_cases h : left < (l[i]'(by omega)).length
    · rw [if_pos h] at hs
      refine Ev.step (f := fun _ => some (-1)) (fun k => ?_) ?_
      · simp only [laws_szByteSS.l0]
        rw [if_pos (by omega), if_pos (by omega), hr, hs]
        simp
      · rw [if_pos (by omega)]
        exact Ev.now _
    · rw [if_neg h] at hs
      have h2 := ih (i + 1) (left - (l[i]'(by omega)).length) (by omega) (by omega) (by omega)
      have e : (if left < sumLen (l.drop i) then (-1 : Int) else left - sumLen (l.drop i)) = (if left - (l[i]'(by omega)).length < sumLen (l.drop (i + 1)) then -1 else left - (l[i]'(by omega)).length - sumLen (l.drop (i + 1))) := by
        rw [hd]
        by_cases hc : left < (((l[i]'(by omega)).length + sumLen (l.drop (i + 1)) : Nat) : Int)
        · rw [if_pos hc, if_pos (by omega)]
        · rw [if_neg hc, if_neg (by omega)]; omega
      rw [e]
      refine Ev.step (fun k => ?_) h2
      simp only [laws_szByteSS.l0]
      rw [if_pos (by omega), if_pos (by omega), hr, hs]
      simp only [Option.bind_some]
      rw [if_neg (by omega), w64 (by omega) (by omega)]
      rfl
theorem szByteSS_f (l : List (List Int)) (hl : l.length ≤ 9223372036854775807) (hx : ∀ x ∈ l, x.length ≤ 9223372036854775807) (left : Int) (h0 : 0 ≤ left) (h1 : left ≤ 1048576) :
    Ev (fun k => laws_szByteSS.f k l left) (if left < (l.length : Int) + sumLen l then -1 else left - ((l.length : Int) + sumLen l)) := by
  unfold laws_szByteSS.f
  rw [w64 (by omega) (by omega)]
  by_cases h : left - l.length < 0
  · rw [if_pos (by omega)]
    exact ev_pos h (Ev.now _)
  · have h2 := szByteSS_l l hx (by omega) l.length 0 (left - l.length) (by omega) (by omega) (by omega)
    rw [List.drop_zero] at h2
    have e : (if left < (l.length : Int) + sumLen l then (-1 : Int) else left - ((l.length : Int) + sumLen l)) = (if left - l.length < sumLen l then -1 else left - l.length - sumLen l) := by
      by_cases hc : left < (l.length : Int) + sumLen l
      · rw [if_pos hc, if_pos (by omega)]
      · rw [if_neg hc, if_neg (by omega)]; omega
    rw [e]
    exact ev_neg h h2
theorem toByteSS_l (l : List (List Int)) (hn : l.length ≤ 1048576) (hx : ∀ x ∈ l, x.length ≤ 1048576) (d : Nat) : ∀ (i : Nat) (y : List (List Int)), i + d = l.length → y.length = l.length → (∀ j, j < i → y[j]? = l[j]?) → Ev (fun k => laws_toByteSS.l0 k l y (i : Int)) l := by
  induction d with
  | zero =>
    intro i y hi hy hj
    refine Ev.step (f := fun _ => some l) (fun k => ?_) (Ev.now _)
    simp only [laws_toByteSS.l0]
    rw [if_neg (by omega)]
    congr 1
    refine List.ext_getElem? fun j => ?_
    by_cases h : j < i
    · exact hj j h
    · rw [List.getElem?_eq_none (by omega), List.getElem?_eq_none (by omega)]
  | succ d ih =>
    intro i y hi hy hj
    have hr := rdl_nat l i (by omega)
    have ht := toByteS_f (l[i]'(by omega)) (hx _ (List.getElem_mem _))
    have h2 := ih (i + 1) (y.set i (l[i]'(by omega))) (by omega) (by simp [hy]) (by
      intro j hlt
      by_cases h : j = i
      · subst h
        rw [List.getElem?_set_self (by omega), List.getElem?_eq_getElem (by omega)]
      · rw [List.getElem?_set_ne (by omega)]
        exact hj j (by omega))
    refine Ev.step (f := fun k => (laws_toByteS.f k (l[i]'(by omega))).bind fun t => if (i : Int) < (y.length : Int) then laws_toByteSS.l0 k l (y.set (i : Int).toNat t) (wrap64 ((i : Int) + 1)) else none) (fun k => ?_) (Ev.bind ht ?_)
    · simp only [laws_toByteSS.l0]
      rw [if_pos (by omega), if_pos (by omega), hr]
    · refine ev_pos (by omega) ?_
      rw [w64 (by omega) (by omega), Int.toNat_natCast]
      exact h2
theorem toByteSS_f (l : List (List Int)) (hn : l.length ≤ 1048576) (hx : ∀ x ∈ l, x.length ≤ 1048576) : Ev (fun k => laws_toByteSS.f k l) l := by
  unfold laws_toByteSS.f
  refine ev_pos (by omega) (ev_pos (by omega) ?_)
  exact toByteSS_l l hn hx l.length 0 _ (by omega) (by simp) (by intro j h; omega)

theorem eqByteSS_l (l : List (List Int)) (hn : l.length ≤ 1048576) (hx : ∀ x ∈ l, x.length ≤ 1048576) (d : Nat) : ∀ (i : Nat), i + d = l.length → Ev (fun k => laws_eqByteSS.l0 k l l (i : Int)) true := by
  induction d with
  | zero =>
    intro i hi
    refine Ev.step (f := fun _ => some true) (fun k => ?_) (Ev.now _)
    simp only [laws_eqByteSS.l0]
    rw [if_neg (by omega)]
  | succ d ih =>
    intro i hi
    have hr := rdl_nat l i (by omega)
    have ht := eqByteS_same (l[i]'(by omega)) (hx _ (List.getElem_mem _))
    refine Ev.step (f := fun k => (laws_eqByteS.f k (l[i]'(by omega)) (l[i]'(by omega))).bind fun t => if t = true then laws_eqByteSS.l0 k l l (wrap64 ((i : Int) + 1)) else some false) (fun k => ?_) (Ev.bind ht (ev_pos rfl ?_))
    · simp only [laws_eqByteSS.l0]
      rw [if_pos (by omega), if_pos (by omega), hr]
      rw [if_pos (by omega)]
    · rw [w64 (by omega) (by omega)]
      exact ih (i + 1) (by omega)
theorem eqByteSS_same (l : List (List Int)) (hn : l.length ≤ 1048576) (hx : ∀ x ∈ l, x.length ≤ 1048576) : Ev (fun k => laws_eqByteSS.f k l l) true := by
  unfold laws_eqByteSS.f
  exact ev_pos rfl (eqByteSS_l l hn hx l.length 0 (by omega))

/-- the law's element as the program's -/
def cvWrite (x : S83) : S68 := ⟨(x).f0, (x).f1⟩
theorem rdA_Write (l : List S83) (i : Nat) (h : i < l.length) : rd_T83 l (i : Int) = l[i] := by
  simp [rd_T83, List.getD_eq_getElem?_getD, List.getElem?_eq_getElem h]
theorem rdB_Write (l : List S68) (i : Nat) (h : i < l.length) : rd_T68 l (i : Int) = l[i] := by
  simp [rd_T68, List.getD_eq_getElem?_getD, List.getElem?_eq_getElem h]
/-- how many bytes the elements have together -/
def sumWrite : List S83 → Nat
  | [] => 0
  | x :: l => ((x).f1).length + sumWrite l
theorem sumWrite_drop (l : List S83) (i : Nat) (h : i < l.length) : sumWrite (l.drop i) = ((l[i]).f1).length + sumWrite (l.drop (i + 1)) := by
  rw [List.drop_eq_getElem_cons h]
  rfl
theorem sumWrite_mem {l : List S83} {x : S83} (h : x ∈ l) : ((x).f1).length ≤ sumWrite l := by
  induction l with
  | nil => cases h
  | cons y l ih =>
    simp only [sumWrite]
    rcases List.mem_cons.1 h with rfl | h
    · omega
    · have := ih h; omega
theorem szWrite_f (x : S83) (left : Int) (h0 : 0 ≤ left) (h1 : left ≤ 1048576) (hl : ((x).f1).length ≤ 9223372036854775807) : laws_szWrite.f (x).f0 (x).f1 left = some (if left < ((x).f1).length then -1 else left - ((x).f1).length) := by
  unfold laws_szWrite.f
  rw [szByte_f _ left h0 h1 hl]
  by_cases h : left < ((x).f1).length
  · rw [if_pos h]; rfl
  · rw [if_neg h, Option.bind_some, if_neg (by omega)]
theorem szWriteS_l (l : List S83) (hx : ∀ x ∈ l, ((x).f1).length ≤ 9223372036854775807) (hn : l.length ≤ 1048576) (d : Nat) : ∀ (i : Nat) (left : Int), i + d = l.length → 0 ≤ left → left ≤ 1048576 →
    Ev (fun k => laws_szWriteS.l0 k l left (i : Int)) (if left < sumWrite (l.drop i) then -1 else left - sumWrite (l.drop i)) := by
  induction d with
  | zero =>
    intro i left hi h0 h1
    refine Ev.step (f := fun _ => some left) (fun k => ?_) ?_
    · simp only [laws_szWriteS.l0]
      rw [if_neg (by omega)]
    · have e : sumWrite (l.drop i) = 0 := by
        rw [List.drop_eq_nil_of_le (by omega)]
        rfl
      have hz : (if left < sumWrite (l.drop i) then (-1 : Int) else left - sumWrite (l.drop i)) = left := by
        rw [if_neg (by omega)]
        omega
      rw [hz]
      exact Ev.now _
  | succ d ih =>
    intro i left hi h0 h1
    have hr := rdA_Write l i (by omega)
    have hl := hx (l[i]'(by omega)) (List.getElem_mem _)
    have hs := szWrite_f (l[i]'(by omega)) left h0 h1 hl
    have hd := sumWrite_drop l i (by omega)
    generalize hm : ((l[i]'(by omega)).f1).length = m at hs hd
    by_cases h : left < (m : Int)
    · rw [if_pos h] at hs
      refine Ev.step (f := fun _ => some (-1)) (fun k => ?_) ?_
      · simp only [laws_szWriteS.l0]
        rw [if_pos (by omega), if_pos (by omega), hr, hs]
        simp
      · rw [if_pos (by omega)]
        exact Ev.now _
    · rw [if_neg h] at hs
      have h2 := ih (i + 1) (left - m) (by omega) (by omega) (by omega)
      have e : (if left < sumWrite (l.drop i) then (-1 : Int) else left - sumWrite (l.drop i)) = (if left - m < sumWrite (l.drop (i + 1)) then -1 else left - m - sumWrite (l.drop (i + 1))) := by
        rw [hd]
        by_cases hc : left < ((m + sumWrite (l.drop (i + 1)) : Nat) : Int)
        · rw [if_pos hc, if_pos (by omega)]
        · rw [if_neg hc, if_neg (by omega)]; omega
      rw [e]
      refine Ev.step (fun k => ?_) h2
      simp only [laws_szWriteS.l0]
      rw [if_pos (by omega), if_pos (by omega), hr, hs]
      simp only [Option.bind_some]
      rw [if_neg (by omega), w64 (by omega) (by omega)]
      rfl
theorem szWriteS_f (l : List S83) (hl : l.length ≤ 9223372036854775807) (hx : ∀ x ∈ l, ((x).f1).length ≤ 9223372036854775807) (left : Int) (h0 : 0 ≤ left) (h1 : left ≤ 1048576) :
    Ev (fun k => laws_szWriteS.f k l left) (if left < (l.length : Int) + sumWrite l then -1 else left - ((l.length : Int) + sumWrite l)) := by
  unfold laws_szWriteS.f
  rw [w64 (by omega) (by omega)]
  by_cases h : left - l.length < 0
  · rw [if_pos (by omega)]
    exact ev_pos h (Ev.now _)
  · have h2 := szWriteS_l l hx (by omega) l.length 0 (left - l.length) (by omega) (by omega) (by omega)
    rw [List.drop_zero] at h2
    have e : (if left < (l.length : Int) + sumWrite l then (-1 : Int) else left - ((l.length : Int) + sumWrite l)) = (if left - l.length < sumWrite l then -1 else left - l.length - sumWrite l) := by
      by_cases hc : left < (l.length : Int) + sumWrite l
      · rw [if_pos hc, if_pos (by omega)]
      · rw [if_neg hc, if_neg (by omega)]; omega
    rw [e]
    exact ev_neg h h2
theorem toWrite_f (x : S83) (h : ((x).f1).length ≤ 1048576) : Ev (fun k => laws_toWrite.f k (x).f0 (x).f1) ((x).f0, (x).f1) := by
  unfold laws_toWrite.f
  exact Ev.bind (toByteS_f _ h) (Ev.now _)
theorem toWriteS_l (l : List S83) (hn : l.length ≤ 1048576) (hx : ∀ x ∈ l, ((x).f1).length ≤ 1048576) (d : Nat) : ∀ (i : Nat) (y : List S68), i + d = l.length → y.length = l.length → (∀ j, j < i → y[j]? = (l.map cvWrite)[j]?) → Ev (fun k => laws_toWriteS.l0 k l y (i : Int)) (l.map cvWrite) := by
  induction d with
  | zero =>
    intro i y hi hy hj
    refine Ev.step (f := fun _ => some (l.map cvWrite)) (fun k => ?_) (Ev.now _)
    simp only [laws_toWriteS.l0]
    rw [if_neg (by omega)]
    congr 1
    refine List.ext_getElem? fun j => ?_
    by_cases h : j < i
    · exact hj j h
    · rw [List.getElem?_eq_none (by omega), List.getElem?_eq_none (by rw [List.length_map]; omega)]
  | succ d ih =>
    intro i y hi hy hj
    have hr := rdA_Write l i (by omega)
    have ht := toWrite_f (l[i]'(by omega)) (hx _ (List.getElem_mem _))
    have h2 := ih (i + 1) (y.set i (cvWrite (l[i]'(by omega)))) (by omega) (by simp [hy]) (by
      intro j hlt
      by_cases h : j = i
      · subst h
        rw [List.getElem?_set_self (by omega), List.getElem?_map, List.getElem?_eq_getElem (by omega)]
        rfl
      · rw [List.getElem?_set_ne (by omega)]
        exact hj j (by omega))
    refine Ev.step (fun k => by rw [laws_toWriteS.l0, if_pos (by omega), if_pos (by omega), hr]) (Ev.bind ht ?_)
    refine ev_pos (by omega) ?_
    rw [w64 (by omega) (by omega), Int.toNat_natCast]
    exact h2
theorem toWriteS_f (l : List S83) (hn : l.length ≤ 1048576) (hx : ∀ x ∈ l, ((x).f1).length ≤ 1048576) : Ev (fun k => laws_toWriteS.f k l) (l.map cvWrite) := by
  unfold laws_toWriteS.f
  refine ev_pos (by omega) (ev_pos (by omega) ?_)
  exact toWriteS_l l hn hx l.length 0 _ (by omega) (by simp) (by intro j h; omega)
theorem eqWrite_same (x : S68) (h : ((x).f1).length ≤ 1048576) : Ev (fun k => laws_eqWrite.f k (x).f0 (x).f1 (x).f0 (x).f1) true := by
  unfold laws_eqWrite.f
  repeat refine ev_pos rfl ?_
  refine Ev.bind (eqByteS_same _ h) ?_
  exact ev_pos rfl (Ev.now _)
theorem eqWriteS_l (l : List S68) (hn : l.length ≤ 1048576) (hx : ∀ x ∈ l, ((x).f1).length ≤ 1048576) (d : Nat) : ∀ (i : Nat), i + d = l.length → Ev (fun k => laws_eqWriteS.l0 k l l (i : Int)) true := by
  induction d with
  | zero =>
    intro i hi
    refine Ev.step (fun k => by rw [laws_eqWriteS.l0, if_neg (by omega)]) (Ev.now _)
  | succ d ih =>
    intro i hi
    have hr := rdB_Write l i (by omega)
    have ht := eqWrite_same (l[i]'(by omega)) (hx _ (List.getElem_mem _))
    refine Ev.step (fun k => by rw [laws_eqWriteS.l0, if_pos (by omega), if_pos (by omega), if_pos (by omega), hr]) (Ev.bind ht (ev_pos rfl ?_))
    rw [w64 (by omega) (by omega)]
    exact ih (i + 1) (by omega)
theorem eqWriteS_same (l : List S68) (hn : l.length ≤ 1048576) (hx : ∀ x ∈ l, ((x).f1).length ≤ 1048576) : Ev (fun k => laws_eqWriteS.f k l l) true := by
  unfold laws_eqWriteS.f
  exact ev_pos rfl (eqWriteS_l l hn hx l.length 0 (by omega))

theorem szDisk_f (l : List (List Int)) (ws : List S83) (f : Int) (dn : Bool) (hl : l.length ≤ 9223372036854775807) (hx : ∀ x ∈ l, x.length ≤ 9223372036854775807) (hl2 : ws.length ≤ 9223372036854775807) (hx2 : ∀ x ∈ ws, x.f1.length ≤ 9223372036854775807) :
    Ev (fun k => laws_szDisk.f k l ws f dn 1048576) (if (1048576 : Int) < l.length + sumLen l + ws.length + sumWrite ws then -1 else 1048576 - (l.length + sumLen l + ws.length + sumWrite ws)) := by
  unfold laws_szDisk.f
  refine Ev.bind (szByteSS_f l hl hx 1048576 (by omega) (by omega)) ?_
  by_cases h : (1048576 : Int) < (l.length : Int) + sumLen l
  · rw [if_pos h, if_pos (by omega)]
    exact ev_pos (by omega) (Ev.now _)
  · rw [if_neg h]
    refine ev_neg (by omega) ?_
    refine Ev.bind (szWriteS_f ws hl2 hx2 _ (by omega) (by omega)) ?_
    by_cases h2 : (1048576 : Int) < l.length + sumLen l + ws.length + sumWrite ws
    · rw [if_pos h2, show (if (1048576 : Int) - ((l.length : Int) + sumLen l) < (ws.length : Int) + sumWrite ws then (-1 : Int) else 1048576 - ((l.length : Int) + sumLen l) - ((ws.length : Int) + sumWrite ws)) = -1 from if_pos (by omega)]
      exact ev_pos (by omega) (Ev.now _)
    · rw [if_neg h2, show (if (1048576 : Int) - ((l.length : Int) + sumLen l) < (ws.length : Int) + sumWrite ws then (-1 : Int) else 1048576 - ((l.length : Int) + sumLen l) - ((ws.length : Int) + sumWrite ws)) = 1048576 - ((l.length : Int) + sumLen l) - ((ws.length : Int) + sumWrite ws) from if_neg (by omega)]
      refine ev_neg (by omega) ?_
      rw [show (1048576 : Int) - ((l.length : Int) + sumLen l) - ((ws.length : Int) + sumWrite ws) = 1048576 - (l.length + sumLen l + ws.length + sumWrite ws) by omega]
      exact Ev.now _
theorem toDisk_f (l : List (List Int)) (ws : List S83) (f : Int) (dn : Bool) (hn : l.length ≤ 1048576) (hx : ∀ x ∈ l, x.length ≤ 1048576) (hn2 : ws.length ≤ 1048576) (hx2 : ∀ x ∈ ws, x.f1.length ≤ 1048576) : Ev (fun k => laws_toDisk.f k l ws f dn) (l, ws.map cvWrite, f, dn) := by
  unfold laws_toDisk.f
  exact Ev.bind (toByteSS_f l hn hx) (Ev.bind (toWriteS_f ws hn2 hx2) (Ev.now _))
theorem eqDisk_same (l : List (List Int)) (ws : List S68) (f : Int) (dn : Bool) (hn : l.length ≤ 1048576) (hx : ∀ x ∈ l, x.length ≤ 1048576) (hn2 : ws.length ≤ 1048576) (hx2 : ∀ x ∈ ws, x.f1.length ≤ 1048576) : Ev (fun k => laws_eqDisk.f k l ws f dn l ws f dn) true := by
  unfold laws_eqDisk.f
  refine Ev.bind (eqByteSS_same l hn hx) (ev_pos rfl ?_)
  refine Ev.bind (eqWriteS_same ws hn2 hx2) (ev_pos rfl ?_)
  refine ev_pos rfl (ev_neg (by cases dn <;> decide) (Ev.now _))
theorem cvWrite_mem {ws : List S83} {n : Nat} (h : ∀ x ∈ ws, x.f1.length ≤ n) : ∀ x ∈ ws.map cvWrite, x.f1.length ≤ n := by
  intro x hx
  obtain ⟨y, hy, rfl⟩ := List.mem_map.1 hx
  exact h y hy

/-- when a disk is valid -/
def diskOkP (l : List (List Int)) (ws : List S68) (f : Int) : Bool :=
  decide (1 ≤ l.length ∧ l.length ≤ 512 ∧ ws.length ≤ 600 ∧ -1 ≤ f) && (l.all fun x => (x.length : Int) == 64) && (ws.all fun x => isW l.length x.f0 x.f1)
theorem not_any {α : Type} (p : α → Bool) (l : List α) : (!(l.any fun x => !(p x))) = l.all p := by
  induction l with
  | nil => rfl
  | cons x l ih => rw [List.any_cons, List.all_cons, Bool.not_or, ih, Bool.not_not]
theorem impl_DiskOk_f (l : List (List Int)) (ws : List S68) (f : Int) (dn : Bool) : impl_DiskOk.f l ws f dn = some (diskOkP l ws f) := by
  unfold impl_DiskOk.f diskOkP
  rw [impl_within_f, Option.bind_some]
  by_cases h1 : 1 ≤ (l.length : Int) ∧ (l.length : Int) ≤ 512
  · rw [if_pos (decide_eq_true h1)]
    by_cases h2 : (ws.length : Int) ≤ 600
    · rw [if_pos h2]
      by_cases h3 : f ≥ -1
      · rw [if_pos h3, decide_eq_true (by omega)]
        have e1 : impl_areAll_byte.f l = some (l.all fun x => (x.length : Int) == 64) := by unfold impl_areAll_byte.f; rw [if_pos (by omega), not_any]
        have e2 : impl_Write_48.f ws (l.length : Int) = some (ws.all fun x => isW l.length x.f0 x.f1) := by unfold impl_Write_48.f; rw [if_pos ⟨by omega, by omega⟩, not_any]
        rw [e1, e2, Option.bind_some, Bool.true_and, Option.bind_some]
        cases l.all fun x => (x.length : Int) == 64 with
        | true => rfl
        | false => rfl
      · rw [if_neg h3, decide_eq_false (by omega)]; rfl
    · rw [if_neg h2, decide_eq_false (by omega)]; rfl
  · rw [if_neg (by simpa using h1), decide_eq_false (by omega)]; rfl
theorem all_drop {α : Type} (p : α → Bool) (l : List α) (i : Nat) (h : i < l.length) : (l.drop i).all p = (p (l[i]) && (l.drop (i + 1)).all p) := by
  rw [List.drop_eq_getElem_cons h, List.all_cons]
theorem spec_DiskOk_l1 (l : List (List Int)) (ws : List S68) (f : Int) (dn : Bool) (hl : l.length ≤ 512) (hw : ws.length ≤ 600) (d : Nat) : ∀ i : Nat, i + d = ws.length → Ev (fun k => spec_DiskOk.l1 k (i : Int) l ws f dn) ((ws.drop i).all fun x => isW l.length x.f0 x.f1) := by
  induction d with
  | zero =>
    intro i hi
    rw [List.drop_eq_nil_of_le (by omega)]
    exact Ev.step (fun k => by rw [spec_DiskOk.l1, if_neg (by omega)]; rfl) (Ev.now _)
  | succ d ih =>
    intro i hi
    have hr := rdB_Write ws i (by omega)
    rw [all_drop _ _ _ (by omega)]
    refine Ev.step (fun k => by rw [spec_DiskOk.l1, if_pos (by omega), if_pos (by omega), hr]) ?_
    unfold isW
    by_cases h0 : (ws[i]'(by omega)).f0 < 0
    · refine ev_pos h0 ?_
      rw [decide_eq_false (by omega)]
      exact Ev.now _
    · refine ev_neg h0 ?_
      by_cases h1 : (ws[i]'(by omega)).f0 ≥ (l.length : Int)
      · refine ev_pos h1 ?_
        rw [decide_eq_false (by omega)]
        exact Ev.now _
      · refine ev_neg h1 ?_
        rw [decide_eq_true (by omega)]
        by_cases h2 : ((ws[i]'(by omega)).f1.length : Int) = 64
        · refine ev_pos h2 ?_
          rw [w64 (by omega) (by omega), beq_iff_eq.2 h2]
          exact ih (i + 1) (by omega)
        · refine ev_neg h2 ?_
          rw [beq_eq_false_iff_ne.2 h2]
          exact Ev.now _
theorem spec_DiskOk_l0 (l : List (List Int)) (ws : List S68) (f : Int) (dn : Bool) (hl : l.length ≤ 512) (hw : ws.length ≤ 600) (d : Nat) : ∀ i : Nat, i + d = l.length → Ev (fun k => spec_DiskOk.l0 k (i : Int) l ws f dn) (((l.drop i).all fun x => (x.length : Int) == 64) && (ws.all fun x => isW l.length x.f0 x.f1)) := by
  induction d with
  | zero =>
    intro i hi
    rw [List.drop_eq_nil_of_le (by omega), List.all_nil, Bool.true_and]
    have := spec_DiskOk_l1 l ws f dn hl hw ws.length 0 (by omega)
    exact Ev.step (fun k => by rw [spec_DiskOk.l0, if_neg (by omega)]; rfl) this
  | succ d ih =>
    intro i hi
    have hr := rdl_nat l i (by omega)
    rw [all_drop _ _ _ (by omega)]
    refine Ev.step (fun k => by rw [spec_DiskOk.l0, if_pos (by omega), if_pos (by omega), hr]) ?_
    by_cases h2 : ((l[i]'(by omega)).length : Int) = 64
    · refine ev_pos h2 ?_
      rw [w64 (by omega) (by omega), beq_iff_eq.2 h2, Bool.true_and]
      exact ih (i + 1) (by omega)
    · refine ev_neg h2 ?_
      rw [beq_eq_false_iff_ne.2 h2, Bool.false_and]
      exact Ev.now _
theorem spec_DiskOk_f (l : List (List Int)) (ws : List S68) (f : Int) (dn : Bool) : Ev (fun k => spec_DiskOk.f k l ws f dn) (diskOkP l ws f) := by
  unfold spec_DiskOk.f diskOkP
  have bad : ∀ A : Bool, A = false → Ev (fun k => spec_DiskOk.j0 k true l ws f dn) A := fun A hA => by
    subst hA
    exact Ev.step (fun k => by rw [spec_DiskOk.j0, if_pos rfl]) (Ev.now _)
  by_cases h1 : (l.length : Int) < 1
  · exact ev_pos h1 (bad _ (by rw [decide_eq_false (by omega)]; rfl))
  refine ev_neg h1 ?_
  by_cases h2 : (l.length : Int) > 512
  · exact ev_pos h2 (bad _ (by rw [decide_eq_false (by omega)]; rfl))
  refine ev_neg h2 ?_
  by_cases h3 : (ws.length : Int) > 600
  · exact ev_pos h3 (bad _ (by rw [decide_eq_false (by omega)]; rfl))
  refine ev_neg h3 ?_
  by_cases h4 : f < -1
  · rw [decide_eq_true h4]
    exact bad _ (by rw [decide_eq_false (by omega)]; rfl)
  · rw [decide_eq_false h4, decide_eq_true (by omega), Bool.true_and]
    have := spec_DiskOk_l0 l ws f dn (by omega) (by omega) l.length 0 (by omega)
    exact Ev.step (fun k => by rw [spec_DiskOk.j0, if_neg (by simp)]; rfl) this

/-- rows marked one behind the other -/
def marksSS (m : Int) : List (List Int) → List (List Int)
  | [] => []
  | x :: l => marksB m x.length :: marksSS (m + x.length) l
theorem marksSS_length (l : List (List Int)) : ∀ m, (marksSS m l).length = l.length := by
  induction l with
  | nil => intro m; rfl
  | cons x l ih => intro m; simp [marksSS, ih]
theorem markSS_go (rest : List (List Int)) : ∀ (pre : List (List Int)) (m : Int), 0 ≤ m → m + sumLen rest ≤ 1000000000000 → (∀ x ∈ rest, x.length ≤ 1048576) → Ev (fun k => laws_markByteSS.go k rest.length pre.length (pre ++ rest) m) (m + sumLen rest, pre ++ marksSS m rest) := by
  induction rest with
  | nil =>
    intro pre m h0 h1 hx
    refine Ev.congr (f := fun _ => some (m, pre ++ [])) (fun k => rfl) ?_
    rw [show (m : Int) + (sumLen ([] : List (List Int)) : Nat) = m by simp [sumLen]]
    exact Ev.now _
  | cons x rest ih =>
    intro pre m h0 h1 hx
    have hs : sumLen (x :: rest) = x.length + sumLen rest := rfl
    rw [hs] at h1
    have hxl := hx x (List.mem_cons_self ..)
    have h2 := ih (pre ++ [marksB m x.length]) (m + x.length) (by omega) (by omega) (fun y hy => hx y (List.mem_cons_of_mem _ hy))
    have hg : (pre ++ x :: rest).getD pre.length [] = x := by simp [List.getD_eq_getElem?_getD]
    refine Ev.congr (fun k => by rw [List.length_cons, laws_markByteSS.go, hg]) (Ev.bind (markByteS_f x hxl m h0 (by omega)) ?_)
    dsimp only
    have hset : (pre ++ x :: rest).set pre.length (marksB m x.length) = (pre ++ [marksB m x.length]) ++ rest := by simp
    rw [hset, show pre.length + 1 = (pre ++ [marksB m x.length]).length by simp, show (m : Int) + ((sumLen (x :: rest) : Nat) : Int) = m + x.length + sumLen rest by rw [hs]; push_cast; omega, show pre ++ marksSS m (x :: rest) = (pre ++ [marksB m x.length]) ++ marksSS (m + x.length) rest by simp [marksSS]]
    exact h2
theorem markByteSS_f (l : List (List Int)) (hn : l.length ≤ 1048576) (hx : ∀ x ∈ l, x.length ≤ 1048576) (m : Int) (h0 : 0 ≤ m) (h1 : m + sumLen l ≤ 1000000000000) : Ev (fun k => laws_markByteSS.f k l m) (m + sumLen l, marksSS m l) := by
  unfold laws_markByteSS.f
  refine ev_pos hn ?_
  exact markSS_go l [] m h0 h1 hx
theorem sumLen_le (l : List (List Int)) (n b : Nat) (hn : l.length ≤ n) (hx : ∀ x ∈ l, x.length ≤ b) : sumLen l ≤ n * b := by
  induction l generalizing n with
  | nil => simp [sumLen]
  | cons x l ih =>
    obtain ⟨n, rfl⟩ : ∃ q, n = q + 1 := ⟨n - 1, by simp at hn; omega⟩
    have h1 := ih n (by simp at hn; omega) (fun y hy => hx y (List.mem_cons_of_mem _ hy))
    have h2 := hx x (List.mem_cons_self ..)
    simp only [sumLen, Nat.add_mul, Nat.one_mul]
    omega

/-- rows of Write marked one behind the other -/
def marksWrite (m : Int) : List S68 → List S68
  | [] => []
  | x :: l => ⟨m, marksB (m + 1) (x.f1).length⟩ :: marksWrite (m + 1 + (x.f1).length) l
def sumB_Write : List S68 → Nat
  | [] => 0
  | x :: l => (x.f1).length + sumB_Write l
theorem sumB_Write_le (l : List S68) (n b : Nat) (hn : l.length ≤ n) (hx : ∀ x ∈ l, (x.f1).length ≤ b) : sumB_Write l ≤ n * b := by
  induction l generalizing n with
  | nil => simp [sumB_Write]
  | cons x l ih =>
    obtain ⟨n, rfl⟩ : ∃ q, n = q + 1 := ⟨n - 1, by simp at hn; omega⟩
    have h1 := ih n (by simp at hn; omega) (fun y hy => hx y (List.mem_cons_of_mem _ hy))
    have h2 := hx x (List.mem_cons_self ..)
    simp only [sumB_Write, Nat.add_mul, Nat.one_mul]
    omega
theorem markWrite_go (rest : List S68) : ∀ (pre : List S68) (m : Int), 0 ≤ m → m + 1 * rest.length + sumB_Write rest ≤ 1000000000000 → (∀ x ∈ rest, (x.f1).length ≤ 1048576) →
    Ev (fun k => laws_markWriteS.go k rest.length pre.length (pre ++ rest) m) (m + 1 * rest.length + sumB_Write rest, pre ++ marksWrite m rest) := by
  induction rest with
  | nil =>
    intro pre m h0 h1 hx
    refine Ev.congr (f := fun _ => some (m, pre ++ [])) (fun k => rfl) ?_
    rw [show (m : Int) + 1 * (([] : List S68).length : Nat) + (sumB_Write ([] : List S68) : Nat) = m by simp [sumB_Write]]
    exact Ev.now _
  | cons x rest ih =>
    intro pre m h0 h1 hx
    have hs : sumB_Write (x :: rest) = (x.f1).length + sumB_Write rest := rfl
    rw [hs, List.length_cons] at h1
    have hxl := hx x (List.mem_cons_self ..)
    have h2 := ih (pre ++ [(⟨m, marksB (m + 1) (x.f1).length⟩ : S68)]) (m + 1 + (x.f1).length) (by omega) (by push_cast at h1 ⊢; omega) (fun y hy => hx y (List.mem_cons_of_mem _ hy))
    have hg : (pre ++ x :: rest).getD pre.length z68 = x := by simp [List.getD_eq_getElem?_getD]
    refine Ev.congr (fun k => by rw [List.length_cons, laws_markWriteS.go, hg]) (ev_pos (c := 0 ≤ m ∧ m ≤ 1000000000000) ⟨h0, by push_cast at h1; omega⟩ (Ev.bind (markByteS_f x.f1 hxl (m + 1) (by omega) (by push_cast at h1; omega)) ?_))
    dsimp only
    have hset : (pre ++ x :: rest).set pre.length (⟨m, marksB (m + 1) (x.f1).length⟩ : S68) = (pre ++ [(⟨m, marksB (m + 1) (x.f1).length⟩ : S68)]) ++ rest := by simp
    rw [hset, show pre.length + 1 = (pre ++ [(⟨m, marksB (m + 1) (x.f1).length⟩ : S68)]).length by simp, show (m : Int) + 1 * ((x :: rest).length : Nat) + ((sumB_Write (x :: rest) : Nat) : Int) = m + 1 + (x.f1).length + 1 * rest.length + sumB_Write rest by rw [hs, List.length_cons]; push_cast; omega,
      show pre ++ marksWrite m (x :: rest) = (pre ++ [(⟨m, marksB (m + 1) (x.f1).length⟩ : S68)]) ++ marksWrite (m + 1 + (x.f1).length) rest by simp [marksWrite], show m + 1 + ((x.f1).length : Int) = m + 1 + (x.f1).length by omega]
    exact h2
theorem markWriteS_f (l : List S68) (hn : l.length ≤ 1048576) (hx : ∀ x ∈ l, (x.f1).length ≤ 1048576) (m : Int) (h0 : 0 ≤ m) (h1 : m + 1 * l.length + sumB_Write l ≤ 1000000000000) : Ev (fun k => laws_markWriteS.f k l m) (m + 1 * l.length + sumB_Write l, marksWrite m l) := by
  unfold laws_markWriteS.f
  refine ev_pos hn ?_
  exact markWrite_go l [] m h0 h1 hx

/-- what a sector has, of the writes below place n -/
def readN (ws : List S68) (at_ : Int) (sec : List Int) : Nat → List Int
  | 0 => sec
  | n + 1 => if (rd_T68 ws (n : Int)).f0 = at_ then (rd_T68 ws (n : Int)).f1 else readN ws at_ sec n
theorem readN_small (ws : List S68) (at_ : Int) (sec : List Int) (h1 : sec.length ≤ 1048576) (h2 : ∀ x ∈ ws, x.f1.length ≤ 1048576) : ∀ n : Nat, n ≤ ws.length → (readN ws at_ sec n).length ≤ 1048576 := by
  intro n
  induction n with
  | zero => intro _; exact h1
  | succ n ih =>
    intro hn
    rw [readN]
    split
    · rw [rdB_Write ws n (by omega)]; exact h2 _ (List.getElem_mem _)
    · exact ih (by omega)
theorem spec_read_l (l : List (List Int)) (ws : List S68) (f : Int) (dn : Bool) (at_ : Int) (ha : 0 ≤ at_ ∧ at_ < l.length) (hs : (rd_L1 l at_).length ≤ 1048576) (hx2 : ∀ x ∈ ws, x.f1.length ≤ 1048576) (hw : ws.length ≤ 1048576) : ∀ n : Nat, n ≤ ws.length →
    Ev (fun k => spec_DiskRead.l0 k at_ ((n : Int) - 1) l ws f dn) (readN ws at_ (rd_L1 l at_) n, true) := by
  intro n
  induction n with
  | zero =>
    intro _
    refine Ev.step (fun k => by rw [spec_DiskRead.l0, if_neg (by omega), Option.bind_some, if_pos ha.1, if_pos ha.2, if_pos (by simp only [List.length_nil]; omega), List.nil_append]; rfl) (Ev.now _)
  | succ n ih =>
    intro hn
    have hb : (rd_T68 ws (n : Int)).f1.length ≤ 1048576 := by rw [rdB_Write ws n (by omega)]; exact hx2 _ (List.getElem_mem _)
    rw [readN, show (((n + 1 : Nat) : Int) - 1) = (n : Int) by omega]
    refine Ev.step (fun k => by rw [spec_DiskRead.l0, if_pos (by omega), if_pos (by omega), if_pos (by omega)]) ?_
    by_cases h : (rd_T68 ws (n : Int)).f0 = at_
    · rw [if_pos h]
      refine ev_pos h ?_
      rw [show ∀ (G : List Int → Option (List Int × Bool)), (some (([] : List Int) : List Int)).bind G = G [] from fun G => rfl]
      refine ev_pos (by simp only [List.length_nil]; omega) ?_
      rw [List.nil_append]
      exact Ev.now _
    · rw [if_neg h]
      refine ev_neg h ?_
      rw [w64 (by omega) (by omega)]
      exact ih (by omega)
theorem clone_f (x : List Int) (h : x.length ≤ 1048576) : slices_Clone_byte_byte.f x = some x := by
  unfold slices_Clone_byte_byte.f
  rw [Option.bind_some, if_pos (by simp only [List.length_nil]; omega), List.nil_append]
theorem impl_read_l (l : List (List Int)) (ws : List S68) (f : Int) (dn : Bool) (at_ : Int) (ha : 0 ≤ at_ ∧ at_ < l.length) (hs : (rd_L1 l at_).length ≤ 1048576) (hx2 : ∀ x ∈ ws, x.f1.length ≤ 1048576) (hw : ws.length ≤ 1048576) : ∀ n : Nat, n ≤ ws.length →
    Ev (fun k => impl_Disk_read.l0 k at_ ((n : Int) - 1) l ws f dn) (readN ws at_ (rd_L1 l at_) n) := by
  intro n
  induction n with
  | zero =>
    intro _
    refine Ev.step (fun k => by rw [impl_Disk_read.l0, if_neg (by omega), if_pos ha.1, if_pos ha.2, clone_f _ hs, Option.bind_some]; rfl) (Ev.now _)
  | succ n ih =>
    intro hn
    have hb : (rd_T68 ws (n : Int)).f1.length ≤ 1048576 := by rw [rdB_Write ws n (by omega)]; exact hx2 _ (List.getElem_mem _)
    rw [readN, show (((n + 1 : Nat) : Int) - 1) = (n : Int) by omega]
    refine Ev.step (fun k => by rw [impl_Disk_read.l0, if_pos (by omega), if_pos (by omega), if_pos (by omega)]) ?_
    by_cases h : (rd_T68 ws (n : Int)).f0 = at_
    · rw [if_pos h]
      refine ev_pos h ?_
      rw [clone_f _ hb]
      exact Ev.now _
    · rw [if_neg h]
      refine ev_neg h ?_
      rw [w64 (by omega) (by omega)]
      exact ih (by omega)
def diskReadOf (l : List (List Int)) (ws : List S68) (f at_ : Int) : List Int × Bool := if diskOkP l ws f = true ∧ 0 ≤ at_ ∧ at_ < l.length then (readN ws at_ (rd_L1 l at_) ws.length, true) else ([], false)
theorem rdl_small (l : List (List Int)) (hx : ∀ x ∈ l, x.length ≤ 1048576) (i : Int) (h0 : 0 ≤ i) (h1 : i < l.length) : (rd_L1 l i).length ≤ 1048576 := by
  obtain ⟨n, rfl⟩ : ∃ n : Nat, i = n := ⟨i.toNat, by omega⟩
  rw [rdl_nat l n (by omega)]
  exact hx _ (List.getElem_mem _)
theorem spec_DiskRead_f (l : List (List Int)) (ws : List S68) (f : Int) (dn : Bool) (at_ : Int) (hn : l.length ≤ 1048576) (hx : ∀ x ∈ l, x.length ≤ 1048576) (hn2 : ws.length ≤ 1048576) (hx2 : ∀ x ∈ ws, x.f1.length ≤ 1048576) : Ev (fun k => spec_DiskRead.f k l ws f dn at_) (diskReadOf l ws f at_) := by
  unfold spec_DiskRead.f diskReadOf
  refine Ev.bind (spec_DiskOk_f l ws f dn) ?_
  have bad : Ev (fun k => spec_DiskRead.j0 k at_ true l ws f dn) ([], false) := Ev.step (fun k => by rw [spec_DiskRead.j0, if_pos rfl]) (Ev.now _)
  by_cases h : diskOkP l ws f = true
  · refine ev_pos h ?_
    by_cases h1 : at_ < 0
    · rw [if_neg (fun hh => by omega)]
      exact ev_pos h1 bad
    · refine ev_neg h1 ?_
      by_cases h2 : at_ ≥ (l.length : Int)
      · rw [decide_eq_true h2, if_neg (fun hh => by omega)]
        exact bad
      · rw [decide_eq_false h2, if_pos ⟨h, by omega, by omega⟩]
        refine Ev.step (fun k => by rw [spec_DiskRead.j0, if_neg (by simp), w64 (by omega) (by omega)]) ?_
        exact spec_read_l l ws f dn at_ ⟨by omega, by omega⟩ (rdl_small l hx at_ (by omega) (by omega)) hx2 hn2 ws.length (by omega)
  · rw [if_neg (fun hh => h hh.1)]
    exact ev_neg h bad
theorem impl_DiskRead_f (l : List (List Int)) (ws : List S68) (f : Int) (dn : Bool) (at_ : Int) (hn : l.length ≤ 1048576) (hx : ∀ x ∈ l, x.length ≤ 1048576) (hn2 : ws.length ≤ 1048576) (hx2 : ∀ x ∈ ws, x.f1.length ≤ 1048576) : Ev (fun k => impl_DiskRead.f k l ws f dn at_) (diskReadOf l ws f at_) := by
  unfold impl_DiskRead.f diskReadOf
  refine ev_bind0 (impl_DiskOk_f l ws f dn) ?_
  by_cases h : diskOkP l ws f = true
  · refine ev_pos h ?_
    rw [w64 (by omega) (by omega)]
    refine ev_bind0 (impl_within_f at_ 0 _) ?_
    by_cases h1 : 0 ≤ at_ ∧ at_ ≤ (l.length : Int) - 1
    · rw [if_pos ⟨h, by omega, by omega⟩]
      refine ev_pos (decide_eq_true h1) ?_
      have := impl_read_l l ws f dn at_ ⟨by omega, by omega⟩ (rdl_small l hx at_ (by omega) (by omega)) hx2 hn2 ws.length (by omega)
      refine Ev.bind (a := readN ws at_ (rd_L1 l at_) ws.length) ?_ (Ev.now _)
      unfold impl_Disk_read.f
      rw [w64 (by omega) (by omega)]
      exact this
    · rw [if_neg (fun hh => by omega)]
      exact ev_neg (by rw [decide_eq_false h1]; exact Bool.false_ne_true) (Ev.now _)
  · rw [if_neg (fun hh => h hh.1)]
    exact ev_neg h (Ev.now _)
theorem markDisk_f (l : List (List Int)) (ws : List S68) (f : Int) (dn : Bool) (hn : l.length ≤ 1048576) (hx : ∀ x ∈ l, x.length ≤ 1048576) (hn2 : ws.length ≤ 1048576) (hx2 : ∀ x ∈ ws, x.f1.length ≤ 1048576) (h1 : (1 : Int) + sumLen l + ws.length + sumB_Write ws ≤ 1000000000000) :
    Ev (fun k => laws_markDisk.f k l ws f dn 1) (1 + sumLen l + 1 * ws.length + sumB_Write ws, marksSS 1 l, marksWrite (1 + sumLen l) ws) := by
  unfold laws_markDisk.f
  refine Ev.bind (markByteSS_f l hn hx 1 (by omega) (by omega)) ?_
  refine Ev.bind (markWriteS_f ws hn2 hx2 (1 + sumLen l) (by omega) (by omega)) ?_
  exact Ev.now _
theorem sumB_cv (ws : List S83) : sumB_Write (ws.map cvWrite) = sumWrite ws := by
  induction ws with
  | nil => rfl
  | cons x l ih => rw [List.map_cons, sumB_Write, sumWrite, ih]; rfl

/-- The pure statement. -/
def Stmt : Prop := ∀ (l0_0 : List (List Int)) (l0_1 : List (S83)) (a0_2 : Int) (a0_3 : Bool) (a1 : Int), ((fun xs => xs.length ≤ 9223372036854775807 ∧ ∀ x ∈ xs, (fun xs => xs.length ≤ 9223372036854775807 ∧ ∀ x ∈ xs, (fun n => (Lit.int .u8 n).wf = true) x) x) l0_0) → ((fun xs => xs.length ≤ 9223372036854775807 ∧ ∀ x ∈ xs, (fun x => (fun v => (fun n => (Lit.int .i64 n).wf = true) v.1 ∧ (fun xs => xs.length ≤ 9223372036854775807 ∧ ∀ x ∈ xs, (fun n => (Lit.int .u8 n).wf = true) x) v.2) (x.f0, x.f1)) x) l0_1) → ((fun n => (Lit.int .i64 n).wf = true) a0_2) → ((fun n => (Lit.int .i64 n).wf = true) a1) → laws_FnExactDiskRead.H l0_0 l0_1 a0_2 a0_3 a1
theorem main : Stmt := by
  intro l ws f dn at_ ⟨hl, hw⟩ ⟨hl2, hw2⟩ _ _
  unfold laws_FnExactDiskRead.H
  have hx : ∀ x ∈ l, x.length ≤ 9223372036854775807 := fun x h => (hw x h).1
  have hx2 : ∀ x ∈ ws, x.f1.length ≤ 9223372036854775807 := fun x h => (hw2 x h).2.1
  obtain ⟨k1, h1⟩ := Ev.rounds (szDisk_f l ws f dn hl hx hl2 hx2)
  refine ⟨k1, _, h1, ?_⟩
  by_cases h : (1048576 : Int) < l.length + sumLen l + ws.length + sumWrite ws
  · rw [if_pos h]
    exact Or.inl (by omega)
  rw [if_neg h]
  refine Or.inr ⟨by omega, ?_⟩
  have hn : l.length ≤ 1048576 := by omega
  have hn2 : ws.length ≤ 1048576 := by omega
  have hy : ∀ x ∈ l, x.length ≤ 1048576 := fun x hxl => by have := sumLen_mem hxl; omega
  have hy2 : ∀ x ∈ ws, x.f1.length ≤ 1048576 := fun x hxl => by have := sumWrite_mem hxl; omega
  have hm : (ws.map cvWrite).length ≤ 1048576 := by rw [List.length_map]; exact hn2
  have hm2 := cvWrite_mem hy2
  have sp := spec_DiskRead_f l (ws.map cvWrite) f dn at_ hn hy hm hm2
  have im := impl_DiskRead_f l (ws.map cvWrite) f dn at_ hn hy hm hm2
  have hr : (diskReadOf l (ws.map cvWrite) f at_).1.length ≤ 1048576 := by
    unfold diskReadOf
    split
    · rename_i hh
      exact readN_small _ _ _ (rdl_small l hy at_ hh.2.1 hh.2.2) hm2 _ (Nat.le_refl _)
    · simp
  generalize diskReadOf l (ws.map cvWrite) f at_ = r at sp im hr
  obtain ⟨r1, r2⟩ := r
  dsimp only at hr
  obtain ⟨k2, h2⟩ := Ev.rounds (toDisk_f l ws f dn hn hy hn2 hy2)
  obtain ⟨k3, h3⟩ := Ev.rounds sp
  obtain ⟨k4, h4⟩ := Ev.rounds im
  obtain ⟨k5, h5⟩ := Ev.rounds (eqByteS_same r1 hr)
  obtain ⟨k6, h6⟩ := Ev.rounds (eqDisk_same l _ f dn hn hy hm hm2)
  obtain ⟨k7, h7⟩ := Ev.rounds (markDisk_f l (ws.map cvWrite) f dn hn hy hm hm2 (by rw [sumB_cv, List.length_map]; omega))
  obtain ⟨k8, h8⟩ := Ev.rounds (markByteS_f r1 hr 1 (by omega) (by omega))
  obtain ⟨k9, h9⟩ := Ev.rounds (heldByteS_f r1.length hr 1 (by omega) (by omega))
  exact ⟨k2, _, _, _, _, h2, k3, _, _, h3, k2, _, _, _, _, h2, k4, h4, k5, h5, k2, _, _, _, _, h2, k6, h6, k7, _, _, _, h7, by omega, k5, h5, k8, _, _, h8, by omega, k9, h9, k2, _, _, _, _, h2, k4, h4, k5, h5, k9, h9, trivial⟩

end Go.Proofs.Ytipfcppghbijgaa.Pure.ofFnExactDiskRead
namespace Go.Proofs.Ytipfcppghbijgaa.PrintWords
/-- The word that the printed row asks for, under the name by which it asks. -/
abbrev sized_ints := @Go.Proofs.YtipfcppghbijgaaW.PrintWords.sized_ints
end Go.Proofs.Ytipfcppghbijgaa.PrintWords
namespace Go.Proofs.Ytipfcppghbijgaa.Pure
open Go.Proofs.Ytipfcppghbijgaa.PFnExactDiskRead
theorem FnExactDiskRead : ofFnExactDiskRead.Stmt := ofFnExactDiskRead.main
end Go.Proofs.Ytipfcppghbijgaa.Pure

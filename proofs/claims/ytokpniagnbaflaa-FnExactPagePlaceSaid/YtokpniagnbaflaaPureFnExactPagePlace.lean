/-
The law FnExactPagePlace answers true: for every page and number the program's PagePlace gives the reference's slot, and the page stays as it was.
Conditions: none beyond the bounds of the statement itself.
-/
import Derived.Test.YtokpniagnbaflaaPFnExactPagePlacex4
import Derived.Test.YtokpniagnbaflaaWSized
set_option linter.unusedVariables false
set_option linter.unusedSimpArgs false
namespace Go.Proofs.Ytokpniagnbaflaa.Pure.ofFnExactPagePlace
open Go.RowKit Go.Proofs.Ytokpniagnbaflaa.PFnExactPagePlace Go.Proofs.YtokpniagnbaflaaW.PrintWords Go.Proofs.YtokpniagnbaflaaW.PrintLast Go.Proofs.YtokpniagnbaflaaW.PrintMore

theorem ev_pos {α : Type} {c : Prop} [Decidable c] {A B : Nat → Option α} {r : α} (hc : c) (h : Ev A r) : Ev (fun k => if c then A k else B k) r := by
  refine Ev.congr (fun k => ?_) h
  rw [if_pos hc]
theorem ev_neg {α : Type} {c : Prop} [Decidable c] {A B : Nat → Option α} {r : α} (hc : ¬ c) (h : Ev B r) : Ev (fun k => if c then A k else B k) r := by
  refine Ev.congr (fun k => ?_) h
  rw [if_neg hc]
theorem ev_bind0 {α β : Type} {g : Option α} {f : Nat → α → Option β} {a : α} {r : β} (h : g = some a) (k : Ev (fun n => f n a) r) : Ev (fun n => g.bind (f n)) r := by
  refine Ev.congr (fun n => ?_) k
  rw [h]; rfl
theorem w64 {x : Int} (h0 : -9223372036854775808 ≤ x) (h1 : x ≤ 9223372036854775807) : wrap64 x = x := by
  unfold wrap64; omega
theorem rd_cons (x : Int) (l : List Int) : rd (x :: l) 0 = x := rfl
theorem rd_nat (l : List Int) (i : Nat) (h : i < l.length) : rd l (i : Int) = l[i] := by
  simp [rd, List.getD_eq_getElem?_getD, List.getElem?_eq_getElem h]
theorem rd_at (l : List Int) (i : Int) (h0 : 0 ≤ i) (h : i < l.length) : ∃ x, x ∈ l ∧ rd l i = x := by
  obtain ⟨n, rfl⟩ := Int.eq_ofNat_of_zero_le h0
  exact ⟨l[n]'(by omega), List.getElem_mem _, rd_nat l n (by omega)⟩
def marks (m : Int) : Nat → List Int
  | 0 => []
  | n + 1 => m :: marks (m + 1) n
def marksB (m : Int) : Nat → List Int
  | 0 => []
  | n + 1 => (m % 256) :: marksB (m + 1) n
theorem marks_length (n : Nat) : ∀ m, (marks m n).length = n := by
  induction n with
  | zero => intro m; rfl
  | succ n ih => intro m; simp [marks, ih]
theorem marksB_length (n : Nat) : ∀ m, (marksB m n).length = n := by
  induction n with
  | zero => intro m; rfl
  | succ n ih => intro m; simp [marksB, ih]
theorem marks_get (n : Nat) : ∀ m (i : Nat) (h : i < (marks m n).length), (marks m n)[i] = m + i := by
  induction n with
  | zero => intro m i h; simp [marks] at h
  | succ n ih =>
    intro m i h
    cases i with
    | zero => simp [marks]
    | succ i => simp only [marks, List.getElem_cons_succ]; rw [ih]; push_cast; omega
theorem marksB_get (n : Nat) : ∀ m (i : Nat) (h : i < (marksB m n).length), (marksB m n)[i] = (m + i) % 256 := by
  induction n with
  | zero => intro m i h; simp [marksB] at h
  | succ n ih =>
    intro m i h
    cases i with
    | zero => simp [marksB]
    | succ i => simp only [marksB, List.getElem_cons_succ]; rw [ih]; push_cast; omega

theorem impl_within_f (a b c : Int) : impl_within.f a b c = some (decide (b ≤ a ∧ a ≤ c)) := by
  unfold impl_within.f
  by_cases h : b ≤ a <;> simp [h]

theorem spec_l5in_f (a b c : Int) : spec_l5in.f a b c = some (decide (b ≤ a ∧ a ≤ c)) := by
  unfold spec_l5in.f
  by_cases h : b ≤ a <;> simp [h]

theorem toByteS_l (l : List Int) (hn : l.length ≤ 1048576) (d : Nat) : ∀ (i : Nat) (y : List Int), i + d = l.length → y.length = l.length → (∀ j, j < i → y[j]? = l[j]?) → Ev (fun k => laws_toByteS.l0 k l y (i : Int)) l := by
  induction d with
  | zero =>
    intro i y hi hy hj
    refine Ev.step (f := fun _ => some l) (fun k => ?_) (Ev.now _)
    simp only [laws_toByteS.l0]
    rw [if_neg (by omega)]
    congr 1
    refine List.ext_getElem? fun j => ?_
    by_cases h : j < i
    · exact hj j h
    · rw [List.getElem?_eq_none (by omega), List.getElem?_eq_none (by omega)]
  | succ d ih =>
    intro i y hi hy hj
    refine Ev.step (f := fun k => laws_toByteS.l0 k l (y.set i (rd l i)) ((i + 1 : Nat) : Int)) (fun k => ?_) (ih (i + 1) _ (by omega) (by simp [hy]) ?_)
    · simp only [laws_toByteS.l0]
      rw [if_pos (by omega), if_pos (by omega), if_pos (by omega), w64 (by omega) (by omega)]
      simp
    · intro j hlt
      by_cases h : j = i
      · subst h
        rw [List.getElem?_set_self (by omega), rd_nat l j (by omega), List.getElem?_eq_getElem (by omega)]
      · rw [List.getElem?_set_ne (by omega)]
        exact hj j (by omega)
theorem toByteS_f (l : List Int) (hn : l.length ≤ 1048576) : Ev (fun k => laws_toByteS.f k l) l := by
  unfold laws_toByteS.f
  refine ev_pos (by omega) (ev_pos (by omega) ?_)
  exact toByteS_l l hn l.length 0 _ (by omega) (by simp) (by intro j h; omega)

theorem eqByteS_l (a b : List Int) (hn : a.length ≤ 1048576) (hab : a.length = b.length) (d : Nat) : ∀ (i : Nat), i + d = a.length → (∀ j, j < i → a[j]? = b[j]?) → Ev (fun k => laws_eqByteS.l0 k a b (i : Int)) (decide (a = b)) := by
  induction d with
  | zero =>
    intro i hi hj
    refine Ev.step (f := fun _ => some true) (fun k => ?_) ?_
    · simp only [laws_eqByteS.l0]
      rw [if_neg (by omega)]
    · have : a = b := by
        refine List.ext_getElem? fun j => ?_
        by_cases h : j < i
        · exact hj j h
        · rw [List.getElem?_eq_none (by omega), List.getElem?_eq_none (by omega)]
      rw [decide_eq_true this]
      exact Ev.now _
  | succ d ih =>
    intro i hi hj
    have ha : rd a (i : Int) = a[i]'(by omega) := rd_nat a i (by omega)
    have hb : rd b (i : Int) = b[i]'(by omega) := rd_nat b i (by omega)
    by_cases he : rd a (i : Int) = rd b (i : Int)
    · refine Ev.step (f := fun k => laws_eqByteS.l0 k a b ((i + 1 : Nat) : Int)) (fun k => ?_) (ih (i + 1) (by omega) ?_)
      · simp only [laws_eqByteS.l0]
        rw [if_pos (by omega), if_pos (by omega), if_pos (by omega), if_pos he, w64 (by omega) (by omega)]
        simp
      · intro j hlt
        by_cases h : j = i
        · subst h
          rw [List.getElem?_eq_getElem (by omega), List.getElem?_eq_getElem (by omega), ← ha, ← hb, he]
        · exact hj j (by omega)
    · refine Ev.step (f := fun _ => some false) (fun k => ?_) ?_
      · simp only [laws_eqByteS.l0]
        rw [if_pos (by omega), if_pos (by omega), if_pos (by omega), if_neg he]
      · have : ¬ a = b := by
          rintro rfl
          exact he rfl
        rw [decide_eq_false this]
        exact Ev.now _
theorem eqByteS_f (a b : List Int) (hn : a.length ≤ 1048576) : Ev (fun k => laws_eqByteS.f k a b) (decide (a = b)) := by
  unfold laws_eqByteS.f
  by_cases h : a.length = b.length
  · refine ev_pos (by omega) ?_
    exact eqByteS_l a b hn h a.length 0 (by omega) (by intro j h; omega)
  · refine ev_neg (by omega) ?_
    rw [decide_eq_false (by rintro rfl; exact h rfl)]
    exact Ev.now _
theorem eqByteS_same (a : List Int) (hn : a.length ≤ 1048576) : Ev (fun k => laws_eqByteS.f k a a) true := by
  have := eqByteS_f a a hn
  rwa [decide_eq_true rfl] at this

theorem szByte_f (l : List Int) (left : Int) (h0 : 0 ≤ left) (h1 : left ≤ 1048576) (hl : l.length ≤ 9223372036854775807) : laws_szByteS.f l left = some (if left < l.length then -1 else left - l.length) := by
  unfold laws_szByteS.f
  rw [w64 (by omega) (by omega)]
  by_cases h : left < l.length
  · rw [if_pos (by omega), if_pos h]
  · rw [if_neg (by omega), if_neg h]

def sumLen : List (List Int) → Nat
  | [] => 0
  | x :: l => x.length + sumLen l
theorem rdl_nat (l : List (List Int)) (i : Nat) (h : i < l.length) : rd_L1 l (i : Int) = l[i] := by
  simp [rd_L1, List.getD_eq_getElem?_getD, List.getElem?_eq_getElem h]
theorem sumLen_drop (l : List (List Int)) (i : Nat) (h : i < l.length) : sumLen (l.drop i) = (l[i]).length + sumLen (l.drop (i + 1)) := by
  rw [List.drop_eq_getElem_cons h]
  rfl
theorem sumLen_mem {l : List (List Int)} {x : List Int} (h : x ∈ l) : x.length ≤ sumLen l := by
  induction l with
  | nil => cases h
  | cons y l ih =>
    simp only [sumLen]
    rcases List.mem_cons.1 h with rfl | h
    · omega
    · have := ih h; omega
theorem szByteSS_l (l : List (List Int)) (hx : ∀ x ∈ l, x.length ≤ 9223372036854775807) (hn : l.length ≤ 1048576) (d : Nat) : ∀ (i : Nat) (left : Int), i + d = l.length → 0 ≤ left → left ≤ 1048576 →
    Ev (fun k => laws_szByteSS.l0 k l left (i : Int)) (if left < sumLen (l.drop i) then -1 else left - sumLen (l.drop i)) := by
  induction d with
  | zero =>
    intro i left hi h0 h1
    refine Ev.step (f := fun _ => some left) (fun k => ?_) ?_
    · simp only [laws_szByteSS.l0]
      rw [if_neg (by omega)]
    · have e : sumLen (l.drop i) = 0 := by
        rw [List.drop_eq_nil_of_le (by omega)]
        rfl
      have hz : (if left < sumLen (l.drop i) then (-1 : Int) else left - sumLen (l.drop i)) = left := by
        rw [if_neg (by omega)]
        omega
      rw [hz]
      exact Ev.now _
  | succ d ih =>
    intro i left hi h0 h1
    have hr := rdl_nat l i (by omega)
    have hl := hx (l[i]'(by omega)) (List.getElem_mem _)
    have hs := szByte_f (l[i]'(by omega)) left h0 h1 hl
    have hd := sumLen_drop l i (by omega)
    by_cases h : left < (l[i]'(by omega)).length
    · rw [if_pos h] at hs
      refine Ev.step (f := fun _ => some (-1)) (fun k => ?_) ?_
      · simp only [laws_szByteSS.l0]
        rw [if_pos (by omega), if_pos (by omega), hr, hs]
        simp
      · rw [if_pos (by omega)]
        exact Ev.now _
    · rw [if_neg h] at hs
      have h2 := ih (i + 1) (left - (l[i]'(by omega)).length) (by omega) (by omega) (by omega)
      have e : (if left < sumLen (l.drop i) then (-1 : Int) else left - sumLen (l.drop i)) = (if left - (l[i]'(by omega)).length < sumLen (l.drop (i + 1)) then -1 else left - (l[i]'(by omega)).length - sumLen (l.drop (i + 1))) := by
        rw [hd]
        by_cases hc : left < (((l[i]'(by omega)).length + sumLen (l.drop (i + 1)) : Nat) : Int)
        · rw [if_pos hc, if_pos (by omega)]
        · rw [if_neg hc, if_neg (by omega)]; omega
      rw [e]
      refine Ev.step (fun k => ?_) h2
      simp only [laws_szByteSS.l0]
      rw [if_pos (by omega), if_pos (by omega), hr, hs]
      simp only [Option.bind_some]
      rw [if_neg (by omega), w64 (by omega) (by omega)]
      rfl
theorem szByteSS_f (l : List (List Int)) (hl : l.length ≤ 9223372036854775807) (hx : ∀ x ∈ l, x.length ≤ 9223372036854775807) (left : Int) (h0 : 0 ≤ left) (h1 : left ≤ 1048576) :
    Ev (fun k => laws_szByteSS.f k l left) (if left < (l.length : Int) + sumLen l then -1 else left - ((l.length : Int) + sumLen l)) := by
  unfold laws_szByteSS.f
  rw [w64 (by omega) (by omega)]
  by_cases h : left - l.length < 0
  · rw [if_pos (by omega)]
    exact ev_pos h (Ev.now _)
  · have h2 := szByteSS_l l hx (by omega) l.length 0 (left - l.length) (by omega) (by omega) (by omega)
    rw [List.drop_zero] at h2
    have e : (if left < (l.length : Int) + sumLen l then (-1 : Int) else left - ((l.length : Int) + sumLen l)) = (if left - l.length < sumLen l then -1 else left - l.length - sumLen l) := by
      by_cases hc : left < (l.length : Int) + sumLen l
      · rw [if_pos hc, if_pos (by omega)]
      · rw [if_neg hc, if_neg (by omega)]; omega
    rw [e]
    exact ev_neg h h2
theorem toByteSS_l (l : List (List Int)) (hn : l.length ≤ 1048576) (hx : ∀ x ∈ l, x.length ≤ 1048576) (d : Nat) : ∀ (i : Nat) (y : List (List Int)), i + d = l.length → y.length = l.length → (∀ j, j < i → y[j]? = l[j]?) → Ev (fun k => laws_toByteSS.l0 k l y (i : Int)) l := by
  induction d with
  | zero =>
    intro i y hi hy hj
    refine Ev.step (f := fun _ => some l) (fun k => ?_) (Ev.now _)
    simp only [laws_toByteSS.l0]
    rw [if_neg (by omega)]
    congr 1
    refine List.ext_getElem? fun j => ?_
    by_cases h : j < i
    · exact hj j h
    · rw [List.getElem?_eq_none (by omega), List.getElem?_eq_none (by omega)]
  | succ d ih =>
    intro i y hi hy hj
    have hr := rdl_nat l i (by omega)
    have ht := toByteS_f (l[i]'(by omega)) (hx _ (List.getElem_mem _))
    have h2 := ih (i + 1) (y.set i (l[i]'(by omega))) (by omega) (by simp [hy]) (by
      intro j hlt
      by_cases h : j = i
      · subst h
        rw [List.getElem?_set_self (by omega), List.getElem?_eq_getElem (by omega)]
      · rw [List.getElem?_set_ne (by omega)]
        exact hj j (by omega))
    refine Ev.step (f := fun k => (laws_toByteS.f k (l[i]'(by omega))).bind fun t => if (i : Int) < (y.length : Int) then laws_toByteSS.l0 k l (y.set (i : Int).toNat t) (wrap64 ((i : Int) + 1)) else none) (fun k => ?_) (Ev.bind ht ?_)
    · simp only [laws_toByteSS.l0]
      rw [if_pos (by omega), if_pos (by omega), hr]
    · refine ev_pos (by omega) ?_
      rw [w64 (by omega) (by omega), Int.toNat_natCast]
      exact h2
theorem toByteSS_f (l : List (List Int)) (hn : l.length ≤ 1048576) (hx : ∀ x ∈ l, x.length ≤ 1048576) : Ev (fun k => laws_toByteSS.f k l) l := by
  unfold laws_toByteSS.f
  refine ev_pos (by omega) (ev_pos (by omega) ?_)
  exact toByteSS_l l hn hx l.length 0 _ (by omega) (by simp) (by intro j h; omega)

theorem eqByteSS_l (l : List (List Int)) (hn : l.length ≤ 1048576) (hx : ∀ x ∈ l, x.length ≤ 1048576) (d : Nat) : ∀ (i : Nat), i + d = l.length → Ev (fun k => laws_eqByteSS.l0 k l l (i : Int)) true := by
  induction d with
  | zero =>
    intro i hi
    refine Ev.step (f := fun _ => some true) (fun k => ?_) (Ev.now _)
    simp only [laws_eqByteSS.l0]
    rw [if_neg (by omega)]
  | succ d ih =>
    intro i hi
    have hr := rdl_nat l i (by omega)
    have ht := eqByteS_same (l[i]'(by omega)) (hx _ (List.getElem_mem _))
    refine Ev.step (f := fun k => (laws_eqByteS.f k (l[i]'(by omega)) (l[i]'(by omega))).bind fun t => if t = true then laws_eqByteSS.l0 k l l (wrap64 ((i : Int) + 1)) else some false) (fun k => ?_) (Ev.bind ht (ev_pos rfl ?_))
    · simp only [laws_eqByteSS.l0]
      rw [if_pos (by omega), if_pos (by omega), hr]
      rw [if_pos (by omega)]
    · rw [w64 (by omega) (by omega)]
      exact ih (i + 1) (by omega)
theorem eqByteSS_same (l : List (List Int)) (hn : l.length ≤ 1048576) (hx : ∀ x ∈ l, x.length ≤ 1048576) : Ev (fun k => laws_eqByteSS.f k l l) true := by
  unfold laws_eqByteSS.f
  exact ev_pos rfl (eqByteSS_l l hn hx l.length 0 (by omega))

theorem szPage_f (lsn : Int) (l : List (List Int)) (hl : l.length ≤ 9223372036854775807) (hx : ∀ x ∈ l, x.length ≤ 9223372036854775807) (left : Int) (h0 : 0 ≤ left) (h1 : left ≤ 1048576) :
    Ev (fun k => laws_szPage.f k lsn l left) (if left < (l.length : Int) + sumLen l then -1 else left - ((l.length : Int) + sumLen l)) := by
  unfold laws_szPage.f
  refine Ev.bind (szByteSS_f l hl hx left h0 h1) ?_
  by_cases h : left < (l.length : Int) + sumLen l
  · rw [if_pos h]
    exact ev_pos (by omega) (Ev.now _)
  · rw [if_neg h]
    exact ev_neg (by omega) (Ev.now _)
theorem toPage_f (lsn : Int) (l : List (List Int)) (hn : l.length ≤ 1048576) (hx : ∀ x ∈ l, x.length ≤ 1048576) : Ev (fun k => laws_toPage.f k lsn l) (lsn, l) := by
  unfold laws_toPage.f
  exact Ev.bind (toByteSS_f l hn hx) (Ev.now _)

theorem eqPage_same (lsn : Int) (l : List (List Int)) (hn : l.length ≤ 1048576) (hx : ∀ x ∈ l, x.length ≤ 1048576) : Ev (fun k => laws_eqPage.f k lsn l lsn l) true := by
  unfold laws_eqPage.f
  exact ev_pos rfl (Ev.bind (eqByteSS_same l hn hx) (ev_pos rfl (Ev.now _)))

/-- how many bytes a page uses, or -1 -/
def puOf (lsn : Int) (l : List (List Int)) : Int :=
  if ¬ ((0 ≤ lsn ∧ lsn ≤ 1000000) ∧ l.length ≤ 16) then -1
  else if ∃ x ∈ l, 92 < x.length then -1
  else if 240 < 1 + l.length + sumLen l then -1
  else if 0 < l.length ∧ (rd_L1 l ((l.length : Int) - 1)).length = 0 then -1
  else 1 + l.length + sumLen l
theorem small_sum (l : List (List Int)) (h : ¬ ∃ x ∈ l, 92 < x.length) : sumLen l ≤ 92 * l.length := by
  induction l with
  | nil => simp [sumLen]
  | cons x l ih =>
    have h1 := ih (fun ⟨y, hy, hz⟩ => h ⟨y, List.mem_cons_of_mem _ hy, hz⟩)
    have h2 : ¬ 92 < x.length := fun hz => h ⟨x, List.mem_cons_self .., hz⟩
    simp only [sumLen, List.length_cons]
    omega
def sumTake (l : List (List Int)) (i : Nat) : Nat := sumLen (l.take i)
theorem sumTake_succ (l : List (List Int)) (i : Nat) (h : i < l.length) : sumTake l (i + 1) = sumTake l i + (l[i]).length := by
  have hs : ∀ a b : List (List Int), sumLen (a ++ b) = sumLen a + sumLen b := by
    intro a b
    induction a with
    | nil => simp [sumLen]
    | cons x a ih => simp only [List.cons_append, sumLen, ih]; omega
  unfold sumTake
  rw [List.take_succ_eq_append_getElem h, hs]
  simp [sumLen]
theorem sumTake_le (l : List (List Int)) (i : Nat) (hl : l.length ≤ 16) (hi : i ≤ l.length) (h : ∀ j (hj : j < l.length), j < i → (l[j]).length ≤ 92) : sumTake l i ≤ 92 * i := by
  induction i with
  | zero => simp [sumTake, sumLen]
  | succ i ih =>
    have h1 := ih (by omega) (fun j hj hji => h j hj (by omega))
    have h2 := h i (by omega) (by omega)
    rw [sumTake_succ l i (by omega)]
    omega
theorem spec_PageUsed_end (lsn : Int) (l : List (List Int)) (hp : (0 ≤ lsn ∧ lsn ≤ 1000000) ∧ l.length ≤ 16) (hs : ¬ ∃ x ∈ l, 92 < x.length) : ∀ (i : Nat), i = l.length →
    Ev (fun k => spec_PageUsed.l0 k (1 + l.length + sumLen l : Int) (i : Int) lsn l) (puOf lsn l) := by
  intro i hi
  have hb := small_sum l hs
  unfold puOf
  rw [if_neg (not_not_intro hp), if_neg hs]
  have last : ∀ b : Bool, b = decide (0 < l.length ∧ (rd_L1 l ((l.length : Int) - 1)).length = 0) → Ev (fun k => spec_PageUsed.j2 k (1 + l.length + sumLen l : Int) b) (if 240 < 1 + l.length + sumLen l then -1 else if 0 < l.length ∧ (rd_L1 l ((l.length : Int) - 1)).length = 0 then -1 else 1 + l.length + sumLen l) := by
    intro b hb2
    refine Ev.step (f := fun _ => some (if 240 < 1 + l.length + sumLen l then (-1 : Int) else if 0 < l.length ∧ (rd_L1 l ((l.length : Int) - 1)).length = 0 then -1 else 1 + l.length + sumLen l)) (fun k => ?_) (Ev.now _)
    simp only [spec_PageUsed.j2, hb2, decide_eq_true_eq]
    by_cases h1 : 0 < l.length ∧ (rd_L1 l ((l.length : Int) - 1)).length = 0
    · rw [if_pos h1, if_pos h1]
      split <;> rfl
    · rw [if_neg h1, if_neg h1]
      by_cases h2 : 240 < 1 + l.length + sumLen l
      · rw [if_pos (by omega), if_pos h2]
      · rw [if_neg (by omega), if_neg h2]
  by_cases h0 : (l.length : Int) > 0
  · refine Ev.step (fun k => ?_) (last _ rfl)
    simp only [spec_PageUsed.l0]
    rw [if_neg (by omega), if_pos h0, w64 (by omega) (by omega), if_pos (by omega), if_pos (by omega)]
    congr 1
    by_cases h1 : (rd_L1 l ((l.length : Int) - 1)).length = 0
    · rw [decide_eq_true ⟨by omega, h1⟩, h1]; rfl
    · rw [decide_eq_false (fun h => h1 h.2)]
      simpa using h1
  · refine Ev.step (fun k => ?_) (last false (by rw [decide_eq_false]; omega))
    simp only [spec_PageUsed.l0]
    rw [if_neg (by omega), if_neg h0]
theorem spec_PageUsed_l (lsn : Int) (l : List (List Int)) (hp : (0 ≤ lsn ∧ lsn ≤ 1000000) ∧ l.length ≤ 16) (d : Nat) : ∀ (i : Nat), i + d = l.length → (∀ j (hj : j < l.length), j < i → (l[j]).length ≤ 92) →
    Ev (fun k => spec_PageUsed.l0 k (1 + l.length + sumTake l i : Int) (i : Int) lsn l) (puOf lsn l) := by
  induction d with
  | zero =>
    intro i hi hj
    have e : sumTake l i = sumLen l := by unfold sumTake; rw [List.take_of_length_le (by omega)]
    rw [e]
    refine spec_PageUsed_end lsn l hp ?_ i (by omega)
    rintro ⟨x, hx, h⟩
    obtain ⟨j, hjl, rfl⟩ := List.mem_iff_getElem.1 hx
    have := hj j hjl (by omega)
    omega
  | succ d ih =>
    intro i hi hj
    have hr := rdl_nat l i (by omega)
    have hb := sumTake_le l i hp.2 (by omega) hj
    by_cases h : (l[i]'(by omega)).length > 92
    · have e : puOf lsn l = -1 := by
        unfold puOf
        rw [if_neg (not_not_intro hp), if_pos ⟨_, List.getElem_mem _, h⟩]
      rw [e]
      refine Ev.step (f := fun _ => some (-1)) (fun k => ?_) (Ev.now _)
      simp only [spec_PageUsed.l0]
      rw [if_pos (by omega), if_pos (by omega), hr, if_pos (by omega)]
    · have h2 := ih (i + 1) (by omega) (by
        intro j hjl hji
        by_cases hje : j = i
        · subst hje; omega
        · exact hj j hjl (by omega))
      rw [sumTake_succ l i (by omega)] at h2
      refine Ev.step (fun k => ?_) h2
      simp only [spec_PageUsed.l0]
      rw [if_pos (by omega), if_pos (by omega), hr, if_neg (by omega), w64 (x := 1 + (l.length : Int) + (sumTake l i : Int) + ((l[i]'(by omega)).length : Int)) (by omega) (by omega), w64 (by omega) (by omega)]
      congr 1
      omega
theorem impl_PageUsed_l (lsn : Int) (l : List (List Int)) (hp : (0 ≤ lsn ∧ lsn ≤ 1000000) ∧ l.length ≤ 16) (d : Nat) : ∀ (i : Nat), i + d = l.length → (∀ j (hj : j < l.length), j < i → (l[j]).length ≤ 92) →
    Ev (fun k => impl_PageUsed.l0 k (1 + l.length + sumTake l i : Int) l (l.length : Int) (i : Int) lsn l) (puOf lsn l) := by
  induction d with
  | zero =>
    intro i hi hj
    have e : sumTake l i = sumLen l := by unfold sumTake; rw [List.take_of_length_le (by omega)]
    rw [e]
    have hs : ¬ ∃ x ∈ l, 92 < x.length := by
      rintro ⟨x, hx, h⟩
      obtain ⟨j, hjl, rfl⟩ := List.mem_iff_getElem.1 hx
      have := hj j hjl (by omega)
      omega
    have hb := small_sum l hs
    unfold puOf
    rw [if_neg (not_not_intro hp), if_neg hs]
    refine Ev.step (f := fun _ => some (if 240 < 1 + l.length + sumLen l then (-1 : Int) else if 0 < l.length ∧ (rd_L1 l ((l.length : Int) - 1)).length = 0 then -1 else 1 + l.length + sumLen l)) (fun k => ?_) (Ev.now _)
    simp only [impl_PageUsed.l0]
    rw [if_neg (by omega)]
    by_cases h2 : 240 < 1 + l.length + sumLen l
    · rw [if_pos (by omega), if_pos h2]
    · rw [if_neg (by omega), if_neg h2]
      by_cases h0 : (l.length : Int) > 0
      · rw [if_pos h0, w64 (by omega) (by omega), if_pos (by omega), if_pos (by omega)]
        by_cases h1 : (rd_L1 l ((l.length : Int) - 1)).length = 0
        · rw [if_pos (by omega), if_pos ⟨by omega, h1⟩]
        · rw [if_neg (by omega), if_neg (fun h => h1 h.2)]
      · rw [if_neg h0, if_neg (by omega)]
  | succ d ih =>
    intro i hi hj
    have hr := rdl_nat l i (by omega)
    have hb := sumTake_le l i hp.2 (by omega) hj
    by_cases h : (l[i]'(by omega)).length > 92
    · have e : puOf lsn l = -1 := by
        unfold puOf
        rw [if_neg (not_not_intro hp), if_pos ⟨_, List.getElem_mem _, h⟩]
      rw [e]
      refine Ev.step (f := fun _ => some (-1)) (fun k => ?_) (Ev.now _)
      simp only [impl_PageUsed.l0]
      rw [if_pos (by omega), if_pos (by omega), if_pos (by omega), hr, if_pos (by omega)]
    · have h2 := ih (i + 1) (by omega) (by
        intro j hjl hji
        by_cases hje : j = i
        · subst hje; omega
        · exact hj j hjl (by omega))
      rw [sumTake_succ l i (by omega)] at h2
      refine Ev.step (fun k => ?_) h2
      simp only [impl_PageUsed.l0]
      rw [if_pos (by omega), if_pos (by omega), if_pos (by omega), hr, if_neg (by omega), w64 (x := 1 + (l.length : Int) + (sumTake l i : Int) + ((l[i]'(by omega)).length : Int)) (by omega) (by omega), w64 (by omega) (by omega)]
      congr 1
      omega
theorem puOf_off (lsn : Int) (l : List (List Int)) (h : ¬ ((0 ≤ lsn ∧ lsn ≤ 1000000) ∧ l.length ≤ 16)) : puOf lsn l = -1 := by
  unfold puOf
  rw [if_pos h]
theorem spec_PageUsed_f (lsn : Int) (l : List (List Int)) (hn : l.length ≤ 1048576) : Ev (fun k => spec_PageUsed.f k lsn l) (puOf lsn l) := by
  unfold spec_PageUsed.f
  refine ev_bind0 (spec_l5in_f _ _ _) ?_
  by_cases h : 0 ≤ lsn ∧ lsn ≤ 1000000
  · refine ev_pos (decide_eq_true h) ?_
    by_cases h2 : (l.length : Int) > 16
    · rw [decide_eq_true h2, puOf_off lsn l (fun h => by have := h.2; omega)]
      exact Ev.step (f := fun _ => some (-1)) (fun k => by simp only [spec_PageUsed.j0, if_true]) (Ev.now _)
    · rw [decide_eq_false h2]
      refine Ev.step (fun k => by simp only [spec_PageUsed.j0, Bool.false_eq_true, if_false]; rfl) ?_
      rw [w64 (by omega) (by omega)]
      have := spec_PageUsed_l lsn l ⟨h, by omega⟩ l.length 0 (by omega) (fun j hj hji => by omega)
      simpa [sumTake, sumLen] using this
  · rw [puOf_off lsn l (fun h2 => h h2.1)]
    refine ev_neg (by simpa using h) ?_
    exact Ev.step (f := fun _ => some (-1)) (fun k => by simp only [spec_PageUsed.j0, if_true]) (Ev.now _)
theorem impl_PageUsed_f (lsn : Int) (l : List (List Int)) (hn : l.length ≤ 1048576) : Ev (fun k => impl_PageUsed.f k lsn l) (puOf lsn l) := by
  unfold impl_PageUsed.f
  refine ev_bind0 (impl_within_f _ _ _) ?_
  by_cases h : 0 ≤ lsn ∧ lsn ≤ 1000000
  · refine ev_pos (decide_eq_true h) ?_
    by_cases h2 : (l.length : Int) > 16
    · rw [decide_eq_true h2, puOf_off lsn l (fun h => by have := h.2; omega)]
      exact Ev.step (f := fun _ => some (-1)) (fun k => by simp only [impl_PageUsed.j0, if_true]) (Ev.now _)
    · rw [decide_eq_false h2]
      refine Ev.step (fun k => by simp only [impl_PageUsed.j0, Bool.false_eq_true, if_false]; rfl) ?_
      rw [w64 (by omega) (by omega)]
      have := impl_PageUsed_l lsn l ⟨h, by omega⟩ l.length 0 (by omega) (fun j hj hji => by omega)
      simpa [sumTake, sumLen] using this
  · rw [puOf_off lsn l (fun h2 => h h2.1)]
    refine ev_neg (by simpa using h) ?_
    exact Ev.step (f := fun _ => some (-1)) (fun k => by simp only [impl_PageUsed.j0, if_true]) (Ev.now _)

/-- the first free slot from a place on, or -1 -/
def fe : List (List Int) → Nat → Int
  | [], _ => -1
  | x :: xs, i => if x.length = 0 then (i : Int) else fe xs (i + 1)
theorem fe_drop (l : List (List Int)) (i : Nat) (h : i < l.length) : fe (l.drop i) i = if (l[i]).length = 0 then (i : Int) else fe (l.drop (i + 1)) (i + 1) := by
  rw [List.drop_eq_getElem_cons h, fe]
theorem fe_end (l : List (List Int)) (i : Nat) (h : l.length ≤ i) : fe (l.drop i) i = -1 := by
  rw [List.drop_eq_nil_of_le h, fe]
theorem pu_bound (lsn : Int) (l : List (List Int)) : puOf lsn l = -1 ∨ (1 ≤ puOf lsn l ∧ puOf lsn l ≤ 240 ∧ l.length ≤ 16) := by
  unfold puOf
  repeat' split
  all_goals omega
/-- where bytes would come, in a page that uses u bytes -/
def placeOf (u n : Int) (l : List (List Int)) : Int :=
  if u < 0 ∨ n < 1 ∨ 92 < n then -1 else if u + n ≤ 240 ∧ 0 ≤ fe l 0 then fe l 0 else if l.length < 16 ∧ u + 1 + n ≤ 240 then l.length else -1
theorem index_l (l : List (List Int)) (hl : l.length ≤ 16) (d : Nat) : ∀ i : Nat, i + d = l.length → Ev (fun k => slices_IndexFunc_byte_byte.l0 k l (l.length : Int) (i : Int)) (fe (l.drop i) i) := by
  induction d with
  | zero =>
    intro i hi
    rw [fe_end l i (by omega)]
    exact Ev.step (fun k => by rw [slices_IndexFunc_byte_byte.l0, if_neg (by omega)]) (Ev.now _)
  | succ d ih =>
    intro i hi
    refine Ev.step (fun k => by rw [slices_IndexFunc_byte_byte.l0, if_pos (by omega), if_pos (by omega), if_pos (by omega), rdl_nat l i (by omega), impl_PagePlace_1.f, Option.bind_some]) ?_
    rw [fe_drop l i (by omega)]
    by_cases h : (l[i]'(by omega)).length = 0
    · rw [if_pos h]
      exact ev_pos (by simpa using h) (Ev.now _)
    · rw [if_neg h]
      refine ev_neg (by simpa using h) ?_
      rw [w64 (by omega) (by omega)]
      exact ih (i + 1) (by omega)
theorem index_f (l : List (List Int)) (hl : l.length ≤ 16) : Ev (fun k => slices_IndexFunc_byte_byte.f k l) (fe l 0) := by
  unfold slices_IndexFunc_byte_byte.f
  exact index_l l hl l.length 0 (by omega)
theorem fe_ge (l : List (List Int)) : ∀ i : Nat, fe l i = -1 ∨ ((i : Int) ≤ fe l i ∧ fe l i < i + l.length) := by
  induction l with
  | nil => intro i; exact Or.inl rfl
  | cons x l ih =>
    intro i
    rw [fe]
    split
    · exact Or.inr ⟨by omega, by simp only [List.length_cons]; omega⟩
    · rcases ih (i + 1) with h | h
      · exact Or.inl h
      · exact Or.inr ⟨by omega, by simp only [List.length_cons]; omega⟩
theorem spec_PagePlace_l (lsn u n : Int) (l : List (List Int)) (hu : 1 ≤ u ∧ u ≤ 240) (hn : 1 ≤ n ∧ n ≤ 92) (hl : l.length ≤ 16) (d : Nat) : ∀ i : Nat, i + d = l.length →
    Ev (fun k => spec_PagePlace.l0 k n u (i : Int) lsn l) (if u + n ≤ 240 ∧ 0 ≤ fe (l.drop i) i then fe (l.drop i) i else if l.length < 16 ∧ u + 1 + n ≤ 240 then l.length else -1) := by
  induction d with
  | zero =>
    intro i hi
    rw [fe_end l i (by omega), if_neg (by omega)]
    refine Ev.step (fun k => by rw [spec_PagePlace.l0, if_neg (by omega)]) ?_
    by_cases h1 : l.length < 16
    · refine ev_pos (by omega) ?_
      rw [w64 (x := u + 1) (by omega) (by omega), w64 (by omega) (by omega)]
      by_cases h2 : u + 1 + n ≤ 240
      · refine ev_pos h2 ?_
        rw [if_pos ⟨h1, h2⟩]
        exact Ev.now _
      · refine ev_neg h2 ?_
        rw [if_neg (by omega)]
        exact Ev.now _
    · refine ev_neg (by omega) ?_
      rw [if_neg (by omega)]
      exact Ev.now _
  | succ d ih =>
    intro i hi
    refine Ev.step (fun k => by rw [spec_PagePlace.l0, if_pos (by omega), if_pos (by omega), rdl_nat l i (by omega)]) ?_
    rw [fe_drop l i (by omega)]
    have next := ih (i + 1) (by omega)
    rw [w64 (x := u + n) (by omega) (by omega), w64 (x := (i : Int) + 1) (by omega) (by omega)]
    by_cases h : (l[i]'(by omega)).length = 0
    · rw [if_pos h]
      refine ev_pos (by omega) ?_
      by_cases h2 : u + n ≤ 240
      · rw [if_pos ⟨h2, by omega⟩]
        exact ev_pos h2 (Ev.now _)
      · refine ev_neg h2 ?_
        rw [if_neg (by omega)]
        rw [if_neg (by omega)] at next
        exact next
    · rw [if_neg h]
      exact ev_neg (by omega) next
theorem spec_PagePlace_f (lsn n : Int) (l : List (List Int)) (hl : l.length ≤ 1048576) : Ev (fun k => spec_PagePlace.f k lsn l n) (placeOf (puOf lsn l) n l) := by
  unfold spec_PagePlace.f placeOf
  refine Ev.bind (spec_PageUsed_f lsn l hl) ?_
  have hb := pu_bound lsn l
  have bad : Ev (fun k => spec_PagePlace.j0 k n (puOf lsn l) true lsn l) (-1) := Ev.step (fun k => by rw [spec_PagePlace.j0, if_pos rfl]) (Ev.now _)
  by_cases hu : puOf lsn l < 0
  · rw [if_pos (Or.inl hu)]
    exact ev_pos hu bad
  · refine ev_neg hu ?_
    refine ev_bind0 (spec_l5in_f n 1 92) ?_
    by_cases hn : 1 ≤ n ∧ n ≤ 92
    · rw [decide_eq_true hn, if_neg (by omega)]
      refine Ev.step (fun k => by rw [spec_PagePlace.j0, if_neg (by simp)]) ?_
      exact spec_PagePlace_l lsn _ n l (by omega) hn (by omega) l.length 0 (by omega)
    · rw [decide_eq_false hn, if_pos (by omega)]
      exact bad
theorem impl_PagePlace_f (lsn n : Int) (l : List (List Int)) (hl : l.length ≤ 1048576) : Ev (fun k => impl_PagePlace.f k lsn l n) (placeOf (puOf lsn l) n l) := by
  unfold impl_PagePlace.f placeOf
  refine Ev.bind (impl_PageUsed_f lsn l hl) ?_
  have hb := pu_bound lsn l
  have bad : Ev (fun k => impl_PagePlace.j0 k n (puOf lsn l) true lsn l) (-1) := Ev.step (fun k => by rw [impl_PagePlace.j0, if_pos rfl]) (Ev.now _)
  by_cases hu : puOf lsn l < 0
  · rw [if_pos (Or.inl hu)]
    exact ev_pos hu bad
  · refine ev_neg hu ?_
    refine ev_bind0 (impl_within_f n 1 92) ?_
    by_cases hn : 1 ≤ n ∧ n ≤ 92
    · rw [decide_eq_true hn, if_neg (by omega)]
      refine Ev.step (fun k => by rw [impl_PagePlace.j0, if_neg (by simp)]) ?_
      refine Ev.bind (index_f l (by omega)) ?_
      have fin : ∀ b : Bool, b = decide (0 ≤ fe l 0 ∧ puOf lsn l + n ≤ 240) → Ev (fun k => impl_PagePlace.j1 k n (puOf lsn l) (fe l 0) b lsn l) (if puOf lsn l + n ≤ 240 ∧ 0 ≤ fe l 0 then fe l 0 else if l.length < 16 ∧ puOf lsn l + 1 + n ≤ 240 then l.length else -1) := by
        intro b hb2
        subst hb2
        by_cases h : 0 ≤ fe l 0 ∧ puOf lsn l + n ≤ 240
        · rw [decide_eq_true h, if_pos ⟨h.2, h.1⟩]
          exact Ev.step (fun k => by rw [impl_PagePlace.j1, if_pos rfl]) (Ev.now _)
        · rw [decide_eq_false h, if_neg (fun h2 => h ⟨h2.2, h2.1⟩)]
          refine Ev.step (fun k => by rw [impl_PagePlace.j1, if_neg (by simp)]) ?_
          by_cases h1 : l.length < 16
          · refine ev_pos (by omega) ?_
            rw [w64 (x := puOf lsn l + 1) (by omega) (by omega), w64 (by omega) (by omega)]
            by_cases h2 : puOf lsn l + 1 + n ≤ 240
            · refine ev_pos h2 ?_
              rw [if_pos ⟨h1, h2⟩]
              exact Ev.now _
            · refine ev_neg h2 ?_
              rw [if_neg (by omega)]
              exact Ev.now _
          · refine ev_neg (by omega) ?_
            rw [if_neg (by omega)]
            exact Ev.now _
      rw [w64 (x := puOf lsn l + n) (by omega) (by omega)]
      by_cases h0 : fe l 0 ≥ 0
      · refine ev_pos h0 (fin _ ?_)
        rw [decide_eq_decide]
        omega
      · refine ev_neg h0 (fin _ ?_)
        rw [decide_eq_false (by omega)]
    · rw [decide_eq_false hn, if_pos (by omega)]
      exact bad

/-- The pure statement. -/
def Stmt : Prop := ∀ (a0_0 : Int) (l0_1 : List (List Int)) (a1 : Int), ((fun n => (Lit.int .i64 n).wf = true) a0_0) → ((fun xs => xs.length ≤ 9223372036854775807 ∧ ∀ x ∈ xs, (fun xs => xs.length ≤ 9223372036854775807 ∧ ∀ x ∈ xs, (fun n => (Lit.int .u8 n).wf = true) x) x) l0_1) → ((fun n => (Lit.int .i64 n).wf = true) a1) → ∃ k, laws_FnExactPagePlace.f k a0_0 l0_1 a1 = some true
theorem main : Stmt := by
  intro lsn l n w0 ⟨hl, hw⟩ _
  refine Ev.rounds ?_
  unfold laws_FnExactPagePlace.f
  have hx : ∀ x ∈ l, x.length ≤ 9223372036854775807 := fun x h => (hw x h).1
  refine Ev.bind (szPage_f lsn l hl hx 1048576 (by omega) (by omega)) ?_
  by_cases h : (1048576 : Int) < (l.length : Int) + sumLen l
  · rw [if_pos h]
    exact ev_pos (by omega) (Ev.now _)
  rw [if_neg h]
  have hn : l.length ≤ 1048576 := by omega
  have hx2 : ∀ x ∈ l, x.length ≤ 1048576 := fun x hxl => by have := sumLen_mem hxl; omega
  refine ev_neg (by omega) ?_
  refine Ev.bind (toPage_f lsn l hn hx2) ?_
  refine Ev.bind (spec_PagePlace_f lsn n l hn) ?_
  refine Ev.bind (toPage_f lsn l hn hx2) ?_
  refine Ev.bind (impl_PagePlace_f lsn n l hn) ?_
  refine ev_pos rfl ?_
  refine Ev.bind (toPage_f lsn l hn hx2) ?_
  refine Ev.bind (eqPage_same lsn l hn hx2) ?_
  exact ev_pos rfl (Ev.now _)

end Go.Proofs.Ytokpniagnbaflaa.Pure.ofFnExactPagePlace
namespace Go.Proofs.Ytokpniagnbaflaa.PrintWords
/-- The word that the printed row asks for, under the name by which it asks. -/
abbrev sized_ints := @Go.Proofs.YtokpniagnbaflaaW.PrintWords.sized_ints
end Go.Proofs.Ytokpniagnbaflaa.PrintWords
namespace Go.Proofs.Ytokpniagnbaflaa.Pure
open Go.Proofs.Ytokpniagnbaflaa.PFnExactPagePlace
theorem FnExactPagePlace : ofFnExactPagePlace.Stmt := ofFnExactPagePlace.main
end Go.Proofs.Ytokpniagnbaflaa.Pure

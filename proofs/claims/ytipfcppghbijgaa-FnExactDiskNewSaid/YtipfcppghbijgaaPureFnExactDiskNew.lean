/-
The law FnExactDiskNew answers true: for every number the program's DiskNew gives the reference's disk, in memory of its own.
Conditions: none beyond the bounds of the statement itself.
-/
import Derived.Test.YtipfcppghbijgaaPFnExactDiskNewx3
import Derived.Test.YtipfcppghbijgaaWSized
set_option linter.unusedVariables false
set_option linter.unusedSimpArgs false
namespace Go.Proofs.Ytipfcppghbijgaa.Pure.ofFnExactDiskNew
open Go.RowKit Go.Proofs.Ytipfcppghbijgaa.PFnExactDiskNew Go.Proofs.YtipfcppghbijgaaW.PrintWords Go.Proofs.YtipfcppghbijgaaW.PrintLast Go.Proofs.YtipfcppghbijgaaW.PrintMore

theorem ev_pos {α : Type} {c : Prop} [Decidable c] {A B : Nat → Option α} {r : α} (hc : c) (h : Ev A r) : Ev (fun k => if c then A k else B k) r := by
  refine Ev.congr (fun k => ?_) h
  rw [if_pos hc]
theorem ev_neg {α : Type} {c : Prop} [Decidable c] {A B : Nat → Option α} {r : α} (hc : ¬ c) (h : Ev B r) : Ev (fun k => if c then A k else B k) r := by
  refine Ev.congr (fun k => ?_) h
  rw [if_neg hc]
theorem ev_bind0 {α β : Type} {g : Option α} {f : Nat → α → Option β} {a : α} {r : β} (h : g = some a) (k : Ev (fun n => f n a) r) : Ev (fun n => g.bind (f n)) r := by
  refine Ev.congr (fun n => ?_) k
  rw [h]; rfl
theorem w64 {x : Int} (h0 : -9223372036854775808 ≤ x) (h1 : x ≤ 9223372036854775807) : wrap64 x = x := by
  unfold wrap64; omega
theorem rd_cons (x : Int) (l : List Int) : rd (x :: l) 0 = x := rfl
theorem rd_nat (l : List Int) (i : Nat) (h : i < l.length) : rd l (i : Int) = l[i] := by
  simp [rd, List.getD_eq_getElem?_getD, List.getElem?_eq_getElem h]
theorem rd_at (l : List Int) (i : Int) (h0 : 0 ≤ i) (h : i < l.length) : ∃ x, x ∈ l ∧ rd l i = x := by
  obtain ⟨n, rfl⟩ := Int.eq_ofNat_of_zero_le h0
  exact ⟨l[n]'(by omega), List.getElem_mem _, rd_nat l n (by omega)⟩
def marks (m : Int) : Nat → List Int
  | 0 => []
  | n + 1 => m :: marks (m + 1) n
def marksB (m : Int) : Nat → List Int
  | 0 => []
  | n + 1 => (m % 256) :: marksB (m + 1) n
theorem marks_length (n : Nat) : ∀ m, (marks m n).length = n := by
  induction n with
  | zero => intro m; rfl
  | succ n ih => intro m; simp [marks, ih]
theorem marksB_length (n : Nat) : ∀ m, (marksB m n).length = n := by
  induction n with
  | zero => intro m; rfl
  | succ n ih => intro m; simp [marksB, ih]
theorem marks_get (n : Nat) : ∀ m (i : Nat) (h : i < (marks m n).length), (marks m n)[i] = m + i := by
  induction n with
  | zero => intro m i h; simp [marks] at h
  | succ n ih =>
    intro m i h
    cases i with
    | zero => simp [marks]
    | succ i => simp only [marks, List.getElem_cons_succ]; rw [ih]; push_cast; omega
theorem marksB_get (n : Nat) : ∀ m (i : Nat) (h : i < (marksB m n).length), (marksB m n)[i] = (m + i) % 256 := by
  induction n with
  | zero => intro m i h; simp [marksB] at h
  | succ n ih =>
    intro m i h
    cases i with
    | zero => simp [marksB]
    | succ i => simp only [marksB, List.getElem_cons_succ]; rw [ih]; push_cast; omega

theorem impl_within_f (a b c : Int) : impl_within.f a b c = some (decide (b ≤ a ∧ a ≤ c)) := by
  unfold impl_within.f
  by_cases h : b ≤ a <;> simp [h]

theorem eqByteS_l (a b : List Int) (hn : a.length ≤ 1048576) (hab : a.length = b.length) (d : Nat) : ∀ (i : Nat), i + d = a.length → (∀ j, j < i → a[j]? = b[j]?) → Ev (fun k => laws_eqByteS.l0 k a b (i : Int)) (decide (a = b)) := by
  induction d with
  | zero =>
    intro i hi hj
    refine Ev.step (f := fun _ => some true) (fun k => ?_) ?_
    · simp only [laws_eqByteS.l0]
      rw [if_neg (by omega)]
    · have : a = b := by
        refine List.ext_getElem? fun j => ?_
        by_cases h : j < i
        · exact hj j h
        · rw [List.getElem?_eq_none (by omega), List.getElem?_eq_none (by omega)]
      rw [decide_eq_true this]
      exact Ev.now _
  | succ d ih =>
    intro i hi hj
    have ha : rd a (i : Int) = a[i]'(by omega) := rd_nat a i (by omega)
    have hb : rd b (i : Int) = b[i]'(by omega) := rd_nat b i (by omega)
    by_cases he : rd a (i : Int) = rd b (i : Int)
    · refine Ev.step (f := fun k => laws_eqByteS.l0 k a b ((i + 1 : Nat) : Int)) (fun k => ?_) (ih (i + 1) (by omega) ?_)
      · simp only [laws_eqByteS.l0]
        rw [if_pos (by omega), if_pos (by omega), if_pos (by omega), if_pos he, w64 (by omega) (by omega)]
        simp
      · intro j hlt
        by_cases h : j = i
        · subst h
          rw [List.getElem?_eq_getElem (by omega), List.getElem?_eq_getElem (by omega), ← ha, ← hb, he]
        · exact hj j (by omega)
    · refine Ev.step (f := fun _ => some false) (fun k => ?_) ?_
      · simp only [laws_eqByteS.l0]
        rw [if_pos (by omega), if_pos (by omega), if_pos (by omega), if_neg he]
      · have : ¬ a = b := by
          rintro rfl
          exact he rfl
        rw [decide_eq_false this]
        exact Ev.now _
theorem eqByteS_f (a b : List Int) (hn : a.length ≤ 1048576) : Ev (fun k => laws_eqByteS.f k a b) (decide (a = b)) := by
  unfold laws_eqByteS.f
  by_cases h : a.length = b.length
  · refine ev_pos (by omega) ?_
    exact eqByteS_l a b hn h a.length 0 (by omega) (by intro j h; omega)
  · refine ev_neg (by omega) ?_
    rw [decide_eq_false (by rintro rfl; exact h rfl)]
    exact Ev.now _
theorem eqByteS_same (a : List Int) (hn : a.length ≤ 1048576) : Ev (fun k => laws_eqByteS.f k a a) true := by
  have := eqByteS_f a a hn
  rwa [decide_eq_true rfl] at this

theorem markByteS_l (a : List Int) (hn : a.length ≤ 1048576) (m0 : Int) (h0 : 0 ≤ m0) (h1 : m0 ≤ 1000000000000) (d : Nat) : ∀ (i : Nat) (y : List Int), i + d = a.length → y.length = a.length → (∀ j, j < i → y[j]? = (marksB m0 a.length)[j]?) → Ev (fun k => laws_markByteS.l0 k y (m0 + i) (i : Int)) (m0 + a.length, marksB m0 a.length) := by
  have hml := marksB_length a.length m0
  induction d with
  | zero =>
    intro i y hi hy hj
    refine Ev.step (f := fun _ => some (m0 + a.length, marksB m0 a.length)) (fun k => ?_) (Ev.now _)
    simp only [laws_markByteS.l0]
    rw [if_neg (by omega)]
    have hy2 : y = marksB m0 a.length := by
      refine List.ext_getElem? fun j => ?_
      by_cases h : j < i
      · exact hj j h
      · rw [List.getElem?_eq_none (by omega), List.getElem?_eq_none (by omega)]
    rw [hy2, show (i : Int) = a.length by omega]
  | succ d ih =>
    intro i y hi hy hj
    refine Ev.step (f := fun k => laws_markByteS.l0 k (y.set i ((m0+i)%256)) (m0 + (i + 1 : Nat)) ((i + 1 : Nat) : Int)) (fun k => ?_) (ih (i + 1) _ (by omega) (by simp [hy]) ?_)
    · simp only [laws_markByteS.l0]
      rw [if_pos (by omega), if_pos (by omega), w64 (by omega) (by omega), w64 (by omega) (by omega)]
      simp [Int.add_assoc]
    · intro j hlt
      by_cases h : j = i
      · subst h
        rw [List.getElem?_set_self (by omega), List.getElem?_eq_getElem (by omega), marksB_get]
      · rw [List.getElem?_set_ne (by omega)]
        exact hj j (by omega)
theorem markByteS_f (a : List Int) (hn : a.length ≤ 1048576) (m : Int) (h0 : 0 ≤ m) (h1 : m ≤ 1000000000000) : Ev (fun k => laws_markByteS.f k a m) (m + a.length, marksB m a.length) := by
  unfold laws_markByteS.f
  have := markByteS_l a hn m h0 h1 a.length 0 a (by omega) rfl (by intro j h; omega)
  simpa using this

theorem heldByteS_l (n : Nat) (hn : n ≤ 1048576) (m0 : Int) (h0 : 0 ≤ m0) (h1 : m0 ≤ 1000000000000) (d : Nat) : ∀ (i : Nat), i + d = n → Ev (fun k => laws_heldByteS.l0 k (marksB m0 n) (m0 + i) (i : Int)) (m0 + n) := by
  have hml := marksB_length n m0
  induction d with
  | zero =>
    intro i hi
    refine Ev.step (f := fun _ => some (m0 + n)) (fun k => ?_) (Ev.now _)
    simp only [laws_heldByteS.l0]
    rw [if_neg (by omega), show (i : Int) = n by omega]
  | succ d ih =>
    intro i hi
    refine Ev.step (f := fun k => laws_heldByteS.l0 k (marksB m0 n) (m0 + (i + 1 : Nat)) ((i + 1 : Nat) : Int)) (fun k => ?_) (ih (i + 1) (by omega))
    simp only [laws_heldByteS.l0]
    rw [if_pos (by omega), if_pos (by omega), if_pos (by rw [rd_nat _ i (by omega), marksB_get]), w64 (by omega) (by omega), w64 (by omega) (by omega)]
    simp [Int.add_assoc]
theorem heldByteS_f (n : Nat) (hn : n ≤ 1048576) (m : Int) (h0 : 0 ≤ m) (h1 : m ≤ 1000000000000) : Ev (fun k => laws_heldByteS.f k (marksB m n) m) (m + n) := by
  unfold laws_heldByteS.f
  have := heldByteS_l n hn m h0 h1 n 0 (by omega)
  simpa using this

def sumLen : List (List Int) → Nat
  | [] => 0
  | x :: l => x.length + sumLen l
theorem rdl_nat (l : List (List Int)) (i : Nat) (h : i < l.length) : rd_L1 l (i : Int) = l[i] := by
  simp [rd_L1, List.getD_eq_getElem?_getD, List.getElem?_eq_getElem h]
theorem sumLen_drop (l : List (List Int)) (i : Nat) (h : i < l.length) : sumLen (l.drop i) = (l[i]).length + sumLen (l.drop (i + 1)) := by
  rw [List.drop_eq_getElem_cons h]
  rfl
theorem sumLen_mem {l : List (List Int)} {x : List Int} (h : x ∈ l) : x.length ≤ sumLen l := by
  induction l with
  | nil => cases h
  | cons y l ih =>
    simp only [sumLen]
    rcases List.mem_cons.1 h with rfl | h
    · omega
    · have := ih h; omega

theorem eqByteSS_l (l : List (List Int)) (hn : l.length ≤ 1048576) (hx : ∀ x ∈ l, x.length ≤ 1048576) (d : Nat) : ∀ (i : Nat), i + d = l.length → Ev (fun k => laws_eqByteSS.l0 k l l (i : Int)) true := by
  induction d with
  | zero =>
    intro i hi
    refine Ev.step (f := fun _ => some true) (fun k => ?_) (Ev.now _)
    simp only [laws_eqByteSS.l0]
    rw [if_neg (by omega)]
  | succ d ih =>
    intro i hi
    have hr := rdl_nat l i (by omega)
    have ht := eqByteS_same (l[i]'(by omega)) (hx _ (List.getElem_mem _))
    refine Ev.step (f := fun k => (laws_eqByteS.f k (l[i]'(by omega)) (l[i]'(by omega))).bind fun t => if t = true then laws_eqByteSS.l0 k l l (wrap64 ((i : Int) + 1)) else some false) (fun k => ?_) (Ev.bind ht (ev_pos rfl ?_))
    · simp only [laws_eqByteSS.l0]
      rw [if_pos (by omega), if_pos (by omega), hr]
      rw [if_pos (by omega)]
    · rw [w64 (by omega) (by omega)]
      exact ih (i + 1) (by omega)
theorem eqByteSS_same (l : List (List Int)) (hn : l.length ≤ 1048576) (hx : ∀ x ∈ l, x.length ≤ 1048576) : Ev (fun k => laws_eqByteSS.f k l l) true := by
  unfold laws_eqByteSS.f
  exact ev_pos rfl (eqByteSS_l l hn hx l.length 0 (by omega))

theorem rdB_Write (l : List S68) (i : Nat) (h : i < l.length) : rd_T68 l (i : Int) = l[i] := by
  simp [rd_T68, List.getD_eq_getElem?_getD, List.getElem?_eq_getElem h]
theorem eqWrite_same (x : S68) (h : ((x).f1).length ≤ 1048576) : Ev (fun k => laws_eqWrite.f k (x).f0 (x).f1 (x).f0 (x).f1) true := by
  unfold laws_eqWrite.f
  repeat refine ev_pos rfl ?_
  refine Ev.bind (eqByteS_same _ h) ?_
  exact ev_pos rfl (Ev.now _)
theorem eqWriteS_l (l : List S68) (hn : l.length ≤ 1048576) (hx : ∀ x ∈ l, ((x).f1).length ≤ 1048576) (d : Nat) : ∀ (i : Nat), i + d = l.length → Ev (fun k => laws_eqWriteS.l0 k l l (i : Int)) true := by
  induction d with
  | zero =>
    intro i hi
    refine Ev.step (fun k => by rw [laws_eqWriteS.l0, if_neg (by omega)]) (Ev.now _)
  | succ d ih =>
    intro i hi
    have hr := rdB_Write l i (by omega)
    have ht := eqWrite_same (l[i]'(by omega)) (hx _ (List.getElem_mem _))
    refine Ev.step (fun k => by rw [laws_eqWriteS.l0, if_pos (by omega), if_pos (by omega), if_pos (by omega), hr]) (Ev.bind ht (ev_pos rfl ?_))
    rw [w64 (by omega) (by omega)]
    exact ih (i + 1) (by omega)
theorem eqWriteS_same (l : List S68) (hn : l.length ≤ 1048576) (hx : ∀ x ∈ l, ((x).f1).length ≤ 1048576) : Ev (fun k => laws_eqWriteS.f k l l) true := by
  unfold laws_eqWriteS.f
  exact ev_pos rfl (eqWriteS_l l hn hx l.length 0 (by omega))

theorem eqDisk_same (l : List (List Int)) (ws : List S68) (f : Int) (dn : Bool) (hn : l.length ≤ 1048576) (hx : ∀ x ∈ l, x.length ≤ 1048576) (hn2 : ws.length ≤ 1048576) (hx2 : ∀ x ∈ ws, x.f1.length ≤ 1048576) : Ev (fun k => laws_eqDisk.f k l ws f dn l ws f dn) true := by
  unfold laws_eqDisk.f
  refine Ev.bind (eqByteSS_same l hn hx) (ev_pos rfl ?_)
  refine Ev.bind (eqWriteS_same ws hn2 hx2) (ev_pos rfl ?_)
  refine ev_pos rfl (ev_neg (by cases dn <;> decide) (Ev.now _))

/-- rows marked one behind the other -/
def marksSS (m : Int) : List (List Int) → List (List Int)
  | [] => []
  | x :: l => marksB m x.length :: marksSS (m + x.length) l
theorem marksSS_length (l : List (List Int)) : ∀ m, (marksSS m l).length = l.length := by
  induction l with
  | nil => intro m; rfl
  | cons x l ih => intro m; simp [marksSS, ih]
theorem markSS_go (rest : List (List Int)) : ∀ (pre : List (List Int)) (m : Int), 0 ≤ m → m + sumLen rest ≤ 1000000000000 → (∀ x ∈ rest, x.length ≤ 1048576) → Ev (fun k => laws_markByteSS.go k rest.length pre.length (pre ++ rest) m) (m + sumLen rest, pre ++ marksSS m rest) := by
  induction rest with
  | nil =>
    intro pre m h0 h1 hx
    refine Ev.congr (f := fun _ => some (m, pre ++ [])) (fun k => rfl) ?_
    rw [show (m : Int) + (sumLen ([] : List (List Int)) : Nat) = m by simp [sumLen]]
    exact Ev.now _
  | cons x rest ih =>
    intro pre m h0 h1 hx
    have hs : sumLen (x :: rest) = x.length + sumLen rest := rfl
    rw [hs] at h1
    have hxl := hx x (List.mem_cons_self ..)
    have h2 := ih (pre ++ [marksB m x.length]) (m + x.length) (by omega) (by omega) (fun y hy => hx y (List.mem_cons_of_mem _ hy))
    have hg : (pre ++ x :: rest).getD pre.length [] = x := by simp [List.getD_eq_getElem?_getD]
    refine Ev.congr (fun k => by rw [List.length_cons, laws_markByteSS.go, hg]) (Ev.bind (markByteS_f x hxl m h0 (by omega)) ?_)
    dsimp only
    have hset : (pre ++ x :: rest).set pre.length (marksB m x.length) = (pre ++ [marksB m x.length]) ++ rest := by simp
    rw [hset, show pre.length + 1 = (pre ++ [marksB m x.length]).length by simp, show (m : Int) + ((sumLen (x :: rest) : Nat) : Int) = m + x.length + sumLen rest by rw [hs]; push_cast; omega, show pre ++ marksSS m (x :: rest) = (pre ++ [marksB m x.length]) ++ marksSS (m + x.length) rest by simp [marksSS]]
    exact h2
theorem markByteSS_f (l : List (List Int)) (hn : l.length ≤ 1048576) (hx : ∀ x ∈ l, x.length ≤ 1048576) (m : Int) (h0 : 0 ≤ m) (h1 : m + sumLen l ≤ 1000000000000) : Ev (fun k => laws_markByteSS.f k l m) (m + sumLen l, marksSS m l) := by
  unfold laws_markByteSS.f
  refine ev_pos hn ?_
  exact markSS_go l [] m h0 h1 hx
theorem heldSS_l (rest : List (List Int)) : ∀ (pre : List (List Int)) (m : Int), 0 ≤ m → m + sumLen rest ≤ 1000000000000 → (∀ x ∈ rest, x.length ≤ 1048576) → pre.length + rest.length ≤ 1048576 → Ev (fun k => laws_heldByteSS.l0 k (pre ++ marksSS m rest) m (pre.length : Int)) (m + sumLen rest) := by
  induction rest with
  | nil =>
    intro pre m h0 h1 hx hn
    refine Ev.step (f := fun _ => some m) (fun k => by rw [laws_heldByteSS.l0, if_neg (by simp [marksSS])]) ?_
    rw [show (m : Int) + (sumLen ([] : List (List Int)) : Nat) = m by simp [sumLen]]
    exact Ev.now _
  | cons x rest ih =>
    intro pre m h0 h1 hx hn
    have hs : sumLen (x :: rest) = x.length + sumLen rest := rfl
    rw [hs] at h1
    rw [List.length_cons] at hn
    have hxl := hx x (List.mem_cons_self ..)
    have h2 := ih (pre ++ [marksB m x.length]) (m + x.length) (by omega) (by omega) (fun y hy => hx y (List.mem_cons_of_mem _ hy)) (by simp; omega)
    have hr : rd_L1 (pre ++ marksSS m (x :: rest)) (pre.length : Int) = marksB m x.length := by simp [rd_L1, marksSS, List.getD_eq_getElem?_getD]
    refine Ev.step (fun k => by rw [laws_heldByteSS.l0, if_pos (by simp [marksSS]; omega), if_pos (by omega), hr]) (Ev.bind (heldByteS_f x.length hxl m h0 (by omega)) ?_)
    refine ev_neg (by omega) ?_
    rw [w64 (by omega) (by omega), show pre ++ marksSS m (x :: rest) = (pre ++ [marksB m x.length]) ++ marksSS (m + x.length) rest by simp [marksSS], show (m : Int) + ((sumLen (x :: rest) : Nat) : Int) = m + x.length + sumLen rest by rw [hs]; push_cast; omega]
    rw [show (((pre ++ [marksB m x.length]).length : Nat) : Int) = (pre.length : Int) + 1 by simp] at h2
    exact h2
theorem heldByteSS_f (l : List (List Int)) (hn : l.length ≤ 1048576) (hx : ∀ x ∈ l, x.length ≤ 1048576) (m : Int) (h0 : 0 ≤ m) (h1 : m + sumLen l ≤ 1000000000000) : Ev (fun k => laws_heldByteSS.f k (marksSS m l) m) (m + sumLen l) := by
  unfold laws_heldByteSS.f
  exact heldSS_l l [] m h0 h1 hx (by simpa using hn)
theorem sumLen_le (l : List (List Int)) (n b : Nat) (hn : l.length ≤ n) (hx : ∀ x ∈ l, x.length ≤ b) : sumLen l ≤ n * b := by
  induction l generalizing n with
  | nil => simp [sumLen]
  | cons x l ih =>
    obtain ⟨n, rfl⟩ : ∃ q, n = q + 1 := ⟨n - 1, by simp at hn; omega⟩
    have h1 := ih n (by simp at hn; omega) (fun y hy => hx y (List.mem_cons_of_mem _ hy))
    have h2 := hx x (List.mem_cons_self ..)
    simp only [sumLen, Nat.add_mul, Nat.one_mul]
    omega

/-- n sectors of noughts -/
def zeroS (n : Nat) : List (List Int) := List.replicate n (List.replicate 64 0)
def diskNewOf (n : Int) : List (List Int) × List S68 × Int × Bool := if 1 ≤ n ∧ n ≤ 512 then (zeroS n.toNat, [], -1, false) else ([], [], 0, false)
theorem zero_snoc (i : Nat) : zeroS i ++ [List.replicate 64 (0 : Int)] = zeroS (i + 1) := by
  unfold zeroS
  generalize List.replicate 64 (0 : Int) = z
  rw [List.replicate_succ']
theorem spec_DiskNew_l (n : Nat) (hn : n ≤ 512) (d : Nat) : ∀ i : Nat, i + d = n → Ev (fun k => spec_DiskNew.l0 k (n : Int) (i : Int) (zeroS i) 0 false) (zeroS n, [], -1, false) := by
  induction d with
  | zero =>
    intro i hi
    obtain rfl : i = n := by omega
    exact Ev.step (fun k => by rw [spec_DiskNew.l0, if_neg (by omega)]) (Ev.now _)
  | succ d ih =>
    intro i hi
    refine Ev.step (fun k => by rw [spec_DiskNew.l0, if_pos (by omega), if_pos (by omega), if_pos (by unfold zeroS; rw [List.length_replicate]; omega), zero_snoc, w64 (by omega) (by omega)]) ?_
    exact ih (i + 1) (by omega)
theorem impl_DiskNew_l (n : Nat) (hn : n ≤ 512) (d : Nat) : ∀ i : Nat, i + d = n → Ev (fun k => impl_DiskNew.l0 k (n : Int) (i : Int) (zeroS i) (-1) false) (zeroS n, [], -1, false) := by
  induction d with
  | zero =>
    intro i hi
    obtain rfl : i = n := by omega
    exact Ev.step (fun k => by rw [impl_DiskNew.l0, if_neg (by omega)]) (Ev.now _)
  | succ d ih =>
    intro i hi
    refine Ev.step (fun k => by rw [impl_DiskNew.l0, if_pos (by omega), if_pos (by omega), if_pos (by unfold zeroS; rw [List.length_replicate]; omega), zero_snoc, w64 (by omega) (by omega)]) ?_
    exact ih (i + 1) (by omega)
theorem spec_DiskNew_f (n : Int) : Ev (fun k => spec_DiskNew.f k n) (diskNewOf n) := by
  unfold spec_DiskNew.f diskNewOf
  have bad : Ev (fun k => spec_DiskNew.j0 k n true 0 false) ([], [], 0, false) := Ev.step (fun k => by rw [spec_DiskNew.j0, if_pos rfl]) (Ev.now _)
  by_cases h1 : n < 1
  · refine ev_pos h1 ?_
    rw [if_neg (by omega)]
    exact bad
  · refine ev_neg h1 ?_
    by_cases h2 : n > 512
    · rw [decide_eq_true h2, if_neg (by omega)]
      exact bad
    · rw [decide_eq_false h2, if_pos (by omega)]
      obtain ⟨m, rfl⟩ : ∃ m : Nat, n = m := ⟨n.toNat, by omega⟩
      refine Ev.step (fun k => by rw [spec_DiskNew.j0, if_neg (by simp)]) ?_
      exact spec_DiskNew_l m (by omega) m 0 (by omega)
theorem impl_DiskNew_f (n : Int) : Ev (fun k => impl_DiskNew.f k n) (diskNewOf n) := by
  unfold impl_DiskNew.f diskNewOf
  refine ev_bind0 (impl_within_f n 1 512) ?_
  by_cases h : 1 ≤ n ∧ n ≤ 512
  · rw [if_pos h]
    refine ev_pos (decide_eq_true h) ?_
    obtain ⟨m, rfl⟩ : ∃ m : Nat, n = m := ⟨n.toNat, by omega⟩
    exact impl_DiskNew_l m (by omega) m 0 (by omega)
  · rw [if_neg h]
    exact ev_neg (by rw [decide_eq_false h]; exact Bool.false_ne_true) (Ev.now _)
theorem diskNew_small (n : Int) : ∃ (l : List (List Int)) (f : Int) (d : Bool), diskNewOf n = (l, [], f, d) ∧ l.length ≤ 512 ∧ ∀ x ∈ l, x.length ≤ 64 := by
  unfold diskNewOf
  split
  · refine ⟨_, _, _, rfl, by unfold zeroS; rw [List.length_replicate]; omega, ?_⟩
    intro x hx
    rw [List.eq_of_mem_replicate hx, List.length_replicate]
    omega
  · exact ⟨_, _, _, rfl, by simp, by simp⟩
theorem heldDisk0_f (l : List (List Int)) (f : Int) (dn : Bool) (hn : l.length ≤ 1048576) (hx : ∀ x ∈ l, x.length ≤ 1048576) (m : Int) (h0 : 0 ≤ m) (h1 : m + sumLen l ≤ 1000000000000) : Ev (fun k => laws_heldDisk.f k (marksSS m l) [] f dn m) (m + sumLen l) := by
  unfold laws_heldDisk.f
  refine Ev.bind (heldByteSS_f l hn hx m h0 h1) ?_
  refine ev_neg (by omega) ?_
  refine Ev.bind (a := m + sumLen l) ?_ (ev_neg (by omega) (Ev.now _))
  unfold laws_heldWriteS.f
  exact Ev.step (fun k => by rw [laws_heldWriteS.l0, if_neg (by simp)]) (Ev.now _)

/-- The pure statement. -/
def Stmt : Prop := ∀ (a0 : Int), ((fun n => (Lit.int .i64 n).wf = true) a0) → laws_FnExactDiskNew.H a0
theorem main : Stmt := by
  intro n _
  unfold laws_FnExactDiskNew.H
  have sp := spec_DiskNew_f n
  have im := impl_DiskNew_f n
  obtain ⟨l, f, d, e, hn, hx⟩ := diskNew_small n
  rw [e] at sp im
  have hn2 : l.length ≤ 1048576 := by omega
  have hx2 : ∀ x ∈ l, x.length ≤ 1048576 := fun x hxl => by have := hx x hxl; omega
  have hsum := sumLen_le l 512 64 hn hx
  obtain ⟨k1, h1⟩ := Ev.rounds sp
  obtain ⟨k2, h2⟩ := Ev.rounds im
  obtain ⟨k3, h3⟩ := Ev.rounds (eqDisk_same l [] f d hn2 hx2 (by simp) (by simp))
  obtain ⟨k4, h4⟩ := Ev.rounds (show Ev (fun k => laws_markDisk0.f k l [] f d 1) (1 + (sumLen l : Int), marksSS 1 l) from by
    unfold laws_markDisk0.f
    exact ev_pos rfl (markByteSS_f l hn2 hx2 1 (by omega) (by omega)))
  obtain ⟨k5, h5⟩ := Ev.rounds (heldDisk0_f l f d hn2 hx2 1 (by omega) (by omega))
  exact ⟨k1, _, _, _, h1, k2, h2, k3, h3, k4, _, _, h4, by omega, k5, h5, k2, h2, k3, h3, k5, h5, trivial⟩

end Go.Proofs.Ytipfcppghbijgaa.Pure.ofFnExactDiskNew
namespace Go.Proofs.Ytipfcppghbijgaa.PrintWords
/-- The word that the printed row asks for, under the name by which it asks. -/
abbrev sized_ints := @Go.Proofs.YtipfcppghbijgaaW.PrintWords.sized_ints
end Go.Proofs.Ytipfcppghbijgaa.PrintWords
namespace Go.Proofs.Ytipfcppghbijgaa.Pure
open Go.Proofs.Ytipfcppghbijgaa.PFnExactDiskNew
theorem FnExactDiskNew : ofFnExactDiskNew.Stmt := ofFnExactDiskNew.main
end Go.Proofs.Ytipfcppghbijgaa.Pure

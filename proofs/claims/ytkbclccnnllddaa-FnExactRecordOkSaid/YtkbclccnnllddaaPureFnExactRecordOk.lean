/-
The law FnExactRecordOk answers true: for every record the program's RecordOk gives the reference's verdict, and the record stays as it was.
Conditions: none beyond the bounds of the statement itself.
-/
import Derived.Test.YtkbclccnnllddaaPFnExactRecordOkx3
import Derived.Test.YtkbclccnnllddaaWSized
set_option linter.unusedVariables false
set_option linter.unusedSimpArgs false
namespace Go.Proofs.Ytkbclccnnllddaa.Pure.ofFnExactRecordOk
open Go.RowKit Go.Proofs.Ytkbclccnnllddaa.PFnExactRecordOk Go.Proofs.YtkbclccnnllddaaW.PrintWords Go.Proofs.YtkbclccnnllddaaW.PrintLast Go.Proofs.YtkbclccnnllddaaW.PrintMore

theorem ev_pos {α : Type} {c : Prop} [Decidable c] {A B : Nat → Option α} {r : α} (hc : c) (h : Ev A r) : Ev (fun k => if c then A k else B k) r := by
  refine Ev.congr (fun k => ?_) h
  rw [if_pos hc]
theorem ev_neg {α : Type} {c : Prop} [Decidable c] {A B : Nat → Option α} {r : α} (hc : ¬ c) (h : Ev B r) : Ev (fun k => if c then A k else B k) r := by
  refine Ev.congr (fun k => ?_) h
  rw [if_neg hc]
theorem ev_bind0 {α β : Type} {g : Option α} {f : Nat → α → Option β} {a : α} {r : β} (h : g = some a) (k : Ev (fun n => f n a) r) : Ev (fun n => g.bind (f n)) r := by
  refine Ev.congr (fun n => ?_) k
  rw [h]; rfl
theorem w64 {x : Int} (h0 : -9223372036854775808 ≤ x) (h1 : x ≤ 9223372036854775807) : wrap64 x = x := by
  unfold wrap64; omega
theorem rd_cons (x : Int) (l : List Int) : rd (x :: l) 0 = x := rfl
theorem rd_nat (l : List Int) (i : Nat) (h : i < l.length) : rd l (i : Int) = l[i] := by
  simp [rd, List.getD_eq_getElem?_getD, List.getElem?_eq_getElem h]
theorem rd_at (l : List Int) (i : Int) (h0 : 0 ≤ i) (h : i < l.length) : ∃ x, x ∈ l ∧ rd l i = x := by
  obtain ⟨n, rfl⟩ := Int.eq_ofNat_of_zero_le h0
  exact ⟨l[n]'(by omega), List.getElem_mem _, rd_nat l n (by omega)⟩
def marks (m : Int) : Nat → List Int
  | 0 => []
  | n + 1 => m :: marks (m + 1) n
def marksB (m : Int) : Nat → List Int
  | 0 => []
  | n + 1 => (m % 256) :: marksB (m + 1) n
theorem marks_length (n : Nat) : ∀ m, (marks m n).length = n := by
  induction n with
  | zero => intro m; rfl
  | succ n ih => intro m; simp [marks, ih]
theorem marksB_length (n : Nat) : ∀ m, (marksB m n).length = n := by
  induction n with
  | zero => intro m; rfl
  | succ n ih => intro m; simp [marksB, ih]
theorem marks_get (n : Nat) : ∀ m (i : Nat) (h : i < (marks m n).length), (marks m n)[i] = m + i := by
  induction n with
  | zero => intro m i h; simp [marks] at h
  | succ n ih =>
    intro m i h
    cases i with
    | zero => simp [marks]
    | succ i => simp only [marks, List.getElem_cons_succ]; rw [ih]; push_cast; omega
theorem marksB_get (n : Nat) : ∀ m (i : Nat) (h : i < (marksB m n).length), (marksB m n)[i] = (m + i) % 256 := by
  induction n with
  | zero => intro m i h; simp [marksB] at h
  | succ n ih =>
    intro m i h
    cases i with
    | zero => simp [marksB]
    | succ i => simp only [marksB, List.getElem_cons_succ]; rw [ih]; push_cast; omega

def IsBytes (l : List Int) : Prop := ∀ x ∈ l, 0 ≤ x ∧ x ≤ 255
theorem isBytes_of {l : List Int} (h : ∀ x ∈ l, (Lit.int .u8 x).wf = true) : IsBytes l := by
  intro x hx
  have := h x hx
  simpa [Lit.wf, IntKind.min, IntKind.max, IntKind.signed, IntKind.bits] using this
theorem rd_byte {l : List Int} (h : IsBytes l) (i : Int) : 0 ≤ rd l i ∧ rd l i ≤ 255 := by
  by_cases hi : i.toNat < l.length
  · have : rd l i = l[i.toNat] := by simp [rd, List.getD_eq_getElem?_getD, List.getElem?_eq_getElem hi]
    rw [this]
    exact h _ (List.getElem_mem _)
  · have : rd l i = 0 := by simp [rd, List.getD_eq_getElem?_getD, List.getElem?_eq_none (by omega : l.length ≤ i.toNat)]
    omega

theorem impl_within_f (a b c : Int) : impl_within.f a b c = some (decide (b ≤ a ∧ a ≤ c)) := by
  unfold impl_within.f
  by_cases h : b ≤ a <;> simp [h]

theorem spec_l5in_f (a b c : Int) : spec_l5in.f a b c = some (decide (b ≤ a ∧ a ≤ c)) := by
  unfold spec_l5in.f
  by_cases h : b ≤ a <;> simp [h]

def recOk (kd lsn xid pg sl : Int) (d : List Int) : Bool :=
  decide (1 ≤ lsn ∧ lsn ≤ 1000000) && (if kd = 1 then decide (0 ≤ pg ∧ pg ≤ 15) && (decide (d.length = 256) && (decide (xid = 0) && decide (sl = 0)))
    else if kd = 2 then decide (0 ≤ pg ∧ pg ≤ 15) && (decide (0 ≤ sl ∧ sl ≤ 15) && (decide (1 ≤ xid ∧ xid ≤ 400) && decide (1 ≤ d.length ∧ d.length ≤ 92)))
    else if kd = 3 then decide (0 ≤ pg ∧ pg ≤ 15) && (decide (0 ≤ sl ∧ sl ≤ 15) && (decide (1 ≤ xid ∧ xid ≤ 400) && decide (d.length = 0)))
    else if kd = 4 then decide (0 ≤ pg ∧ pg ≤ 15) && (decide (0 ≤ sl ∧ sl ≤ 15) && (decide (xid = 0) && decide (d.length = 0)))
    else if kd = 5 then decide (1 ≤ xid ∧ xid ≤ 400) && (decide (pg = 0) && (decide (sl = 0) && decide (d.length = 0))) else false)
theorem len_eq (d : List Int) (n : Nat) : ((d.length : Int) = (n : Int)) ↔ d.length = n := by omega
theorem beq_dec (a b : Int) : (a == b) = decide (a = b) := by
  by_cases h : a = b <;> simp [h]
theorem spec_RecordOk_f (kd lsn xid pg sl : Int) (d : List Int) : spec_RecordOk.f kd lsn xid pg sl d = some (recOk kd lsn xid pg sl d) := by
  unfold spec_RecordOk.f recOk
  simp only [spec_l5in_f, Option.bind_some, decide_eq_true_eq, beq_dec]
  have e0 : ∀ n : Nat, ((d.length : Int) = n) = (d.length = n) := fun n => propext (len_eq d n)
  have e256 : ((d.length : Int) = 256) = (d.length = 256) := e0 256
  have ez : ((d.length : Int) = 0) = (d.length = 0) := e0 0
  have e1 : ((d.length : Int) ≥ 1) = (1 ≤ d.length) := propext (by omega)
  have e92 : ((d.length : Int) ≤ 92) = (d.length ≤ 92) := propext (by omega)
  simp only [e256, ez, e1, e92]
  by_cases h0 : 1 ≤ lsn ∧ lsn ≤ 1000000
  · rw [if_pos h0, decide_eq_true h0, Bool.true_and]
    by_cases k1 : kd = 1
    · rw [if_pos k1, if_pos k1]
      by_cases a : 0 ≤ pg ∧ pg ≤ 15 <;> by_cases b : d.length = 256 <;> by_cases c : xid = 0 <;> simp [a, b, c]
    rw [if_neg k1, if_neg k1]
    by_cases k2 : kd = 2
    · rw [if_pos k2, if_pos k2]
      by_cases a : 0 ≤ pg ∧ pg ≤ 15 <;> by_cases b : 0 ≤ sl ∧ sl ≤ 15 <;> by_cases c : 1 ≤ xid ∧ xid ≤ 400 <;> by_cases e : 1 ≤ d.length <;> simp [a, b, c, e]
    rw [if_neg k2, if_neg k2]
    by_cases k3 : kd = 3
    · rw [if_pos k3, if_pos k3]
      by_cases a : 0 ≤ pg ∧ pg ≤ 15 <;> by_cases b : 0 ≤ sl ∧ sl ≤ 15 <;> by_cases c : 1 ≤ xid ∧ xid ≤ 400 <;> simp [a, b, c]
    rw [if_neg k3, if_neg k3]
    by_cases k4 : kd = 4
    · rw [if_pos k4, if_pos k4]
      by_cases a : 0 ≤ pg ∧ pg ≤ 15 <;> by_cases b : 0 ≤ sl ∧ sl ≤ 15 <;> by_cases c : xid = 0 <;> simp [a, b, c]
    rw [if_neg k4, if_neg k4]
    by_cases k5 : kd = 5
    · rw [if_pos k5, if_pos k5]
      by_cases a : 1 ≤ xid ∧ xid ≤ 400 <;> by_cases b : pg = 0 <;> by_cases c : sl = 0 <;> simp [a, b, c]
    rw [if_neg k5, if_neg k5]
  · rw [if_neg h0, decide_eq_false h0, Bool.false_and]
theorem impl_isXid_f (n : Int) : impl_isXid.f n = some (decide (1 ≤ n ∧ n ≤ 400)) := by unfold impl_isXid.f; rw [impl_within_f]; rfl
theorem impl_isLsn_f (n : Int) : impl_isLsn.f n = some (decide (1 ≤ n ∧ n ≤ 1000000)) := by unfold impl_isLsn.f; rw [impl_within_f]; rfl
theorem impl_isPage_f (n : Int) : impl_isPage.f n = some (decide (0 ≤ n ∧ n ≤ 15)) := by unfold impl_isPage.f; rw [impl_within_f]; rfl
theorem impl_isSlot_f (n : Int) : impl_isSlot.f n = some (decide (0 ≤ n ∧ n ≤ 15)) := by unfold impl_isSlot.f; rw [impl_within_f]; rfl
theorem impl_RecordOk_f (kd lsn xid pg sl : Int) (d : List Int) : Ev (fun k => impl_RecordOk.f k kd lsn xid pg sl d) (recOk kd lsn xid pg sl d) := by
  have e0 : ∀ n : Nat, ((d.length : Int) = n) = (d.length = n) := fun n => propext (len_eq d n)
  have e256 : ((d.length : Int) = 256) = (d.length = 256) := e0 256
  have ez : ((d.length : Int) = 0) = (d.length = 0) := e0 0
  have e1 : (1 ≤ (d.length : Int) ∧ (d.length : Int) ≤ 92) = (1 ≤ d.length ∧ d.length ≤ 92) := propext (by omega)
  unfold impl_RecordOk.f recOk
  refine ev_bind0 (impl_isLsn_f _) ?_
  by_cases h0 : 1 ≤ lsn ∧ lsn ≤ 1000000
  · refine ev_pos (decide_eq_true h0) (ev_bind0 (impl_isPage_f _) ?_)
    rw [decide_eq_true h0, Bool.true_and]
    have key : ∀ b : Bool, b = (decide (0 ≤ pg ∧ pg ≤ 15) && decide (0 ≤ sl ∧ sl ≤ 15)) → Ev (fun k => impl_RecordOk.j0 k (d.length : Int) b kd lsn xid pg sl d) (if kd = 1 then decide (0 ≤ pg ∧ pg ≤ 15) && (decide (d.length = 256) && (decide (xid = 0) && decide (sl = 0)))
    else if kd = 2 then decide (0 ≤ pg ∧ pg ≤ 15) && (decide (0 ≤ sl ∧ sl ≤ 15) && (decide (1 ≤ xid ∧ xid ≤ 400) && decide (1 ≤ d.length ∧ d.length ≤ 92)))
    else if kd = 3 then decide (0 ≤ pg ∧ pg ≤ 15) && (decide (0 ≤ sl ∧ sl ≤ 15) && (decide (1 ≤ xid ∧ xid ≤ 400) && decide (d.length = 0)))
    else if kd = 4 then decide (0 ≤ pg ∧ pg ≤ 15) && (decide (0 ≤ sl ∧ sl ≤ 15) && (decide (xid = 0) && decide (d.length = 0)))
    else if kd = 5 then decide (1 ≤ xid ∧ xid ≤ 400) && (decide (pg = 0) && (decide (sl = 0) && decide (d.length = 0))) else false) := by
      intro b hb
      refine Ev.step (f := fun _ => some (if kd = 1 then decide (0 ≤ pg ∧ pg ≤ 15) && (decide (d.length = 256) && (decide (xid = 0) && decide (sl = 0)))
    else if kd = 2 then decide (0 ≤ pg ∧ pg ≤ 15) && (decide (0 ≤ sl ∧ sl ≤ 15) && (decide (1 ≤ xid ∧ xid ≤ 400) && decide (1 ≤ d.length ∧ d.length ≤ 92)))
    else if kd = 3 then decide (0 ≤ pg ∧ pg ≤ 15) && (decide (0 ≤ sl ∧ sl ≤ 15) && (decide (1 ≤ xid ∧ xid ≤ 400) && decide (d.length = 0)))
    else if kd = 4 then decide (0 ≤ pg ∧ pg ≤ 15) && (decide (0 ≤ sl ∧ sl ≤ 15) && (decide (xid = 0) && decide (d.length = 0)))
    else if kd = 5 then decide (1 ≤ xid ∧ xid ≤ 400) && (decide (pg = 0) && (decide (sl = 0) && decide (d.length = 0))) else false)) (fun k => ?_) (Ev.now _)
      rw [impl_RecordOk.j0, hb]
      simp only [impl_isPage_f, impl_isXid_f, impl_within_f, Option.bind_some, decide_eq_true_eq, beq_dec, e256, ez, e1, Bool.and_eq_true]
      by_cases k1 : kd = 1
      · rw [if_pos k1, if_pos k1]
        by_cases a : 0 ≤ pg ∧ pg ≤ 15 <;> by_cases b : d.length = 256 <;> by_cases c : xid = 0 <;> simp [a, b, c]
      rw [if_neg k1, if_neg k1]
      by_cases k2 : kd = 2
      · rw [if_pos k2, if_pos k2]
        by_cases a : 0 ≤ pg ∧ pg ≤ 15 <;> by_cases b : 0 ≤ sl ∧ sl ≤ 15 <;> by_cases c : 1 ≤ xid ∧ xid ≤ 400 <;> by_cases e : 1 ≤ d.length <;> simp [a, b, c, e]
      rw [if_neg k2, if_neg k2]
      by_cases k3 : kd = 3
      · rw [if_pos k3, if_pos k3]
        by_cases a : 0 ≤ pg ∧ pg ≤ 15 <;> by_cases b : 0 ≤ sl ∧ sl ≤ 15 <;> by_cases c : 1 ≤ xid ∧ xid ≤ 400 <;> simp [a, b, c]
      rw [if_neg k3, if_neg k3]
      by_cases k4 : kd = 4
      · rw [if_pos k4, if_pos k4]
        by_cases a : 0 ≤ pg ∧ pg ≤ 15 <;> by_cases b : 0 ≤ sl ∧ sl ≤ 15 <;> by_cases c : xid = 0 <;> simp [a, b, c]
      rw [if_neg k4, if_neg k4]
      by_cases k5 : kd = 5
      · rw [if_pos k5, if_pos k5]
        by_cases a : 1 ≤ xid ∧ xid ≤ 400 <;> by_cases b : pg = 0 <;> by_cases c : sl = 0 <;> simp [a, b, c]
      rw [if_neg k5, if_neg k5]
    by_cases h1 : 0 ≤ pg ∧ pg ≤ 15
    · refine ev_pos (decide_eq_true h1) (ev_bind0 (impl_isSlot_f _) ?_)
      exact key _ (by rw [decide_eq_true h1, Bool.true_and])
    · refine ev_neg (fun h => h1 (of_decide_eq_true h)) ?_
      exact key _ (by rw [decide_eq_false h1, Bool.false_and])
  · rw [decide_eq_false h0, Bool.false_and]
    exact ev_neg (by simp) (Ev.now _)

theorem toByteS_l (l : List Int) (hn : l.length ≤ 1048576) (d : Nat) : ∀ (i : Nat) (y : List Int), i + d = l.length → y.length = l.length → (∀ j, j < i → y[j]? = l[j]?) → Ev (fun k => laws_toByteS.l0 k l y (i : Int)) l := by
  induction d with
  | zero =>
    intro i y hi hy hj
    refine Ev.step (f := fun _ => some l) (fun k => ?_) (Ev.now _)
    simp only [laws_toByteS.l0]
    rw [if_neg (by omega)]
    congr 1
    refine List.ext_getElem? fun j => ?_
    by_cases h : j < i
    · exact hj j h
    · rw [List.getElem?_eq_none (by omega), List.getElem?_eq_none (by omega)]
  | succ d ih =>
    intro i y hi hy hj
    refine Ev.step (f := fun k => laws_toByteS.l0 k l (y.set i (rd l i)) ((i + 1 : Nat) : Int)) (fun k => ?_) (ih (i + 1) _ (by omega) (by simp [hy]) ?_)
    · simp only [laws_toByteS.l0]
      rw [if_pos (by omega), if_pos (by omega), if_pos (by omega), w64 (by omega) (by omega)]
      simp
    · intro j hlt
      by_cases h : j = i
      · subst h
        rw [List.getElem?_set_self (by omega), rd_nat l j (by omega), List.getElem?_eq_getElem (by omega)]
      · rw [List.getElem?_set_ne (by omega)]
        exact hj j (by omega)
theorem toByteS_f (l : List Int) (hn : l.length ≤ 1048576) : Ev (fun k => laws_toByteS.f k l) l := by
  unfold laws_toByteS.f
  refine ev_pos (by omega) (ev_pos (by omega) ?_)
  exact toByteS_l l hn l.length 0 _ (by omega) (by simp) (by intro j h; omega)

theorem eqByteS_l (a b : List Int) (hn : a.length ≤ 1048576) (hab : a.length = b.length) (d : Nat) : ∀ (i : Nat), i + d = a.length → (∀ j, j < i → a[j]? = b[j]?) → Ev (fun k => laws_eqByteS.l0 k a b (i : Int)) (decide (a = b)) := by
  induction d with
  | zero =>
    intro i hi hj
    refine Ev.step (f := fun _ => some true) (fun k => ?_) ?_
    · simp only [laws_eqByteS.l0]
      rw [if_neg (by omega)]
    · have : a = b := by
        refine List.ext_getElem? fun j => ?_
        by_cases h : j < i
        · exact hj j h
        · rw [List.getElem?_eq_none (by omega), List.getElem?_eq_none (by omega)]
      rw [decide_eq_true this]
      exact Ev.now _
  | succ d ih =>
    intro i hi hj
    have ha : rd a (i : Int) = a[i]'(by omega) := rd_nat a i (by omega)
    have hb : rd b (i : Int) = b[i]'(by omega) := rd_nat b i (by omega)
    by_cases he : rd a (i : Int) = rd b (i : Int)
    · refine Ev.step (f := fun k => laws_eqByteS.l0 k a b ((i + 1 : Nat) : Int)) (fun k => ?_) (ih (i + 1) (by omega) ?_)
      · simp only [laws_eqByteS.l0]
        rw [if_pos (by omega), if_pos (by omega), if_pos (by omega), if_pos he, w64 (by omega) (by omega)]
        simp
      · intro j hlt
        by_cases h : j = i
        · subst h
          rw [List.getElem?_eq_getElem (by omega), List.getElem?_eq_getElem (by omega), ← ha, ← hb, he]
        · exact hj j (by omega)
    · refine Ev.step (f := fun _ => some false) (fun k => ?_) ?_
      · simp only [laws_eqByteS.l0]
        rw [if_pos (by omega), if_pos (by omega), if_pos (by omega), if_neg he]
      · have : ¬ a = b := by
          rintro rfl
          exact he rfl
        rw [decide_eq_false this]
        exact Ev.now _
theorem eqByteS_f (a b : List Int) (hn : a.length ≤ 1048576) : Ev (fun k => laws_eqByteS.f k a b) (decide (a = b)) := by
  unfold laws_eqByteS.f
  by_cases h : a.length = b.length
  · refine ev_pos (by omega) ?_
    exact eqByteS_l a b hn h a.length 0 (by omega) (by intro j h; omega)
  · refine ev_neg (by omega) ?_
    rw [decide_eq_false (by rintro rfl; exact h rfl)]
    exact Ev.now _
theorem eqByteS_same (a : List Int) (hn : a.length ≤ 1048576) : Ev (fun k => laws_eqByteS.f k a a) true := by
  have := eqByteS_f a a hn
  rwa [decide_eq_true rfl] at this

theorem szByte_f (l : List Int) (left : Int) (h0 : 0 ≤ left) (h1 : left ≤ 1048576) (hl : l.length ≤ 9223372036854775807) : laws_szByteS.f l left = some (if left < l.length then -1 else left - l.length) := by
  unfold laws_szByteS.f
  rw [w64 (by omega) (by omega)]
  by_cases h : left < l.length
  · rw [if_pos (by omega), if_pos h]
  · rw [if_neg (by omega), if_neg h]

theorem szRecord_f (a b c d e : Int) (l : List Int) (left : Int) (h0 : 0 ≤ left) (h1 : left ≤ 1048576) (hl : l.length ≤ 9223372036854775807) : laws_szRecord.f a b c d e l left = some (if left < l.length then -1 else left - l.length) := by
  unfold laws_szRecord.f
  rw [szByte_f l left h0 h1 hl]
  simp only [Option.bind_some]
  by_cases h : left < l.length
  · rw [if_pos h, if_pos (by omega)]
  · rw [if_neg h, if_neg (by omega)]
theorem toRecord_f (a b c d e : Int) (l : List Int) (hl : l.length ≤ 1048576) : Ev (fun k => laws_toRecord.f k a b c d e l) (a, b, c, d, e, l) := by
  unfold laws_toRecord.f
  exact Ev.bind (toByteS_f l hl) (Ev.now _)

theorem eqRecord_same (a b c d e : Int) (l : List Int) (hl : l.length ≤ 1048576) : Ev (fun k => laws_eqRecord.f k a b c d e l a b c d e l) true := by
  unfold laws_eqRecord.f
  refine ev_pos rfl (ev_pos rfl (ev_pos rfl (ev_pos rfl (ev_pos rfl (Ev.bind (eqByteS_same l hl) (ev_pos rfl (Ev.now _)))))))

/-- The pure statement. -/
def Stmt : Prop := ∀ (a0_0 : Int) (a0_1 : Int) (a0_2 : Int) (a0_3 : Int) (a0_4 : Int) (l0_5 : List Int), ((fun n => (Lit.int .i64 n).wf = true) a0_0) → ((fun n => (Lit.int .i64 n).wf = true) a0_1) → ((fun n => (Lit.int .i64 n).wf = true) a0_2) → ((fun n => (Lit.int .i64 n).wf = true) a0_3) → ((fun n => (Lit.int .i64 n).wf = true) a0_4) → l0_5.length ≤ 9223372036854775807 → ((fun xs => ∀ x ∈ xs, (fun n => (Lit.int .u8 n).wf = true) x) l0_5) → ∃ k, laws_FnExactRecordOk.f k a0_0 a0_1 a0_2 a0_3 a0_4 l0_5 = some true
theorem main : Stmt := by
  intro kd lsn xid pg sl d _ _ _ _ _ hl hw
  refine Ev.rounds ?_
  unfold laws_FnExactRecordOk.f
  refine ev_bind0 (szRecord_f kd lsn xid pg sl d 1048576 (by omega) (by omega) hl) ?_
  by_cases h : (1048576 : Int) < d.length
  · rw [if_pos h]
    exact ev_pos (by omega) (Ev.now _)
  rw [if_neg h]
  have hn : d.length ≤ 1048576 := by omega
  refine ev_neg (by omega) ?_
  refine Ev.bind (toRecord_f kd lsn xid pg sl d hn) ?_
  refine ev_bind0 (spec_RecordOk_f kd lsn xid pg sl d) ?_
  refine Ev.bind (toRecord_f kd lsn xid pg sl d hn) ?_
  refine Ev.bind (impl_RecordOk_f kd lsn xid pg sl d) ?_
  refine ev_neg (by simp) ?_
  refine Ev.bind (toRecord_f kd lsn xid pg sl d hn) ?_
  refine Ev.bind (eqRecord_same kd lsn xid pg sl d hn) ?_
  exact ev_pos rfl (Ev.now _)

end Go.Proofs.Ytkbclccnnllddaa.Pure.ofFnExactRecordOk
namespace Go.Proofs.Ytkbclccnnllddaa.PrintWords
/-- The word that the printed row asks for, under the name by which it asks. -/
abbrev sized_ints := @Go.Proofs.YtkbclccnnllddaaW.PrintWords.sized_ints
end Go.Proofs.Ytkbclccnnllddaa.PrintWords
namespace Go.Proofs.Ytkbclccnnllddaa.Pure
open Go.Proofs.Ytkbclccnnllddaa.PFnExactRecordOk
theorem FnExactRecordOk : ofFnExactRecordOk.Stmt := ofFnExactRecordOk.main
end Go.Proofs.Ytkbclccnnllddaa.Pure

/-
The law FnExactStatusBytes answers true: for every list the program's StatusBytes gives the reference's bytes, in new memory each time, and the argument stays as it was.
Conditions: none beyond the bounds of the statement itself.
-/
import Derived.Test.YtkgljbddpbgdgaaPFnExactStatusBytesx4
import Derived.Test.YtkgljbddpbgdgaaWSized
set_option linter.unusedVariables false
set_option linter.unusedSimpArgs false
namespace Go.Proofs.Ytkgljbddpbgdgaa.Pure.ofFnExactStatusBytes
open Go.RowKit Go.Proofs.Ytkgljbddpbgdgaa.PFnExactStatusBytes Go.Proofs.YtkgljbddpbgdgaaW.PrintWords Go.Proofs.YtkgljbddpbgdgaaW.PrintLast Go.Proofs.YtkgljbddpbgdgaaW.PrintMore

theorem ev_pos {α : Type} {c : Prop} [Decidable c] {A B : Nat → Option α} {r : α} (hc : c) (h : Ev A r) : Ev (fun k => if c then A k else B k) r := by
  refine Ev.congr (fun k => ?_) h
  rw [if_pos hc]
theorem ev_neg {α : Type} {c : Prop} [Decidable c] {A B : Nat → Option α} {r : α} (hc : ¬ c) (h : Ev B r) : Ev (fun k => if c then A k else B k) r := by
  refine Ev.congr (fun k => ?_) h
  rw [if_neg hc]
theorem ev_bind0 {α β : Type} {g : Option α} {f : Nat → α → Option β} {a : α} {r : β} (h : g = some a) (k : Ev (fun n => f n a) r) : Ev (fun n => g.bind (f n)) r := by
  refine Ev.congr (fun n => ?_) k
  rw [h]; rfl
theorem w64 {x : Int} (h0 : -9223372036854775808 ≤ x) (h1 : x ≤ 9223372036854775807) : wrap64 x = x := by
  unfold wrap64; omega
theorem rd_cons (x : Int) (l : List Int) : rd (x :: l) 0 = x := rfl
theorem rd_nat (l : List Int) (i : Nat) (h : i < l.length) : rd l (i : Int) = l[i] := by
  simp [rd, List.getD_eq_getElem?_getD, List.getElem?_eq_getElem h]
theorem rd_at (l : List Int) (i : Int) (h0 : 0 ≤ i) (h : i < l.length) : ∃ x, x ∈ l ∧ rd l i = x := by
  obtain ⟨n, rfl⟩ := Int.eq_ofNat_of_zero_le h0
  exact ⟨l[n]'(by omega), List.getElem_mem _, rd_nat l n (by omega)⟩
def marks (m : Int) : Nat → List Int
  | 0 => []
  | n + 1 => m :: marks (m + 1) n
def marksB (m : Int) : Nat → List Int
  | 0 => []
  | n + 1 => (m % 256) :: marksB (m + 1) n
theorem marks_length (n : Nat) : ∀ m, (marks m n).length = n := by
  induction n with
  | zero => intro m; rfl
  | succ n ih => intro m; simp [marks, ih]
theorem marksB_length (n : Nat) : ∀ m, (marksB m n).length = n := by
  induction n with
  | zero => intro m; rfl
  | succ n ih => intro m; simp [marksB, ih]
theorem marks_get (n : Nat) : ∀ m (i : Nat) (h : i < (marks m n).length), (marks m n)[i] = m + i := by
  induction n with
  | zero => intro m i h; simp [marks] at h
  | succ n ih =>
    intro m i h
    cases i with
    | zero => simp [marks]
    | succ i => simp only [marks, List.getElem_cons_succ]; rw [ih]; push_cast; omega
theorem marksB_get (n : Nat) : ∀ m (i : Nat) (h : i < (marksB m n).length), (marksB m n)[i] = (m + i) % 256 := by
  induction n with
  | zero => intro m i h; simp [marksB] at h
  | succ n ih =>
    intro m i h
    cases i with
    | zero => simp [marksB]
    | succ i => simp only [marksB, List.getElem_cons_succ]; rw [ih]; push_cast; omega

theorem impl_within_f (a b c : Int) : impl_within.f a b c = some (decide (b ≤ a ∧ a ≤ c)) := by
  unfold impl_within.f
  by_cases h : b ≤ a <;> simp [h]

theorem spec_l5in_f (a b c : Int) : spec_l5in.f a b c = some (decide (b ≤ a ∧ a ≤ c)) := by
  unfold spec_l5in.f
  by_cases h : b ≤ a <;> simp [h]

def stOf (l : List Int) (x : Int) : Int := if (1 ≤ x ∧ x ≤ 400) ∧ x < l.length ∧ (1 ≤ rd l x ∧ rd l x ≤ 2) then rd l x else 0
theorem spec_StatusOf_f (l : List Int) (x : Int) : spec_StatusOf.f l x = some (stOf l x) := by
  unfold spec_StatusOf.f stOf
  simp only [spec_l5in_f, Option.bind_some, decide_eq_true_eq]
  by_cases h1 : 1 ≤ x ∧ x ≤ 400
  · by_cases h2 : x < l.length
    · by_cases h3 : 1 ≤ rd l x ∧ rd l x ≤ 2
      · rw [if_pos h1, if_neg (by omega), if_pos (by omega), if_pos h2, if_pos h3, if_pos ⟨h1, h2, h3⟩]
      · rw [if_pos h1, if_neg (by omega), if_pos (by omega), if_pos h2, if_neg h3, if_neg (fun h => h3 h.2.2)]
    · rw [if_pos h1, if_pos (by omega), if_neg (fun h => h2 h.2.1)]
  · rw [if_neg h1, if_neg (fun h => h1 h.1)]
theorem impl_StatusOf_f (l : List Int) (x : Int) : impl_StatusOf.f l x = some (stOf l x) := by
  unfold impl_StatusOf.f impl_isXid.f stOf
  simp only [impl_within_f, Option.bind_some, decide_eq_true_eq]
  by_cases h1 : 1 ≤ x ∧ x ≤ 400
  · by_cases h2 : x < l.length
    · by_cases h3 : 0 ≤ rd l x ∧ rd l x ≤ 2
      · rw [if_pos h1, if_neg (by omega), if_pos (by omega), if_pos h2, if_pos h3]
        by_cases h4 : 1 ≤ rd l x
        · rw [if_pos ⟨h1, h2, h4, h3.2⟩]
        · rw [if_neg (fun h => h4 h.2.2.1), show rd l x = 0 by omega]
      · rw [if_pos h1, if_neg (by omega), if_pos (by omega), if_pos h2, if_neg h3, if_neg (fun h => h3 ⟨by omega, h.2.2.2⟩)]
    · rw [if_pos h1, if_pos (by omega), if_neg (fun h => h2 h.2.1)]
  · rw [if_neg h1, if_neg (fun h => h1 h.1)]
theorem stOf_cases (l : List Int) (x : Int) : stOf l x = 0 ∨ stOf l x = 1 ∨ stOf l x = 2 := by
  unfold stOf
  split <;> omega

/-- what m of byte j's four places hold -/
def pb (l : List Int) (j : Nat) : Nat → Int
  | 0 => 0
  | m + 1 => pb l j m + stOf l ((j * 4 + m : Nat) : Int) * 4 ^ m
theorem pb_range (l : List Int) (j m : Nat) : 0 ≤ pb l j m ∧ pb l j m < 4 ^ m := by
  induction m with
  | zero => simp [pb]
  | succ m ih =>
    have hp : (0 : Int) < 4 ^ m := Int.pow_pos (by decide)
    rw [pb, Int.pow_succ]
    rcases stOf_cases l ((j * 4 + m : Nat) : Int) with h | h | h <;> rw [h] <;> omega
theorem u8_join {x y : Int} (i : Nat) (hy0 : 0 ≤ y) (hy : y < 2 ^ i) (hx0 : 0 ≤ x) (hx : x % 2 ^ i = 0) (hx1 : x < 256) (hy1 : y < 256) : Go.bits .or .u8 y x = y + x := by
  have h := bits_join .u8 8 (by decide) (fun n a b => wraps_u8 n a b) i x y hx0 hx (by omega) hy0 hy (by omega)
  obtain ⟨a, rfl⟩ := Int.eq_ofNat_of_zero_le hx0
  obtain ⟨b, rfl⟩ := Int.eq_ofNat_of_zero_le hy0
  have h1 := (bits_nat .u8 8 (by decide) (fun n a b => wraps_u8 n a b) a b (by omega) (by omega)).2
  have h2 := (bits_nat .u8 8 (by decide) (fun n a b => wraps_u8 n a b) b a (by omega) (by omega)).2
  rw [h2, Nat.or_comm, ← h1, h]
  omega
theorem pb_or (l : List Int) (j m : Nat) (hm : m < 4) (s : Int) (hs : s = stOf l ((j * 4 + m : Nat) : Int)) : Go.bits .or .u8 (pb l j m) ((shl .i64 s ((m : Int) * 2)) % 256) = pb l j (m + 1) := by
  have hr := pb_range l j m
  have hc := stOf_cases l ((j * 4 + m : Nat) : Int)
  rw [← hs] at hc
  have hsh : (shl .i64 s ((m : Int) * 2)) % 256 = s * 4 ^ m := by
    have : m = 0 ∨ m = 1 ∨ m = 2 ∨ m = 3 := by omega
    rcases this with rfl | rfl | rfl | rfl <;> rcases hc with h | h | h <;> rw [h] <;> decide
  rw [hsh, pb, ← hs]
  have : m = 0 ∨ m = 1 ∨ m = 2 ∨ m = 3 := by omega
  rcases this with rfl | rfl | rfl | rfl
  · exact u8_join 0 hr.1 (by simpa using hr.2) (by omega) (by simp) (by omega) (by omega)
  · exact u8_join 2 hr.1 (by simpa using hr.2) (by omega) (by omega) (by omega) (by omega)
  · exact u8_join 4 hr.1 (by simpa using hr.2) (by omega) (by omega) (by omega) (by omega)
  · exact u8_join 6 hr.1 (by simpa using hr.2) (by omega) (by omega) (by omega) (by omega)
/-- the bytes as they stand when i places have been filled, n bytes in all -/
def sb (l : List Int) (n i : Nat) : List Int := (List.range n).map (fun j => pb l j (min 4 (i - j * 4)))
theorem sb_length (l : List Int) (n i : Nat) : (sb l n i).length = n := by simp [sb]
theorem sb_get (l : List Int) (n i j : Nat) (h : j < n) : (sb l n i)[j]? = some (pb l j (min 4 (i - j * 4))) := by
  simp [sb, List.getElem?_map, List.getElem?_range, h]
theorem sb_set (l : List Int) (n q m : Nat) (hm : m < 4) (hq : q < n) : (sb l n (q * 4 + m)).set q (pb l q (m + 1)) = sb l n (q * 4 + m + 1) := by
  refine List.ext_getElem? fun j => ?_
  by_cases hj : j < n
  · by_cases h : j = q
    · subst h
      rw [List.getElem?_set_self (by rw [sb_length]; exact hj), sb_get _ _ _ _ hj, show min 4 (j * 4 + m + 1 - j * 4) = m + 1 by omega]
    · rw [List.getElem?_set_ne (by omega), sb_get _ _ _ _ hj, sb_get _ _ _ _ hj]
      by_cases hlt : j < q
      · rw [show min 4 (q * 4 + m - j * 4) = 4 by omega, show min 4 (q * 4 + m + 1 - j * 4) = 4 by omega]
      · rw [show min 4 (q * 4 + m - j * 4) = 0 by omega, show min 4 (q * 4 + m + 1 - j * 4) = 0 by omega]
  · rw [List.getElem?_eq_none (by simp [sb_length]; omega), List.getElem?_eq_none (by simp [sb_length]; omega)]
theorem sb_rd (l : List Int) (n q m : Nat) (hm : m < 4) (hq : q < n) : rd (sb l n (q * 4 + m)) (q : Int) = pb l q m := by
  have hl := sb_length l n (q * 4 + m)
  rw [rd_nat _ q (by omega)]
  have h := sb_get l n (q * 4 + m) q hq
  rw [List.getElem?_eq_getElem (by omega)] at h
  rw [Option.some.inj h, show min 4 (q * 4 + m - q * 4) = m by omega]
theorem sb_more (l : List Int) (q : Nat) : sb l q (q * 4) ++ [0] = sb l (q + 1) (q * 4) := by
  simp [sb, List.range_succ, pb]
def stBytes (l : List Int) : List Int := if l.length ≤ 401 then sb l ((l.length + 3) / 4) l.length else []
theorem stBytes_length (l : List Int) : (stBytes l).length ≤ 101 := by
  unfold stBytes
  split
  · rw [sb_length]; omega
  · simp
theorem tdiv4 (q m : Nat) (hm : m < 4) : Int.tdiv ((q * 4 + m : Nat) : Int) 4 = q := by
  rw [Int.tdiv_eq_ediv_of_nonneg (by omega)]; omega
theorem tmod4 (q m : Nat) (hm : m < 4) : Int.tmod ((q * 4 + m : Nat) : Int) 4 = m := by
  rw [Int.tmod_eq_emod_of_nonneg (by omega)]; omega
theorem spec_StatusBytes_l (l : List Int) (hl : l.length ≤ 401) (d : Nat) : ∀ (i : Nat), i + d = l.length → Ev (fun k => spec_StatusBytes.l0 k l (sb l ((i + 3) / 4) i) (i : Int)) (sb l ((l.length + 3) / 4) l.length) := by
  induction d with
  | zero =>
    intro i hi
    refine Ev.step (f := fun _ => some (sb l ((l.length + 3) / 4) l.length)) (fun k => ?_) (Ev.now _)
    simp only [spec_StatusBytes.l0]
    rw [if_neg (by omega), show i = l.length by omega]
  | succ d ih =>
    intro i hi
    obtain ⟨q, m, hm, rfl⟩ : ∃ q m, m < 4 ∧ i = q * 4 + m := ⟨i / 4, i % 4, by omega, by omega⟩
    have h := ih (q * 4 + m + 1) (by omega)
    have e : wrap64 (((q * 4 + m : Nat) : Int) + 1) = ((q * 4 + m + 1 : Nat) : Int) := by rw [w64 (by omega) (by omega)]; omega
    have eq : wrap64 (q : Int) = q := w64 (by omega) (by omega)
    have em : IntKind.u64.wrap (wrap64 ((m : Int) * 2)) = (m : Int) * 2 := by rw [w64 (by omega) (by omega)]; simp [IntKind.wrap, IntKind.bits, IntKind.signed]; omega
    rw [show (q * 4 + m + 1 + 3) / 4 = q + 1 by omega] at h
    have hst := spec_StatusOf_f l ((q * 4 + m : Nat) : Int)
    refine Ev.step (fun k => ?_) h
    simp only [spec_StatusBytes.l0]
    rw [if_pos (by omega), tmod4 q m hm, tdiv4 q m hm, eq, em, hst]
    have hsl := sb_length l (q + 1) (q * 4 + m)
    have key : (sb l (q + 1) (q * 4 + m)).set (q : Int).toNat (Go.bits .or .u8 (rd (sb l (q + 1) (q * 4 + m)) (q : Int)) ((shl .i64 (stOf l ((q * 4 + m : Nat) : Int)) ((m : Int) * 2)) % 256)) = sb l (q + 1) (q * 4 + m + 1) := by
      rw [sb_rd l (q + 1) q m hm (by omega), pb_or l q m hm _ rfl, Int.toNat_natCast, sb_set l (q + 1) q m hm (by omega)]
    by_cases hm0 : m = 0
    · subst hm0
      have hsl2 := sb_length l q (q * 4)
      rw [if_pos (by simp), show (q * 4 + 0 + 3) / 4 = q by omega, if_pos (by simp [sb_length]; omega)]
      simp only [Option.bind_some, Nat.add_zero] at key hsl e ⊢
      rw [sb_more, if_pos (by omega), if_pos (by omega), if_pos (by omega), key, e]
    · rw [if_neg (by omega), show (q * 4 + m + 3) / 4 = q + 1 by omega, if_pos (by omega), if_pos (by omega)]
      simp only [Option.bind_some]
      rw [if_pos (by omega), key, e]
theorem impl_StatusBytes_l (l : List Int) (hl : l.length ≤ 401) (d : Nat) : ∀ (i : Nat), i + d = l.length → Ev (fun k => impl_StatusBytes.l0 k l (sb l ((l.length + 3) / 4) i) (l.length : Int) (i : Int)) (sb l ((l.length + 3) / 4) l.length) := by
  induction d with
  | zero =>
    intro i hi
    refine Ev.step (f := fun _ => some (sb l ((l.length + 3) / 4) l.length)) (fun k => ?_) (Ev.now _)
    simp only [impl_StatusBytes.l0]
    rw [if_neg (by omega), show i = l.length by omega]
  | succ d ih =>
    intro i hi
    obtain ⟨q, m, hm, rfl⟩ : ∃ q m, m < 4 ∧ i = q * 4 + m := ⟨i / 4, i % 4, by omega, by omega⟩
    have h := ih (q * 4 + m + 1) (by omega)
    have e : wrap64 (((q * 4 + m : Nat) : Int) + 1) = ((q * 4 + m + 1 : Nat) : Int) := by rw [w64 (by omega) (by omega)]; omega
    have eq : wrap64 (q : Int) = q := w64 (by omega) (by omega)
    have em : wrap64 ((m : Int) * 2) = (m : Int) * 2 := w64 (by omega) (by omega)
    have hst := impl_StatusOf_f l ((q * 4 + m : Nat) : Int)
    have hq : q < (l.length + 3) / 4 := by omega
    have hsl := sb_length l ((l.length + 3) / 4) (q * 4 + m)
    refine Ev.step (fun k => ?_) h
    simp only [impl_StatusBytes.l0]
    rw [if_pos (by omega), tmod4 q m hm, tdiv4 q m hm, eq, em, hst, if_pos (by omega), if_pos (by omega)]
    simp only [Option.bind_some]
    rw [if_pos (by omega), sb_rd l _ q m hm hq, pb_or l q m hm _ rfl, Int.toNat_natCast, sb_set l _ q m hm hq, e]
theorem sb_zero (l : List Int) (n : Nat) : sb l n 0 = List.replicate n 0 := by
  refine List.ext_getElem? fun j => ?_
  by_cases hj : j < n
  · rw [sb_get _ _ _ _ hj, show min 4 (0 - j * 4) = 0 by omega]
    simp [pb, List.getElem?_replicate, hj]
  · rw [List.getElem?_eq_none (by simp [sb_length]; omega), List.getElem?_eq_none (by simp; omega)]
theorem spec_StatusBytes_f (l : List Int) : Ev (fun k => spec_StatusBytes.f k l) (stBytes l) := by
  unfold spec_StatusBytes.f stBytes
  by_cases h : l.length ≤ 401
  · rw [if_pos h]
    exact ev_neg (by omega) (spec_StatusBytes_l l h l.length 0 (by omega))
  · rw [if_neg h]
    exact ev_pos (by omega) (Ev.now _)
theorem impl_StatusBytes_f (l : List Int) : Ev (fun k => impl_StatusBytes.f k l) (stBytes l) := by
  unfold impl_StatusBytes.f stBytes
  by_cases h : l.length ≤ 401
  · rw [if_pos h]
    have e : wrap64 (Int.tdiv (wrap64 ((l.length : Int) + 3)) 4) = (((l.length + 3) / 4 : Nat) : Int) := by
      rw [w64 (x := (l.length : Int) + 3) (by omega) (by omega), Int.tdiv_eq_ediv_of_nonneg (by omega), w64 (by omega) (by omega)]
      omega
    refine ev_neg (by omega) ?_
    rw [e]
    refine ev_pos (by omega) (ev_pos (by omega) ?_)
    have := impl_StatusBytes_l l h l.length 0 (by omega)
    rw [sb_zero] at this
    exact this
  · rw [if_neg h]
    exact ev_pos (by omega) (Ev.now _)

theorem toIntS_l (l : List Int) (hn : l.length ≤ 1048576) (d : Nat) : ∀ (i : Nat) (y : List Int), i + d = l.length → y.length = l.length → (∀ j, j < i → y[j]? = l[j]?) → Ev (fun k => laws_toIntS.l0 k l y (i : Int)) l := by
  induction d with
  | zero =>
    intro i y hi hy hj
    refine Ev.step (f := fun _ => some l) (fun k => ?_) (Ev.now _)
    simp only [laws_toIntS.l0]
    rw [if_neg (by omega)]
    congr 1
    refine List.ext_getElem? fun j => ?_
    by_cases h : j < i
    · exact hj j h
    · rw [List.getElem?_eq_none (by omega), List.getElem?_eq_none (by omega)]
  | succ d ih =>
    intro i y hi hy hj
    refine Ev.step (f := fun k => laws_toIntS.l0 k l (y.set i (rd l i)) ((i + 1 : Nat) : Int)) (fun k => ?_) (ih (i + 1) _ (by omega) (by simp [hy]) ?_)
    · simp only [laws_toIntS.l0]
      rw [if_pos (by omega), if_pos (by omega), if_pos (by omega), w64 (by omega) (by omega)]
      simp
    · intro j hlt
      by_cases h : j = i
      · subst h
        rw [List.getElem?_set_self (by omega), rd_nat l j (by omega), List.getElem?_eq_getElem (by omega)]
      · rw [List.getElem?_set_ne (by omega)]
        exact hj j (by omega)
theorem toIntS_f (l : List Int) (hn : l.length ≤ 1048576) : Ev (fun k => laws_toIntS.f k l) l := by
  unfold laws_toIntS.f
  refine ev_pos (by omega) (ev_pos (by omega) ?_)
  exact toIntS_l l hn l.length 0 _ (by omega) (by simp) (by intro j h; omega)

theorem eqIntS_l (a b : List Int) (hn : a.length ≤ 1048576) (hab : a.length = b.length) (d : Nat) : ∀ (i : Nat), i + d = a.length → (∀ j, j < i → a[j]? = b[j]?) → Ev (fun k => laws_eqIntS.l0 k a b (i : Int)) (decide (a = b)) := by
  induction d with
  | zero =>
    intro i hi hj
    refine Ev.step (f := fun _ => some true) (fun k => ?_) ?_
    · simp only [laws_eqIntS.l0]
      rw [if_neg (by omega)]
    · have : a = b := by
        refine List.ext_getElem? fun j => ?_
        by_cases h : j < i
        · exact hj j h
        · rw [List.getElem?_eq_none (by omega), List.getElem?_eq_none (by omega)]
      rw [decide_eq_true this]
      exact Ev.now _
  | succ d ih =>
    intro i hi hj
    have ha : rd a (i : Int) = a[i]'(by omega) := rd_nat a i (by omega)
    have hb : rd b (i : Int) = b[i]'(by omega) := rd_nat b i (by omega)
    by_cases he : rd a (i : Int) = rd b (i : Int)
    · refine Ev.step (f := fun k => laws_eqIntS.l0 k a b ((i + 1 : Nat) : Int)) (fun k => ?_) (ih (i + 1) (by omega) ?_)
      · simp only [laws_eqIntS.l0]
        rw [if_pos (by omega), if_pos (by omega), if_pos (by omega), if_pos he, w64 (by omega) (by omega)]
        simp
      · intro j hlt
        by_cases h : j = i
        · subst h
          rw [List.getElem?_eq_getElem (by omega), List.getElem?_eq_getElem (by omega), ← ha, ← hb, he]
        · exact hj j (by omega)
    · refine Ev.step (f := fun _ => some false) (fun k => ?_) ?_
      · simp only [laws_eqIntS.l0]
        rw [if_pos (by omega), if_pos (by omega), if_pos (by omega), if_neg he]
      · have : ¬ a = b := by
          rintro rfl
          exact he rfl
        rw [decide_eq_false this]
        exact Ev.now _
theorem eqIntS_f (a b : List Int) (hn : a.length ≤ 1048576) : Ev (fun k => laws_eqIntS.f k a b) (decide (a = b)) := by
  unfold laws_eqIntS.f
  by_cases h : a.length = b.length
  · refine ev_pos (by omega) ?_
    exact eqIntS_l a b hn h a.length 0 (by omega) (by intro j h; omega)
  · refine ev_neg (by omega) ?_
    rw [decide_eq_false (by rintro rfl; exact h rfl)]
    exact Ev.now _
theorem eqIntS_same (a : List Int) (hn : a.length ≤ 1048576) : Ev (fun k => laws_eqIntS.f k a a) true := by
  have := eqIntS_f a a hn
  rwa [decide_eq_true rfl] at this

theorem eqByteS_l (a b : List Int) (hn : a.length ≤ 1048576) (hab : a.length = b.length) (d : Nat) : ∀ (i : Nat), i + d = a.length → (∀ j, j < i → a[j]? = b[j]?) → Ev (fun k => laws_eqByteS.l0 k a b (i : Int)) (decide (a = b)) := by
  induction d with
  | zero =>
    intro i hi hj
    refine Ev.step (f := fun _ => some true) (fun k => ?_) ?_
    · simp only [laws_eqByteS.l0]
      rw [if_neg (by omega)]
    · have : a = b := by
        refine List.ext_getElem? fun j => ?_
        by_cases h : j < i
        · exact hj j h
        · rw [List.getElem?_eq_none (by omega), List.getElem?_eq_none (by omega)]
      rw [decide_eq_true this]
      exact Ev.now _
  | succ d ih =>
    intro i hi hj
    have ha : rd a (i : Int) = a[i]'(by omega) := rd_nat a i (by omega)
    have hb : rd b (i : Int) = b[i]'(by omega) := rd_nat b i (by omega)
    by_cases he : rd a (i : Int) = rd b (i : Int)
    · refine Ev.step (f := fun k => laws_eqByteS.l0 k a b ((i + 1 : Nat) : Int)) (fun k => ?_) (ih (i + 1) (by omega) ?_)
      · simp only [laws_eqByteS.l0]
        rw [if_pos (by omega), if_pos (by omega), if_pos (by omega), if_pos he, w64 (by omega) (by omega)]
        simp
      · intro j hlt
        by_cases h : j = i
        · subst h
          rw [List.getElem?_eq_getElem (by omega), List.getElem?_eq_getElem (by omega), ← ha, ← hb, he]
        · exact hj j (by omega)
    · refine Ev.step (f := fun _ => some false) (fun k => ?_) ?_
      · simp only [laws_eqByteS.l0]
        rw [if_pos (by omega), if_pos (by omega), if_pos (by omega), if_neg he]
      · have : ¬ a = b := by
          rintro rfl
          exact he rfl
        rw [decide_eq_false this]
        exact Ev.now _
theorem eqByteS_f (a b : List Int) (hn : a.length ≤ 1048576) : Ev (fun k => laws_eqByteS.f k a b) (decide (a = b)) := by
  unfold laws_eqByteS.f
  by_cases h : a.length = b.length
  · refine ev_pos (by omega) ?_
    exact eqByteS_l a b hn h a.length 0 (by omega) (by intro j h; omega)
  · refine ev_neg (by omega) ?_
    rw [decide_eq_false (by rintro rfl; exact h rfl)]
    exact Ev.now _
theorem eqByteS_same (a : List Int) (hn : a.length ≤ 1048576) : Ev (fun k => laws_eqByteS.f k a a) true := by
  have := eqByteS_f a a hn
  rwa [decide_eq_true rfl] at this

theorem markIntS_l (a : List Int) (hn : a.length ≤ 1048576) (m0 : Int) (h0 : 0 ≤ m0) (h1 : m0 ≤ 1000000000000) (d : Nat) : ∀ (i : Nat) (y : List Int), i + d = a.length → y.length = a.length → (∀ j, j < i → y[j]? = (marks m0 a.length)[j]?) → Ev (fun k => laws_markIntS.l0 k y (m0 + i) (i : Int)) (m0 + a.length, marks m0 a.length) := by
  have hml := marks_length a.length m0
  induction d with
  | zero =>
    intro i y hi hy hj
    refine Ev.step (f := fun _ => some (m0 + a.length, marks m0 a.length)) (fun k => ?_) (Ev.now _)
    simp only [laws_markIntS.l0]
    rw [if_neg (by omega)]
    have hy2 : y = marks m0 a.length := by
      refine List.ext_getElem? fun j => ?_
      by_cases h : j < i
      · exact hj j h
      · rw [List.getElem?_eq_none (by omega), List.getElem?_eq_none (by omega)]
    rw [hy2, show (i : Int) = a.length by omega]
  | succ d ih =>
    intro i y hi hy hj
    refine Ev.step (f := fun k => laws_markIntS.l0 k (y.set i (m0+i)) (m0 + (i + 1 : Nat)) ((i + 1 : Nat) : Int)) (fun k => ?_) (ih (i + 1) _ (by omega) (by simp [hy]) ?_)
    · simp only [laws_markIntS.l0]
      rw [if_pos (by omega), if_pos (by omega), w64 (by omega) (by omega), w64 (by omega) (by omega)]
      simp [Int.add_assoc]
    · intro j hlt
      by_cases h : j = i
      · subst h
        rw [List.getElem?_set_self (by omega), List.getElem?_eq_getElem (by omega), marks_get]
      · rw [List.getElem?_set_ne (by omega)]
        exact hj j (by omega)
theorem markIntS_f (a : List Int) (hn : a.length ≤ 1048576) (m : Int) (h0 : 0 ≤ m) (h1 : m ≤ 1000000000000) : Ev (fun k => laws_markIntS.f k a m) (m + a.length, marks m a.length) := by
  unfold laws_markIntS.f
  have := markIntS_l a hn m h0 h1 a.length 0 a (by omega) rfl (by intro j h; omega)
  simpa using this

theorem markByteS_l (a : List Int) (hn : a.length ≤ 1048576) (m0 : Int) (h0 : 0 ≤ m0) (h1 : m0 ≤ 1000000000000) (d : Nat) : ∀ (i : Nat) (y : List Int), i + d = a.length → y.length = a.length → (∀ j, j < i → y[j]? = (marksB m0 a.length)[j]?) → Ev (fun k => laws_markByteS.l0 k y (m0 + i) (i : Int)) (m0 + a.length, marksB m0 a.length) := by
  have hml := marksB_length a.length m0
  induction d with
  | zero =>
    intro i y hi hy hj
    refine Ev.step (f := fun _ => some (m0 + a.length, marksB m0 a.length)) (fun k => ?_) (Ev.now _)
    simp only [laws_markByteS.l0]
    rw [if_neg (by omega)]
    have hy2 : y = marksB m0 a.length := by
      refine List.ext_getElem? fun j => ?_
      by_cases h : j < i
      · exact hj j h
      · rw [List.getElem?_eq_none (by omega), List.getElem?_eq_none (by omega)]
    rw [hy2, show (i : Int) = a.length by omega]
  | succ d ih =>
    intro i y hi hy hj
    refine Ev.step (f := fun k => laws_markByteS.l0 k (y.set i ((m0+i)%256)) (m0 + (i + 1 : Nat)) ((i + 1 : Nat) : Int)) (fun k => ?_) (ih (i + 1) _ (by omega) (by simp [hy]) ?_)
    · simp only [laws_markByteS.l0]
      rw [if_pos (by omega), if_pos (by omega), w64 (by omega) (by omega), w64 (by omega) (by omega)]
      simp [Int.add_assoc]
    · intro j hlt
      by_cases h : j = i
      · subst h
        rw [List.getElem?_set_self (by omega), List.getElem?_eq_getElem (by omega), marksB_get]
      · rw [List.getElem?_set_ne (by omega)]
        exact hj j (by omega)
theorem markByteS_f (a : List Int) (hn : a.length ≤ 1048576) (m : Int) (h0 : 0 ≤ m) (h1 : m ≤ 1000000000000) : Ev (fun k => laws_markByteS.f k a m) (m + a.length, marksB m a.length) := by
  unfold laws_markByteS.f
  have := markByteS_l a hn m h0 h1 a.length 0 a (by omega) rfl (by intro j h; omega)
  simpa using this

theorem heldByteS_l (n : Nat) (hn : n ≤ 1048576) (m0 : Int) (h0 : 0 ≤ m0) (h1 : m0 ≤ 1000000000000) (d : Nat) : ∀ (i : Nat), i + d = n → Ev (fun k => laws_heldByteS.l0 k (marksB m0 n) (m0 + i) (i : Int)) (m0 + n) := by
  have hml := marksB_length n m0
  induction d with
  | zero =>
    intro i hi
    refine Ev.step (f := fun _ => some (m0 + n)) (fun k => ?_) (Ev.now _)
    simp only [laws_heldByteS.l0]
    rw [if_neg (by omega), show (i : Int) = n by omega]
  | succ d ih =>
    intro i hi
    refine Ev.step (f := fun k => laws_heldByteS.l0 k (marksB m0 n) (m0 + (i + 1 : Nat)) ((i + 1 : Nat) : Int)) (fun k => ?_) (ih (i + 1) (by omega))
    simp only [laws_heldByteS.l0]
    rw [if_pos (by omega), if_pos (by omega), if_pos (by rw [rd_nat _ i (by omega), marksB_get]), w64 (by omega) (by omega), w64 (by omega) (by omega)]
    simp [Int.add_assoc]
theorem heldByteS_f (n : Nat) (hn : n ≤ 1048576) (m : Int) (h0 : 0 ≤ m) (h1 : m ≤ 1000000000000) : Ev (fun k => laws_heldByteS.f k (marksB m n) m) (m + n) := by
  unfold laws_heldByteS.f
  have := heldByteS_l n hn m h0 h1 n 0 (by omega)
  simpa using this

theorem main : laws_FnExactStatusBytes.Pure := by
  intro l _ _ hw
  refine Ev.rounds ?_
  unfold laws_FnExactStatusBytes.f
  by_cases hb : (l.length : Int) > 1048576
  · exact ev_pos hb (Ev.now _)
  have hl : l.length ≤ 1048576 := by omega
  have hs := stBytes_length l
  refine ev_neg hb ?_
  refine Ev.bind (toIntS_f l hl) ?_
  refine Ev.bind (spec_StatusBytes_f l) ?_
  refine Ev.bind (toIntS_f l hl) ?_
  refine Ev.bind (impl_StatusBytes_f l) ?_
  refine Ev.bind (eqByteS_same _ (by omega)) (ev_pos rfl ?_)
  refine Ev.bind (toIntS_f l hl) ?_
  refine Ev.bind (eqIntS_same _ hl) (ev_pos rfl ?_)
  refine Ev.bind (markIntS_f l hl 1 (by omega) (by omega)) ?_
  refine ev_neg (by simp; omega) ?_
  refine Ev.bind (eqByteS_same _ (by omega)) ?_
  refine Ev.step (fun k => by simp only [laws_FnExactStatusBytes.j0, Bool.not_true, Bool.false_eq_true, if_false]; rfl) ?_
  refine Ev.bind (markByteS_f _ (by omega) 1 (by omega) (by omega)) ?_
  refine Ev.bind (heldByteS_f _ (by omega) 1 (by omega) (by omega)) ?_
  refine ev_neg (by omega) (ev_pos rfl ?_)
  refine Ev.bind (toIntS_f l hl) ?_
  refine Ev.bind (impl_StatusBytes_f l) ?_
  refine Ev.bind (eqByteS_same _ (by omega)) (ev_pos rfl ?_)
  refine Ev.bind (heldByteS_f _ (by omega) 1 (by omega) (by omega)) ?_
  exact ev_neg (by omega) (ev_pos rfl (Ev.now _))

end Go.Proofs.Ytkgljbddpbgdgaa.Pure.ofFnExactStatusBytes
namespace Go.Proofs.Ytkgljbddpbgdgaa.PrintWords
/-- The word that the printed row asks for, under the name by which it asks. -/
abbrev sized_ints := @Go.Proofs.YtkgljbddpbgdgaaW.PrintWords.sized_ints
end Go.Proofs.Ytkgljbddpbgdgaa.PrintWords
namespace Go.Proofs.Ytkgljbddpbgdgaa.Pure
open Go.Proofs.Ytkgljbddpbgdgaa.PFnExactStatusBytes
theorem FnExactStatusBytes : laws_FnExactStatusBytes.Pure := ofFnExactStatusBytes.main
end Go.Proofs.Ytkgljbddpbgdgaa.Pure

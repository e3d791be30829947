import Derived.Test.YtcjeokkhpjppaaaZFnSpans29
import Derived.Test.YtcjeokkhpjppaaaZFnSpans32
namespace Go.Proofs.Ytcjeokkhpjppaaa.PFnSpans
open Go.RowKit Go.Proofs.YtcjeokkhpjppaaaW.PrintWords Go.Proofs.YtcjeokkhpjppaaaW.PrintLast Go.Proofs.YtcjeokkhpjppaaaW.PrintMore
attribute [local go_sem] max2_int min2_int max_two min_two max_three min_three max_four min_four   -- for this text's walks alone
attribute [local go_sem high] fl_eql fl_neq fl_lss fl_leq fl_gtr fl_geq fl_add fl_sub fl_mul fl_quo fl_neg fl_ofInt fl_toInt fl_store sub_sign ext_bits fl_nan_quo fl_nan_add fl_nan_mul fl_nan_sub
open Go.Proofs.YtcjeokkhpjppaaaW.PrintWords renaming below_alloc → h1, pw_below_drewN → h2, below_drew1 → h3, below_set → h4, blk_drewN → b1, blk_drew → b2, blk_alloc → b3
set_option linter.unusedVariables false
set_option linter.unusedSimpArgs false
/-- A state of type 61 at block g of W; what its slices lead to came in by w0. -/
def IsS61 (w0 W : World) (g : Nat) (f0 : List Int) (f1 : Int) (f2 : Int) : Prop := ∃ A0 c0, W.heap[g]? = some (.cells #[.slice A0 f0.length c0, .int .i64 f1, .int .i64 f2] 61 (0, 0)) ∧ w0.heap.size ≤ g ∧ Kd.C (Kd.int .u8) w0 A0 f0.length f0
theorem IsS61.grown {w0 W : World} {g : Nat} {f0 : List Int} {f1 : Int} {f2 : Int} {W1 : World} {row : Option Nat} (h : IsS61 w0 W g f0 f1 f2) (hw : W.grownBy W1 row) (hne : some g ≠ row) : IsS61 w0 W1 g f0 f1 f2 := by
  obtain ⟨A0, c0, hb, hg, hr0⟩ := h
  exact ⟨A0, c0, blk_grown hb hw hne, hg, hr0⟩
theorem IsS61.kept {w0 W : World} {g : Nat} {f0 : List Int} {f1 : Int} {f2 : Int} {W1 : World} {S : Nat → Prop} (h : IsS61 w0 W g f0 f1 f2) (hk : Kept W W1 S) (hne : ¬ S g) : IsS61 w0 W1 g f0 f1 f2 := by
  obtain ⟨A0, c0, hb, hg, hr0⟩ := h
  exact ⟨A0, c0, blk_kept hb hk hne, hg, hr0⟩
theorem IsS61.below {w0 W : World} {g : Nat} {f0 : List Int} {f1 : Int} {f2 : Int} {W1 : World} (h : IsS61 w0 W g f0 f1 f2) (hw : Below W.heap.size W W1) : IsS61 w0 W1 g f0 f1 f2 := h.grown (grown_of_below hw none) (by simp)
theorem IsS61.alloc {w0 W : World} {g : Nat} {f0 : List Int} {f1 : Int} {f2 : Int} (h : IsS61 w0 W g f0 f1 f2) (o : Obj) : IsS61 w0 (W.alloc o) g f0 f1 f2 := h.below (below_alloc (Below.refl _ _) o)
theorem IsS61.drewN {w0 W : World} {g : Nat} {f0 : List Int} {f1 : Int} {f2 : Int} (h : IsS61 w0 W g f0 f1 f2) (m : Nat) : IsS61 w0 (W.drewN m) g f0 f1 f2 := h
theorem IsS61.drew {w0 W : World} {g : Nat} {f0 : List Int} {f1 : Int} {f2 : Int} (h : IsS61 w0 W g f0 f1 f2) : IsS61 w0 W.drew g f0 f1 f2 := h
theorem IsS61.at_ {w0 W : World} {g : Nat} {f0 : List Int} {f1 : Int} {f2 : Int} {w' : World} {m : Nat} (hq : W.drewN m = w') (h : IsS61 w0 W g f0 f1 f2) : IsS61 w0 w' g f0 f1 f2 := by subst hq; exact IsS61.drewN h m
theorem IsS61.apart {w0 W : World} {g : Nat} {f0 : List Int} {f1 : Int} {f2 : Int} {α : Type} {d : Kd α} {e : Nat} {base : Nat} {ok : Nat → Prop} {v : Value} {xs : List α} (h : IsS61 w0 W g f0 f1 f2) (ho : d.R e W base ok v xs) (ht : ∀ q, q ∈ e :: d.E → q ≠ 61) : d.R e W base (fun k => ok k ∧ k ≠ g) v xs := by
  obtain ⟨A0, c0, hb, hg, hr0⟩ := h
  exact Kd.R_types ho hb ht
theorem IsS61.own_ne {w0 W : World} {g : Nat} {f0 : List Int} {f1 : Int} {f2 : Int} {α : Type} {d : Kd α} {e : Nat} {base : Nat} {ok : Nat → Prop} {v : Value} {xs : List α} (h : IsS61 w0 W g f0 f1 f2) (ho : d.R e W base ok v xs) (ht : e ≠ 61) : some g ≠ v.ownBlock := by
  obtain ⟨A0, c0, hb, hg, hr0⟩ := h
  exact Kd.R_ne ho hb ht
theorem IsS61.lt {w0 W : World} {g : Nat} {f0 : List Int} {f1 : Int} {f2 : Int} (h : IsS61 w0 W g f0 f1 f2) : g < W.heap.size := by
  obtain ⟨A0, c0, hb, hg, hr0⟩ := h
  exact blk_lt hb
theorem IsS61.ge {w0 W : World} {g : Nat} {f0 : List Int} {f1 : Int} {f2 : Int} (h : IsS61 w0 W g f0 f1 f2) : w0.heap.size ≤ g := by
  obtain ⟨A0, c0, hb, hg, hr0⟩ := h
  exact hg
theorem IsS61.ne_blk {w0 W : World} {g : Nat} {f0 : List Int} {f1 : Int} {f2 : Int} {a : Nat} {cs : Array Value} {t : TypeId} {fr : Nat × Nat} (h : IsS61 w0 W g f0 f1 f2) (hb2 : W.heap[a]? = some (.cells cs t fr)) (ht : t ≠ 61) : g ≠ a := by
  obtain ⟨A0, c0, hb, hg, hr0⟩ := h
  rintro rfl
  rw [hb] at hb2
  injection hb2 with hb2
  injection hb2 with _ ht2
  exact ht ht2.symm
theorem IsS61.far {w0 W : World} {g : Nat} {f0 : List Int} {f1 : Int} {f2 : Int} {p : Addr} (h : IsS61 w0 W g f0 f1 f2) (hne : g ≠ p.block) (u : Value) : IsS61 w0 (W.setCell p u) g f0 f1 f2 := by
  obtain ⟨A0, c0, hb, hg, hr0⟩ := h
  exact ⟨A0, c0, blk_far hb hne u, hg, hr0⟩
theorem cellS61_0 {W : World} {g : Nat} {A0 : Option Addr} {c0 : Nat} {f0 : List Int} {f1 : Int} {f2 : Int} (h : W.heap[g]? = some (.cells #[.slice A0 f0.length c0, .int .i64 f1, .int .i64 f2] 61 (0, 0))) : W.cell? ⟨g, 0, none⟩ = some (.slice A0 f0.length c0) := (blk_cell h 0).trans rfl
theorem cellS61_1 {W : World} {g : Nat} {A0 : Option Addr} {c0 : Nat} {f0 : List Int} {f1 : Int} {f2 : Int} (h : W.heap[g]? = some (.cells #[.slice A0 f0.length c0, .int .i64 f1, .int .i64 f2] 61 (0, 0))) : W.cell? ⟨g, 1, none⟩ = some (.int .i64 f1) := (blk_cell h 1).trans rfl
theorem IsS61.set_1 {w0 W : World} {g : Nat} {f0 : List Int} {f1 : Int} {f2 : Int} (h : IsS61 w0 W g f0 f1 f2) (x : Int) : IsS61 w0 (W.setCell ⟨g, 1, none⟩ (.int .i64 x)) g f0 x f2 := by
  obtain ⟨A0, c0, hb, hg, hr0⟩ := h
  exact ⟨A0, c0, by simpa using blk_set hb 1 (.int .i64 x), hg, hr0⟩
theorem cellS61_2 {W : World} {g : Nat} {A0 : Option Addr} {c0 : Nat} {f0 : List Int} {f1 : Int} {f2 : Int} (h : W.heap[g]? = some (.cells #[.slice A0 f0.length c0, .int .i64 f1, .int .i64 f2] 61 (0, 0))) : W.cell? ⟨g, 2, none⟩ = some (.int .i64 f2) := (blk_cell h 2).trans rfl
theorem IsS61.set_2 {w0 W : World} {g : Nat} {f0 : List Int} {f1 : Int} {f2 : Int} (h : IsS61 w0 W g f0 f1 f2) (x : Int) : IsS61 w0 (W.setCell ⟨g, 2, none⟩ (.int .i64 x)) g f0 f1 x := by
  obtain ⟨A0, c0, hb, hg, hr0⟩ := h
  exact ⟨A0, c0, by simpa using blk_set hb 2 (.int .i64 x), hg, hr0⟩
def spec_l1New.l0 : Nat → List Int → Int → Int → Option (List Int × Int × Int)
  | 0, _, _, _ => none
  | k + 1, x0, x3, x4 => if x4 < (x0.length : Int) then (if x4 < 4000 then (if 0 ≤ x4 then (spec_l1New.l0 k x0 (Go.bits .and .i64 (wrap64 ((wrap64 ((wrap64 (x3 * 131)) + (wrap64 (rd x0 x4)))) + 7)) 1073741823) (wrap64 (x4 + 1))) else (none)) else (some (x0, 0, x3))) else (some (x0, 0, x3))
def spec_l1New.f (k : Nat) (l0 : List Int) : Option (List Int × Int × Int) := spec_l1New.l0 k l0 (wrap64 (25252 + (l0.length : Int))) 0
theorem spec_l1New.mono_l : ∀ k, (∀ y0 y1 y2, LeO (spec_l1New.l0 k y0 y1 y2) (spec_l1New.l0 (k + 1) y0 y1 y2))
  | 0 => fun _ _ _ r h => by simp [spec_l1New.l0] at h
  | k + 1 => by
    have ih0 := spec_l1New.mono_l k
    · intro y0 y1 y2
      unfold spec_l1New.l0
      repeat' with_reducible first | exact ih0 _ _ _ | exact LeO.refl _ | exact LeO.none _ | refine LeO.ite ?_ ?_ | refine LeO.bind ?_ (fun _ => ?_)
theorem spec_l1New.mono : ∀ a0 k, LeO (spec_l1New.f k a0) (spec_l1New.f (k + 1) a0) := by
  intro a0 k
  have ih0 := spec_l1New.mono_l k
  unfold spec_l1New.f
  repeat' with_reducible first | exact ih0 _ _ _ | exact LeO.refl _ | exact LeO.none _ | refine LeO.ite ?_ ?_ | refine LeO.bind ?_ (fun _ => ?_)
set_option maxHeartbeats 8000000 in
set_option maxRecDepth 100000 in
theorem spec_l1New.calls (k : Nat) (A0 : Option Addr) (c0 : Nat) (l0 : List Int) (r1 : List Int) (r2 : Int) (r3 : Int) (w0 w : World) (hB : Below w0.heap.size w0 w) (hr0 : Kd.C (Kd.int .u8) w0 A0 l0.length l0) (hc0 : l0.length ≤ c0) (h : spec_l1New.f k l0 = some (r1, r2, r3)) :
    Calls Try.prog 42 #[.slice A0 l0.length c0] w fun e w' => ∃ g_ : Nat, e = .returned (.pointer (some ⟨g_, 0, none⟩)) ∧ IsS61 w0 w' g_ r1 r2 r3 ∧ Below w0.heap.size w0 w' ∧ Below w.heap.size w w' := by
  have hu61 := Try.underlying61
  have HR0 := Aside0.mk hr0
  have HC0 := Aside0.mk hc0
  clear hr0 hc0
  have HBW := Aside0.mk (Below.refl w.heap.size w)
  have HW0 := Aside0.mk hB.size
  have HB := Aside0.mk hB
  clear hB
  have H := h
  clear h
  unfold spec_l1New.f at H
  have H' := Aside0.mk H
  clear H
  go_enter Try.func42, Try.ntmps42
  go_wp2
  go_loopg [3, 4] k (fun kq v3 v4 w' => ∃ (x3_1 : Int) (x4_1 : Int), v3 = .int .i64 x3_1 ∧ v4 = .int .i64 x4_1 ∧ Aside0 (spec_l1New.l0 kq l0 x3_1 x4_1 = some (r1, r2, r3)) ∧ Aside0 (kq ≤ k) ∧ Aside0 (Below w0.heap.size w0 w') ∧ Aside0 (Below w.heap.size w w'))
  case atStart => exact ⟨(wrap64 (25252 + (l0.length : Int))), (0), (by first | rfl | (simp; done) | (simp [*]; done)), (by first | rfl | (simp; done) | (simp [*]; done)), H', ⟨Nat.le_refl _⟩, ⟨by with_reducible repeat (first | exact HB.out | apply h1 | apply h2 | apply h3)⟩, ⟨by repeat (first | (with_reducible first | exact HBW.out | apply h1 | apply h2 | apply h3) | exact HBW.out)⟩⟩
  case round =>
    clear H'
    obtain ⟨x3_1, x4_1, rfl, rfl, HA, HK1, HB, HBW⟩ := hrel
    cases gk with
    | zero => exact absurd HA.out (by simp [spec_l1New.l0])
    | succ k1 =>
      have H := HA.out
      clear HA
      simp only [spec_l1New.l0] at H
      by_cases c2 : x4_1 < (l0.length : Int)
      · rw [if_pos c2] at H
        have c2b0 : decide (x4_1 < (l0.length : Int)) = true := decide_eq_true c2
        clear c2
        by_cases c3 : x4_1 < 4000
        · rw [if_pos c3] at H
          have c3b0 : decide (x4_1 < 4000) = true := decide_eq_true c3
          clear c3
          by_cases c4 : 0 ≤ x4_1
          · rw [if_pos c4] at H
            have c4b0 : decide (0 ≤ x4_1) = true := decide_eq_true c4
            clear c4
            have H' := Aside0.mk H
            clear H
            have p165 : 0 ≤ (x4_1 : Int) := of_decide_eq_true (by first | (with_reducible assumption) | assumption)
            have q165 : x4_1 < (l0.length : Int) := of_decide_eq_true (by first | (with_reducible assumption) | assumption)
            obtain ⟨ad165, e165, hx165_0⟩ := Kd.at_int HR0.out x4_1 p165 q165
            cases e165
            replace hx165_0 := pw_cell_below HB.out hx165_0
            replace p165 := eq_true p165
            replace q165 := eq_true q165
            go_wp2
            go_roundg k1
            case measure => have := HK1.out; omega
            case rel => exact ⟨(Go.bits .and .i64 (wrap64 ((wrap64 ((wrap64 (x3_1 * 131)) + (wrap64 (rd l0 x4_1)))) + 7)) 1073741823), (wrap64 (x4_1 + 1)), (by first | rfl | (simp; done) | (simp [*]; done)), (by first | rfl | (simp; done) | (simp [*]; done)), H', ⟨by have := HK1.out; omega⟩, ⟨by with_reducible repeat (first | exact HB.out | apply h1 | apply h2 | apply h3)⟩, ⟨by repeat (first | (with_reducible first | exact HBW.out | apply h1 | apply h2 | apply h3) | exact HBW.out)⟩⟩
          · rw [if_neg c4] at H
            exact absurd H (by simp)
        · rw [if_neg c3] at H
          have c3b0 : decide (x4_1 < 4000) = false := decide_eq_false c3
          clear c3
          simp only [Option.some.injEq, Prod.mk.injEq] at H
          obtain ⟨rfl, rfl, rfl⟩ := H
          go_wp2_with (first | ((with_reducible refine gate_dst (N := 31) rfl ?_); refine box_event ?hg (N := 31) ?hd (cs := #[.slice A0 l0.length c0, .int .i64 0, .int .i64 x3_1]) (t := 61) ?hr ?_; (case hd => rfl); (case hg => rfl); (case hr => first | (go_simp; done) | (go_simp; rfl)); intro gb166 hg w5 hbox hb; have n0_ := Aside0.mk (below_step HBW.out hb); have n1_ := Aside0.mk (below_step (hup HB.out) hb); have n2_ := Aside0.mk (hbox); have n3_ := Geq.mk ((by rw [hg]; exact (below_size (by repeat (first | (with_reducible first | exact HBW.out | apply h1 | apply h2 | apply h3) | exact HBW.out))) : w.heap.size ≤ gb166)); have n4_ := Aside0.mk ((Nat.le_trans HW0.out (by rw [hg]; exact (below_size (by repeat (first | (with_reducible first | exact HBW.out | apply h1 | apply h2 | apply h3) | exact HBW.out))) : w.heap.size ≤ gb166) : w0.heap.size ≤ gb166)); clear HBW; clear HB; have HBW := n0_; have HB := n1_; have BK166 := n2_; have GW166 := n3_; have GE166 := n4_; clear n0_ n1_ n2_ n3_ n4_; clear hb hbox hg))
          go_ret
          exact ⟨_, rfl, (show IsS61 w0 _ gb166 l0 0 x3_1 from ⟨_, _, by exact bup BK166.out, GE166.out, HR0.out⟩), hset HB.out, by repeat (first | (with_reducible first | exact HBW.out | apply h1 | apply h2 | apply h3 | refine h4 ?_ GW166.out) | exact HBW.out)⟩
      · rw [if_neg c2] at H
        have c2b0 : decide (x4_1 < (l0.length : Int)) = false := decide_eq_false c2
        clear c2
        simp only [Option.some.injEq, Prod.mk.injEq] at H
        obtain ⟨rfl, rfl, rfl⟩ := H
        go_wp2_with (first | ((with_reducible refine gate_dst (N := 31) rfl ?_); refine box_event ?hg (N := 31) ?hd (cs := #[.slice A0 l0.length c0, .int .i64 0, .int .i64 x3_1]) (t := 61) ?hr ?_; (case hd => rfl); (case hg => rfl); (case hr => first | (go_simp; done) | (go_simp; rfl)); intro gb167 hg w6 hbox hb; have n0_ := Aside0.mk (below_step HBW.out hb); have n1_ := Aside0.mk (below_step (hup HB.out) hb); have n2_ := Aside0.mk (hbox); have n3_ := Geq.mk ((by rw [hg]; exact (below_size (by repeat (first | (with_reducible first | exact HBW.out | apply h1 | apply h2 | apply h3) | exact HBW.out))) : w.heap.size ≤ gb167)); have n4_ := Aside0.mk ((Nat.le_trans HW0.out (by rw [hg]; exact (below_size (by repeat (first | (with_reducible first | exact HBW.out | apply h1 | apply h2 | apply h3) | exact HBW.out))) : w.heap.size ≤ gb167) : w0.heap.size ≤ gb167)); clear HBW; clear HB; have HBW := n0_; have HB := n1_; have BK167 := n2_; have GW167 := n3_; have GE167 := n4_; clear n0_ n1_ n2_ n3_ n4_; clear hb hbox hg))
        go_ret
        exact ⟨_, rfl, (show IsS61 w0 _ gb167 l0 0 x3_1 from ⟨_, _, by exact bup BK167.out, GE167.out, HR0.out⟩), hset HB.out, by repeat (first | (with_reducible first | exact HBW.out | apply h1 | apply h2 | apply h3 | refine h4 ?_ GW167.out) | exact HBW.out)⟩
def spec_l1Byte.f (s0_0 : List Int) (s0_1 : Int) (s0_2 : Int) : Option (Int × Int × Int) := if s0_1 < (s0_0.length : Int) then (if 0 ≤ s0_1 then (some (Go.bits .and .i64 (wrap64 ((Go.bits .and .i64 (Go.bits .xor .i64 ((wrap64 ((wrap64 (s0_2 * 6364136223846793005)) + 1442695040888963407)) / 8589934592) ((wrap64 ((wrap64 (s0_2 * 6364136223846793005)) + 1442695040888963407)) / 35184372088832)) 255) + (wrap64 (rd s0_0 s0_1)))) 255, wrap64 (s0_1 + 1), wrap64 ((wrap64 (s0_2 * 6364136223846793005)) + 1442695040888963407))) else (none)) else (some (Go.bits .and .i64 (Go.bits .xor .i64 ((wrap64 ((wrap64 (s0_2 * 6364136223846793005)) + 1442695040888963407)) / 8589934592) ((wrap64 ((wrap64 (s0_2 * 6364136223846793005)) + 1442695040888963407)) / 35184372088832)) 255, s0_1, wrap64 ((wrap64 (s0_2 * 6364136223846793005)) + 1442695040888963407)))
set_option maxHeartbeats 8000000 in
set_option maxRecDepth 100000 in
theorem spec_l1Byte.calls (g : Nat) (s0_0 : List Int) (s0_1 : Int) (s0_2 : Int) (r1 : Int) (r2 : Int) (r3 : Int) (w0 w : World) (hI : IsS61 w0 w g s0_0 s0_1 s0_2) (hB : Below w0.heap.size w0 w) (h : spec_l1Byte.f s0_0 s0_1 s0_2 = some (r1, r2, r3)) :
    Calls Try.prog 63 #[.pointer (some ⟨g, 0, none⟩)] w fun e w' => e = .returned (.int .i64 r1) ∧ IsS61 w0 w' g s0_0 r2 r3 ∧ Below w0.heap.size w0 w' ∧ KeepBut w w' g none := by
  have HI0 := Aside0.mk hI
  have HK := Aside0.mk (KeepBut.refl w g none)
  have HL := Aside0.mk hB.size
  clear hI
  have HW0 := Aside0.mk hB.size
  have HB := Aside0.mk hB
  clear hB
  have H := h
  clear h
  unfold spec_l1Byte.f at H
  by_cases c2 : s0_1 < (s0_0.length : Int)
  · rw [if_pos c2] at H
    have c2b0 : decide (s0_1 < (s0_0.length : Int)) = true := decide_eq_true c2
    clear c2
    by_cases c3 : 0 ≤ s0_1
    · rw [if_pos c3] at H
      have c3b0 : decide (0 ≤ s0_1) = true := decide_eq_true c3
      clear c3
      simp only [Option.some.injEq, Prod.mk.injEq] at H
      obtain ⟨rfl, rfl, rfl⟩ := H
      obtain ⟨ASz4_0, cSz4_0, HGz4, hgz4, HSz4_0⟩ := HI0.out
      have hcz4_0 := cellS61_0 HGz4
      have hcz4_1 := cellS61_1 HGz4
      have hcz4_2 := cellS61_2 HGz4
      have hfz4_1 := blk_frozen HGz4 1
      have hfz4_2 := blk_frozen HGz4 2
      clear HGz4 hgz4
      have p168 : 0 ≤ (s0_1 : Int) := of_decide_eq_true (by first | (with_reducible assumption) | assumption)
      have q168 : s0_1 < (s0_0.length : Int) := of_decide_eq_true (by first | (with_reducible assumption) | assumption)
      obtain ⟨ad168, e168, hx168_0⟩ := Kd.at_int HSz4_0 s0_1 p168 q168
      cases e168
      have hn168_0 : ad168.block ≠ g := Nat.ne_of_lt (Nat.lt_of_lt_of_le (by have := World.block_lt_of_cell? _ _ hx168_0; first | rwa [add_block] at this | exact this) (IsS61.ge HI0.out))
      replace hx168_0 := pw_cell_below HB.out hx168_0
      replace hx168_0 := (cell_far (p := ⟨g, 2, none⟩) (by first | (rw [add_block]; exact hn168_0) | (show (Addr.add _ _).block ≠ _; rw [add_block]; exact hn168_0) | exact hn168_0) (.int .i64 (wrap64 ((wrap64 (s0_2 * 6364136223846793005)) + 1442695040888963407)))).trans hx168_0
      (try have hy168_0 := fun (n_ : Nat) => (show (((w.drewN n_).setCell ⟨g, 2, none⟩ (.int .i64 (wrap64 ((wrap64 (s0_2 * 6364136223846793005)) + 1442695040888963407))))).cell? _ = some _ from hx168_0))
      clear hn168_0
      replace p168 := eq_true p168
      replace q168 := eq_true q168
      go_enter Try.func63, Try.ntmps63
      go_wp2
      repeat (go_quiet (fail); try go_wp2)
      go_ret
      exact ⟨by first | rfl | (simp [errW_none, errW_some] <;> rfl) | (simp [*, errW_none, errW_some] <;> rfl), by repeat (first | (with_reducible first | exact HI0.out | apply IsS61.alloc | apply IsS61.drewN | apply IsS61.drew | apply IsS61.set_1 | apply IsS61.set_2) | exact HI0.out), by repeat (first | (with_reducible first | exact HB.out | apply h1 | apply h2 | apply h3 | refine h4 ?_ (IsS61.ge HI0.out)) | exact HB.out), by repeat (first | (with_reducible first | exact HK.out | apply KeepBut.set_ | apply keep_drewN | apply keep_drew | apply keep_alloc) | exact HK.out)⟩
    · rw [if_neg c3] at H
      exact absurd H (by simp)
  · rw [if_neg c2] at H
    have c2b0 : decide (s0_1 < (s0_0.length : Int)) = false := decide_eq_false c2
    clear c2
    simp only [Option.some.injEq, Prod.mk.injEq] at H
    obtain ⟨rfl, rfl, rfl⟩ := H
    obtain ⟨ASz5_0, cSz5_0, HGz5, hgz5, HSz5_0⟩ := HI0.out
    have hcz5_0 := cellS61_0 HGz5
    have hcz5_1 := cellS61_1 HGz5
    have hcz5_2 := cellS61_2 HGz5
    have hfz5_1 := blk_frozen HGz5 1
    have hfz5_2 := blk_frozen HGz5 2
    clear HGz5 hgz5
    go_enter Try.func63, Try.ntmps63
    go_wp2
    repeat (go_quiet (fail); try go_wp2)
    go_ret
    exact ⟨by first | rfl | (simp [errW_none, errW_some] <;> rfl) | (simp [*, errW_none, errW_some] <;> rfl), by repeat (first | (with_reducible first | exact HI0.out | apply IsS61.alloc | apply IsS61.drewN | apply IsS61.drew | apply IsS61.set_1 | apply IsS61.set_2) | exact HI0.out), by repeat (first | (with_reducible first | exact HB.out | apply h1 | apply h2 | apply h3 | refine h4 ?_ (IsS61.ge HI0.out)) | exact HB.out), by repeat (first | (with_reducible first | exact HK.out | apply KeepBut.set_ | apply keep_drewN | apply keep_drew | apply keep_alloc) | exact HK.out)⟩
def spec_l1Below.f (s0_0 : List Int) (s0_1 : Int) (s0_2 : Int) (a1 : Int) : Option (Int × Int × Int) := if a1 ≤ 0 then (some (0, s0_1, s0_2)) else (if a1 ≤ 256 then ((spec_l1Byte.f s0_0 s0_1 s0_2).bind fun bt169 => (if a1 = 0 then (none) else (some (Int.tmod bt169.1 a1, bt169.2.1, bt169.2.2)))) else ((spec_l1Byte.f s0_0 s0_1 s0_2).bind fun bt172 => ((spec_l1Byte.f s0_0 bt172.2.1 bt172.2.2).bind fun bt175 => ((spec_l1Byte.f s0_0 bt175.2.1 bt175.2.2).bind fun bt178 => ((spec_l1Byte.f s0_0 bt178.2.1 bt178.2.2).bind fun bt181 => (if a1 = 0 then (none) else (some (Int.tmod (wrap64 ((wrap64 ((wrap64 ((wrap64 (bt172.1 * 16777216)) + (wrap64 (bt175.1 * 65536)))) + (wrap64 (bt178.1 * 256)))) + bt181.1)) a1, bt181.2.1, bt181.2.2))))))))
set_option maxHeartbeats 8000000 in
set_option maxRecDepth 100000 in
theorem spec_l1Below.calls (g : Nat) (s0_0 : List Int) (s0_1 : Int) (s0_2 : Int) (a1 : Int) (r1 : Int) (r2 : Int) (r3 : Int) (w0 w : World) (hI : IsS61 w0 w g s0_0 s0_1 s0_2) (hB : Below w0.heap.size w0 w) (h : spec_l1Below.f s0_0 s0_1 s0_2 a1 = some (r1, r2, r3)) :
    Calls Try.prog 55 #[.pointer (some ⟨g, 0, none⟩), .int .i64 a1] w fun e w' => e = .returned (.int .i64 r1) ∧ IsS61 w0 w' g s0_0 r2 r3 ∧ Below w0.heap.size w0 w' ∧ KeepBut w w' g none := by
  have HI0 := Aside0.mk hI
  have HK := Aside0.mk (KeepBut.refl w g none)
  have HL := Aside0.mk hB.size
  clear hI
  have HW0 := Aside0.mk hB.size
  have HB := Aside0.mk hB
  clear hB
  have H := h
  clear h
  unfold spec_l1Below.f at H
  by_cases c3 : a1 ≤ 0
  · rw [if_pos c3] at H
    have c3b0 : decide (a1 ≤ 0) = true := decide_eq_true c3
    clear c3
    simp only [Option.some.injEq, Prod.mk.injEq] at H
    obtain ⟨rfl, rfl, rfl⟩ := H
    go_enter Try.func55, Try.ntmps55
    go_wp2
    go_ret
    exact ⟨by first | rfl | (simp [errW_none, errW_some] <;> rfl) | (simp [*, errW_none, errW_some] <;> rfl), by repeat (first | (with_reducible first | exact HI0.out | apply IsS61.alloc | apply IsS61.drewN | apply IsS61.drew | apply IsS61.set_1 | apply IsS61.set_2) | exact HI0.out), by repeat (first | (with_reducible first | exact HB.out | apply h1 | apply h2 | apply h3 | refine h4 ?_ (IsS61.ge HI0.out)) | exact HB.out), by repeat (first | (with_reducible first | exact HK.out | apply KeepBut.set_ | apply keep_drewN | apply keep_drew | apply keep_alloc) | exact HK.out)⟩
  · rw [if_neg c3] at H
    have c3b0 : decide (a1 ≤ 0) = false := decide_eq_false c3
    clear c3
    by_cases c4 : a1 ≤ 256
    · rw [if_pos c4] at H
      have c4b0 : decide (a1 ≤ 256) = true := decide_eq_true c4
      clear c4
      replace H := Option.bind_eq_some_iff.mp H
      obtain ⟨⟨t169, t170, t171⟩, A50, H⟩ := H
      (try dsimp only at H)
      have A5 := Aside0.mk A50
      clear A50
      by_cases c6 : a1 = 0
      · rw [if_pos c6] at H
        exact absurd H (by simp)
      · rw [if_neg c6] at H
        have c6b0 : (a1 == 0) = false := beq_eq_false_iff_ne.mpr c6
        have c6b1 : (a1 != 0) = true := bne_iff_ne.mpr c6
        simp only [Option.some.injEq, Prod.mk.injEq] at H
        obtain ⟨rfl, rfl, rfl⟩ := H
        go_enter Try.func55, Try.ntmps55
        go_wp2_with (first | ((with_reducible refine gate_callee (f := 63) rfl ?_); refine goesL_ (some 14) rfl rfl Try.func63 (by kernel_rfl) rfl #[.pointer (some ⟨g, 0, none⟩)] rfl (by (try simp only [List.map_toArray, List.map_cons, List.map_nil]); first | done | rfl) ?_; (with_reducible refine (spec_l1Byte.calls g s0_0 s0_1 s0_2 t169 t170 t171 w0 _ ?side1 ?side2 A5.out).mono ?_); (case side1 => repeat (first | (with_reducible first | exact HI0.out | apply IsS61.alloc | apply IsS61.drewN | apply IsS61.drew | apply IsS61.set_1 | apply IsS61.set_2) | exact HI0.out)); (case side2 => repeat (first | (with_reducible first | exact HB.out | apply h1 | apply h2 | apply h3 | refine h4 ?_ (IsS61.ge HI0.out)) | exact HB.out)); rintro e w7 ⟨rfl, hi, hb, hk⟩; refine ⟨_, rfl, ?_⟩; have n0_ := Aside0.mk (KeepBut.trans (by repeat (first | (with_reducible first | exact HK.out | apply KeepBut.set_ | apply keep_drewN | apply keep_drew | apply keep_alloc) | exact HK.out)) hk (.inl rfl)); have n1_ := Aside0.mk (hb); have n2_ := Aside0.mk (hi); clear HK; clear HB; clear HI0; have HK := n0_; have HB := n1_; have HI0 := n2_; clear n0_ n1_ n2_; (try clear hb); (try clear hb2); (try clear hk); (try clear hi)))
        go_ret
        exact ⟨by first | rfl | (simp [errW_none, errW_some] <;> rfl) | (simp [*, errW_none, errW_some] <;> rfl), by repeat (first | (with_reducible first | exact HI0.out | apply IsS61.alloc | apply IsS61.drewN | apply IsS61.drew | apply IsS61.set_1 | apply IsS61.set_2) | exact HI0.out), by repeat (first | (with_reducible first | exact HB.out | apply h1 | apply h2 | apply h3 | refine h4 ?_ (IsS61.ge HI0.out)) | exact HB.out), by repeat (first | (with_reducible first | exact HK.out | apply KeepBut.set_ | apply keep_drewN | apply keep_drew | apply keep_alloc) | exact HK.out)⟩
    · rw [if_neg c4] at H
      have c4b0 : decide (a1 ≤ 256) = false := decide_eq_false c4
      clear c4
      replace H := Option.bind_eq_some_iff.mp H
      obtain ⟨⟨t172, t173, t174⟩, A80, H⟩ := H
      (try dsimp only at H)
      have A8 := Aside0.mk A80
      clear A80
      replace H := Option.bind_eq_some_iff.mp H
      obtain ⟨⟨t175, t176, t177⟩, A90, H⟩ := H
      (try dsimp only at H)
      have A9 := Aside0.mk A90
      clear A90
      replace H := Option.bind_eq_some_iff.mp H
      obtain ⟨⟨t178, t179, t180⟩, A100, H⟩ := H
      (try dsimp only at H)
      have A10 := Aside0.mk A100
      clear A100
      replace H := Option.bind_eq_some_iff.mp H
      obtain ⟨⟨t181, t182, t183⟩, A110, H⟩ := H
      (try dsimp only at H)
      have A11 := Aside0.mk A110
      clear A110
      by_cases c12 : a1 = 0
      · rw [if_pos c12] at H
        exact absurd H (by simp)
      · rw [if_neg c12] at H
        have c12b0 : (a1 == 0) = false := beq_eq_false_iff_ne.mpr c12
        have c12b1 : (a1 != 0) = true := bne_iff_ne.mpr c12
        simp only [Option.some.injEq, Prod.mk.injEq] at H
        obtain ⟨rfl, rfl, rfl⟩ := H
        go_enter Try.func55, Try.ntmps55
        go_wp2_with (first | ((with_reducible refine gate_callee (f := 63) rfl ?_); refine goesL_ (some 18) rfl rfl Try.func63 (by kernel_rfl) rfl #[.pointer (some ⟨g, 0, none⟩)] rfl (by (try simp only [List.map_toArray, List.map_cons, List.map_nil]); first | done | rfl) ?_; (with_reducible refine (spec_l1Byte.calls g s0_0 s0_1 s0_2 t172 t173 t174 w0 _ ?side1 ?side2 A8.out).mono ?_); (case side1 => repeat (first | (with_reducible first | exact HI0.out | apply IsS61.alloc | apply IsS61.drewN | apply IsS61.drew | apply IsS61.set_1 | apply IsS61.set_2) | exact HI0.out)); (case side2 => repeat (first | (with_reducible first | exact HB.out | apply h1 | apply h2 | apply h3 | refine h4 ?_ (IsS61.ge HI0.out)) | exact HB.out)); rintro e w13 ⟨rfl, hi, hb, hk⟩; refine ⟨_, rfl, ?_⟩; have n0_ := Aside0.mk (KeepBut.trans (by repeat (first | (with_reducible first | exact HK.out | apply KeepBut.set_ | apply keep_drewN | apply keep_drew | apply keep_alloc) | exact HK.out)) hk (.inl rfl)); have n1_ := Aside0.mk (hb); have n2_ := Aside0.mk (hi); clear HK; clear HB; clear HI0; have HK := n0_; have HB := n1_; have HI0 := n2_; clear n0_ n1_ n2_; (try clear hb); (try clear hb2); (try clear hk); (try clear hi)) | ((with_reducible refine gate_callee (f := 63) rfl ?_); refine goesL_ (some 20) rfl rfl Try.func63 (by kernel_rfl) rfl #[.pointer (some ⟨g, 0, none⟩)] rfl (by (try simp only [List.map_toArray, List.map_cons, List.map_nil]); first | done | rfl) ?_; (with_reducible refine (spec_l1Byte.calls g s0_0 t173 t174 t175 t176 t177 w0 _ ?side1 ?side2 A9.out).mono ?_); (case side1 => repeat (first | (with_reducible first | exact HI0.out | apply IsS61.alloc | apply IsS61.drewN | apply IsS61.drew | apply IsS61.set_1 | apply IsS61.set_2) | exact HI0.out)); (case side2 => repeat (first | (with_reducible first | exact HB.out | apply h1 | apply h2 | apply h3 | refine h4 ?_ (IsS61.ge HI0.out)) | exact HB.out)); rintro e w14 ⟨rfl, hi, hb, hk⟩; refine ⟨_, rfl, ?_⟩; have n0_ := Aside0.mk (KeepBut.trans (by repeat (first | (with_reducible first | exact HK.out | apply KeepBut.set_ | apply keep_drewN | apply keep_drew | apply keep_alloc) | exact HK.out)) hk (.inl rfl)); have n1_ := Aside0.mk (hb); have n2_ := Aside0.mk (hi); clear HK; clear HB; clear HI0; have HK := n0_; have HB := n1_; have HI0 := n2_; clear n0_ n1_ n2_; (try clear hb); (try clear hb2); (try clear hk); (try clear hi)) | ((with_reducible refine gate_callee (f := 63) rfl ?_); refine goesL_ (some 22) rfl rfl Try.func63 (by kernel_rfl) rfl #[.pointer (some ⟨g, 0, none⟩)] rfl (by (try simp only [List.map_toArray, List.map_cons, List.map_nil]); first | done | rfl) ?_; (with_reducible refine (spec_l1Byte.calls g s0_0 t176 t177 t178 t179 t180 w0 _ ?side1 ?side2 A10.out).mono ?_); (case side1 => repeat (first | (with_reducible first | exact HI0.out | apply IsS61.alloc | apply IsS61.drewN | apply IsS61.drew | apply IsS61.set_1 | apply IsS61.set_2) | exact HI0.out)); (case side2 => repeat (first | (with_reducible first | exact HB.out | apply h1 | apply h2 | apply h3 | refine h4 ?_ (IsS61.ge HI0.out)) | exact HB.out)); rintro e w15 ⟨rfl, hi, hb, hk⟩; refine ⟨_, rfl, ?_⟩; have n0_ := Aside0.mk (KeepBut.trans (by repeat (first | (with_reducible first | exact HK.out | apply KeepBut.set_ | apply keep_drewN | apply keep_drew | apply keep_alloc) | exact HK.out)) hk (.inl rfl)); have n1_ := Aside0.mk (hb); have n2_ := Aside0.mk (hi); clear HK; clear HB; clear HI0; have HK := n0_; have HB := n1_; have HI0 := n2_; clear n0_ n1_ n2_; (try clear hb); (try clear hb2); (try clear hk); (try clear hi)) | ((with_reducible refine gate_callee (f := 63) rfl ?_); refine goesL_ (some 24) rfl rfl Try.func63 (by kernel_rfl) rfl #[.pointer (some ⟨g, 0, none⟩)] rfl (by (try simp only [List.map_toArray, List.map_cons, List.map_nil]); first | done | rfl) ?_; (with_reducible refine (spec_l1Byte.calls g s0_0 t179 t180 t181 t182 t183 w0 _ ?side1 ?side2 A11.out).mono ?_); (case side1 => repeat (first | (with_reducible first | exact HI0.out | apply IsS61.alloc | apply IsS61.drewN | apply IsS61.drew | apply IsS61.set_1 | apply IsS61.set_2) | exact HI0.out)); (case side2 => repeat (first | (with_reducible first | exact HB.out | apply h1 | apply h2 | apply h3 | refine h4 ?_ (IsS61.ge HI0.out)) | exact HB.out)); rintro e w16 ⟨rfl, hi, hb, hk⟩; refine ⟨_, rfl, ?_⟩; have n0_ := Aside0.mk (KeepBut.trans (by repeat (first | (with_reducible first | exact HK.out | apply KeepBut.set_ | apply keep_drewN | apply keep_drew | apply keep_alloc) | exact HK.out)) hk (.inl rfl)); have n1_ := Aside0.mk (hb); have n2_ := Aside0.mk (hi); clear HK; clear HB; clear HI0; have HK := n0_; have HB := n1_; have HI0 := n2_; clear n0_ n1_ n2_; (try clear hb); (try clear hb2); (try clear hk); (try clear hi)))
        go_ret
        exact ⟨by first | rfl | (simp [errW_none, errW_some] <;> rfl) | (simp [*, errW_none, errW_some] <;> rfl), by repeat (first | (with_reducible first | exact HI0.out | apply IsS61.alloc | apply IsS61.drewN | apply IsS61.drew | apply IsS61.set_1 | apply IsS61.set_2) | exact HI0.out), by repeat (first | (with_reducible first | exact HB.out | apply h1 | apply h2 | apply h3 | refine h4 ?_ (IsS61.ge HI0.out)) | exact HB.out), by repeat (first | (with_reducible first | exact HK.out | apply KeepBut.set_ | apply keep_drewN | apply keep_drew | apply keep_alloc) | exact HK.out)⟩
def spec_l1Once.f (s0_0 : List Int) (s0_1 : Int) (s0_2 : Int) (a1 : Int) : Option (Bool × Int × Int) := (spec_l1Below.f s0_0 s0_1 s0_2 a1).bind fun bt184 => (some ((bt184.1 == 0), bt184.2.1, bt184.2.2))
set_option maxHeartbeats 8000000 in
set_option maxRecDepth 100000 in
theorem spec_l1Once.calls (g : Nat) (s0_0 : List Int) (s0_1 : Int) (s0_2 : Int) (a1 : Int) (r1 : Bool) (r2 : Int) (r3 : Int) (w0 w : World) (hI : IsS61 w0 w g s0_0 s0_1 s0_2) (hB : Below w0.heap.size w0 w) (h : spec_l1Once.f s0_0 s0_1 s0_2 a1 = some (r1, r2, r3)) :
    Calls Try.prog 44 #[.pointer (some ⟨g, 0, none⟩), .int .i64 a1] w fun e w' => e = .returned (.bool r1) ∧ IsS61 w0 w' g s0_0 r2 r3 ∧ Below w0.heap.size w0 w' ∧ KeepBut w w' g none := by
  have HI0 := Aside0.mk hI
  have HK := Aside0.mk (KeepBut.refl w g none)
  have HL := Aside0.mk hB.size
  clear hI
  have HW0 := Aside0.mk hB.size
  have HB := Aside0.mk hB
  clear hB
  have H := h
  clear h
  unfold spec_l1Once.f at H
  replace H := Option.bind_eq_some_iff.mp H
  obtain ⟨⟨t184, t185, t186⟩, A30, H⟩ := H
  (try dsimp only at H)
  have A3 := Aside0.mk A30
  clear A30
  simp only [Option.some.injEq, Prod.mk.injEq] at H
  obtain ⟨rfl, rfl, rfl⟩ := H
  go_enter Try.func44, Try.ntmps44
  go_wp2_with (first | ((with_reducible refine gate_callee (f := 55) rfl ?_); refine goesL_ (some 7) rfl rfl Try.func55 (by kernel_rfl) rfl #[.pointer (some ⟨g, 0, none⟩), .int .i64 a1] rfl (by (try simp only [List.map_toArray, List.map_cons, List.map_nil]); first | done | rfl) ?_; (with_reducible refine (spec_l1Below.calls g s0_0 s0_1 s0_2 a1 t184 t185 t186 w0 _ ?side1 ?side2 A3.out).mono ?_); (case side1 => repeat (first | (with_reducible first | exact HI0.out | apply IsS61.alloc | apply IsS61.drewN | apply IsS61.drew | apply IsS61.set_1 | apply IsS61.set_2) | exact HI0.out)); (case side2 => repeat (first | (with_reducible first | exact HB.out | apply h1 | apply h2 | apply h3 | refine h4 ?_ (IsS61.ge HI0.out)) | exact HB.out)); rintro e w4 ⟨rfl, hi, hb, hk⟩; refine ⟨_, rfl, ?_⟩; have n0_ := Aside0.mk (KeepBut.trans (by repeat (first | (with_reducible first | exact HK.out | apply KeepBut.set_ | apply keep_drewN | apply keep_drew | apply keep_alloc) | exact HK.out)) hk (.inl rfl)); have n1_ := Aside0.mk (hb); have n2_ := Aside0.mk (hi); clear HK; clear HB; clear HI0; have HK := n0_; have HB := n1_; have HI0 := n2_; clear n0_ n1_ n2_; (try clear hb); (try clear hb2); (try clear hk); (try clear hi)))
  go_ret
  exact ⟨by first | rfl | (simp [errW_none, errW_some] <;> rfl) | (simp [*, errW_none, errW_some] <;> rfl), by repeat (first | (with_reducible first | exact HI0.out | apply IsS61.alloc | apply IsS61.drewN | apply IsS61.drew | apply IsS61.set_1 | apply IsS61.set_2) | exact HI0.out), by repeat (first | (with_reducible first | exact HB.out | apply h1 | apply h2 | apply h3 | refine h4 ?_ (IsS61.ge HI0.out)) | exact HB.out), by repeat (first | (with_reducible first | exact HK.out | apply KeepBut.set_ | apply keep_drewN | apply keep_drew | apply keep_alloc) | exact HK.out)⟩
def spec_l3copy.f (a0_0 : Int) (a0_1 : Int) (a0_2 : Nat) (l0_3 : List Int) : Option (Int × Int × Nat × List Int) := (some (([] : List Int) : List Int)).bind fun y189 => (if y189.length + l0_3.length < 140737488355328 then (some (a0_0, a0_1, a0_2, (y189 ++ l0_3))) else (none))
set_option maxHeartbeats 8000000 in
set_option maxRecDepth 100000 in
theorem spec_l3copy.calls (a0_0 : Int) (a0_1 : Int) (a0_2 : Nat) (A0_3 : Option Addr) (c0_3 : Nat) (l0_3 : List Int) (r1 : Int) (r2 : Int) (r3 : Nat) (r4 : List Int) (w : World) (hr0_3 : Kd.C (Kd.int .u8) w A0_3 l0_3.length l0_3) (hc0_3 : l0_3.length ≤ c0_3) (h : spec_l3copy.f a0_0 a0_1 a0_2 l0_3 = some (r1, r2, r3, r4)) :
    Calls Try.prog 46 #[.agg #[.int .i64 a0_0, .int .i64 a0_1, .float .f64 a0_2, .slice A0_3 l0_3.length c0_3]] w fun e w' => ∃ v3_ : Value, e = .returned (.agg #[.int .i64 r1, .int .i64 r2, .float .f64 r3, v3_]) ∧ Kd.R (Kd.int .u8) 5 w' w.heap.size (fun _ => True) v3_ r4 ∧ Below w.heap.size w w' := by
  have hu28 := Try.underlying28
  have HR0_3 := Aside0.mk hr0_3
  have HC0_3 := Aside0.mk hc0_3
  clear hr0_3 hc0_3
  have HB := Aside0.mk (Below.refl w.heap.size w)
  have H := h
  clear h
  unfold spec_l3copy.f at H
  obtain ⟨y189, hy189⟩ : ∃ y_ : List Int, y_ = (([] : List Int)) := ⟨_, rfl⟩
  replace H : (if y189.length + l0_3.length < 140737488355328 then (some (a0_0, a0_1, a0_2, (y189 ++ l0_3))) else (none)) = some (r1, r2, r3, r4) := by first | (rw [hy189]; with_reducible exact H) | (have H2_ := (Option.bind_some _ _).symm.trans H; rw [hy189]; with_reducible exact H2_) | (have H2_ := (Option.bind_some _ _).symm.trans H; with_reducible exact H2_) | with_reducible exact H | (rw [hy189]; exact H) | exact H
  have Ny189 := Aside0.mk hy189
  clear hy189
  by_cases c2 : y189.length + l0_3.length < 140737488355328
  · rw [if_pos c2] at H
    have LMc2 := Aside0.mk c2
    clear c2
    obtain ⟨y192, hy192⟩ : ∃ y_ : List Int, y_ = (y189 ++ l0_3) := ⟨_, rfl⟩
    replace H : (some (a0_0, a0_1, a0_2, y192)) = some (r1, r2, r3, r4) := by first | (rw [hy192]; with_reducible exact H) | (have H2_ := (Option.bind_some _ _).symm.trans H; rw [hy192]; with_reducible exact H2_) | (have H2_ := (Option.bind_some _ _).symm.trans H; with_reducible exact H2_) | with_reducible exact H | (rw [hy192]; exact H) | exact H
    have Ny192 := Aside0.mk hy192
    clear hy192
    simp only [Option.some.injEq, Prod.mk.injEq] at H
    obtain ⟨rfl, rfl, rfl, rfl⟩ := H
    go_enter Try.func46, Try.ntmps46
    go_wp2_with (first | ((with_reducible refine gate_dst (N := 1) rfl ?_); refine box_event ?hg (N := 1) ?hd (cs := #[.int .i64 a0_0, .int .i64 a0_1, .float .f64 a0_2, .slice A0_3 l0_3.length c0_3]) (t := 28) ?hr ?_; (case hd => rfl); (case hg => rfl); (case hr => first | (go_simp; done) | (go_simp; rfl)); intro gb187 hg w3 hbox hb; have n0_ := Aside0.mk (below_step (hup HB.out) hb); have n1_ := Aside0.mk (hbox); have n2_ := Geq.mk ((by rw [hg]; exact (below_size (hup HB.out)) : w.heap.size ≤ gb187)); have n3_ := Geq.mk ((by rw [hg]; exact (below_size (hup HB.out)) : w.heap.size ≤ gb187)); clear HB; have HB := n0_; have BK187 := n1_; have GW187 := n2_; have GE187 := n3_; clear n0_ n1_ n2_ n3_; clear hb hbox hg) | ((with_reducible refine gate_dst (N := 2) rfl ?_); refine box_event ?hg (N := 2) ?hd (cs := #[.int .i64 0, .int .i64 0, .float .f64 0, .slice none 0 0]) (t := 28) ?hr ?_; (case hd => rfl); (case hg => rfl); (case hr => first | (go_simp; done) | (go_simp; rfl)); intro gb188 hg w4 hbox hb; have n0_ := Aside0.mk (blk_below (bup BK187.out) hb); have n1_ := Aside0.mk (below_step (hset HB.out) hb); have n2_ := Aside0.mk (hbox); have n3_ := Geq.mk ((by rw [hg]; exact (below_size (hset HB.out)) : w.heap.size ≤ gb188)); have n4_ := Geq.mk ((by rw [hg]; exact (below_size (hset HB.out)) : w.heap.size ≤ gb188)); have n5_ := Neq.mk ((by rw [hg]; exact Nat.ne_of_lt (blk_lt (g := gb187) (o := .cells #[.int .i64 a0_0, .int .i64 a0_1, .float .f64 a0_2, .slice A0_3 l0_3.length c0_3] 28 (0, 0)) (bup BK187.out)) : gb187 ≠ gb188)); have n6_ := Neq.mk ((by rw [hg]; exact Nat.ne_of_gt (blk_lt (g := gb187) (o := .cells #[.int .i64 a0_0, .int .i64 a0_1, .float .f64 a0_2, .slice A0_3 l0_3.length c0_3] 28 (0, 0)) (bup BK187.out)) : gb188 ≠ gb187)); clear BK187; clear HB; have BK187 := n0_; have HB := n1_; have BK188 := n2_; have GW188 := n3_; have GE188 := n4_; have NB187_188 := n5_; have NB188_187 := n6_; clear n0_ n1_ n2_ n3_ n4_ n5_ n6_; clear hb hbox hg) | ((with_reducible refine gate_dst (N := 3) rfl ?_); refine Kd.R_lit (Kd.int .u8) _ 5 ?hg (N := 3) ?hd (xs := ([] : List Int)) (inner := []) (ok := fun _ => True) (okp := fun _ => True) ?hr ?hp (fun _ hk => hk) trivial (Below.refl _ _) (Nat.le_refl _) (by simp) ?_; (case hd => rfl); (case hg => rfl); (case hr => first | (go_simp; done) | (go_simp; rfl)); (case hp => exact (Reps.none _ _)); intro v190 w5 ho6 hb hg_ hnew_; clear hg_ hnew_; (first | rw [← Ny189.out] at ho6 | (simp only [Int.reduceToNat] at ho6; rw [← Ny189.out] at ho6)); have n0_ := Aside0.mk (Kd.R_lower ho6 (below_size (hset HB.out))); have n1_ := Aside0.mk (blk_below (bup BK187.out) hb); have n2_ := Aside0.mk (blk_below (bup BK188.out) hb); have n3_ := Aside0.mk (below_step (hset HB.out) hb); clear BK187; clear BK188; clear HB; have HO191 := n0_; have BK187 := n1_; have BK188 := n2_; have HB := n3_; clear n0_ n1_ n2_ n3_; clear hb ho6; have hnb7 := NB187_188.out; have hnc7 := NB188_187.out; obtain ⟨hcz8_0, hcz8_1, hcz8_2, hcz8_3⟩ := blk_cells4 BK187.out; obtain ⟨hfz8_0, hfz8_1, hfz8_2, hfz8_3⟩ := blk_frozens4 BK187.out) | ((with_reducible refine gate_builtin (b := .append) (xs := #[.tmp 3, .tmp 5]) rfl ?_); at_builtin; refine Kd.R_append_rows (Kd.int .u8) (w0 := w) w.heap.size rfl (.tmp 3) (.tmp 5) 23 5 (.int .u8 0) 1 rfl Try.underlying23 info5 rfl (by decide) (by omega) v190 y189 l0_3 _ _ _ (fun _ => True) (fun _ => False) rfl rfl ?aO ?aR (fun _ _ h => h) (fun _ h => h.elim) ?aF ?aB ?aS ?aL ?_; (case aR => repeat (first | exact (Kd.C_below HR0_3.out HB.out) | (with_reducible refine Kd.C_alloc ?_ _) | (with_reducible refine Kd.C_drewN ?_ _) | (with_reducible refine Kd.C_drew ?_))); (case aB => exact (hset HB.out)); (case aF => exact (fun _ _ => trivial)); (case aO => exact (Kd.rup HO191.out)); (case aS => exact (below_size (hset HB.out))); (case aL => have := LMc2.out; omega); intro v193 w9 ho hb hg hat; rw [← Ny192.out] at ho; have n0_ := Aside0.mk (blk_grown (g := gb187) (o := .cells #[.int .i64 a0_0, .int .i64 a0_1, .float .f64 a0_2, .slice A0_3 l0_3.length c0_3] 28 (0, 0)) (bup BK187.out) hg (Kd.R_ne HO191.out BK187.out (by decide))); have n1_ := Aside0.mk (blk_grown (g := gb188) (o := .cells #[.int .i64 0, .int .i64 0, .float .f64 0, .slice none 0 0] 28 (0, 0)) (bup BK188.out) hg (Kd.R_ne HO191.out BK188.out (by decide))); have n2_ := Aside0.mk (hb); have n3_ := Aside0.mk (ho); clear BK187; clear BK188; clear HB; clear HO191; have BK187 := n0_; have BK188 := n1_; have HB := n2_; have HO194 := n3_; clear n0_ n1_ n2_ n3_; clear ho hb hg hat; obtain ⟨Ao10, co10, eo10⟩ := Kd.R_slice HO194.out; subst eo10; obtain ⟨hcz11_0, hcz11_1, hcz11_2, hcz11_3⟩ := blk_cells4 BK187.out; obtain ⟨hfz11_0, hfz11_1, hfz11_2, hfz11_3⟩ := blk_frozens4 BK187.out; obtain ⟨hcz12_0, hcz12_1, hcz12_2, hcz12_3⟩ := blk_cells4 BK188.out; obtain ⟨hfz12_0, hfz12_1, hfz12_2, hfz12_3⟩ := blk_frozens4 BK188.out))
    refine bodyPost_ret (results_cell_row rfl _ _ gb188 28 #[.int .i64 a0_0, .int .i64 a0_1, .float .f64 a0_2, .slice Ao10 y192.length co10] (0, 0) _ rfl (bput BK188.out) Try.underlying28 rfl (by kernel_rfl)) rfl ?_
    exact ⟨_, by first | rfl | (simp [errW_none, errW_some] <;> rfl) | (simp [*, errW_none, errW_some] <;> rfl), by exact Kd.rup (Kd.R_mono (Kd.R_far (p := ⟨gb188, 3, none⟩) (Kd.R_far (p := ⟨gb188, 2, none⟩) (Kd.R_far (p := ⟨gb188, 1, none⟩) (Kd.R_far (p := ⟨gb188, 0, none⟩) (Kd.R_far (p := ⟨gb187, 3, none⟩) (Kd.R_types (Kd.R_types HO194.out BK187.out (by decide)) BK188.out (by decide)) (fun _ hk => hk.1.2) (.slice Ao10 y192.length co10)) (fun _ hk => hk.2) (.int .i64 a0_0)) (fun _ hk => hk.2) (.int .i64 a0_1)) (fun _ hk => hk.2) (.float .f64 a0_2)) (fun _ hk => hk.2) (.slice Ao10 y192.length co10)) (fun _ hk => trivial)), hset HB.out⟩
  · rw [if_neg c2] at H
    exact absurd H (by simp)
theorem spec_l3copy.pass (a0_0 : Int) (a0_1 : Int) (a0_2 : Nat) (l0_3 : List Int) (r1 : Int) (r2 : Int) (r3 : Nat) (r4 : List Int) (hp : a0_2 < 2 ^ 64) (h : spec_l3copy.f a0_0 a0_1 (cn a0_2) l0_3 = some (r1, r2, r3, r4)) : ∃ b, spec_l3copy.f a0_0 a0_1 a0_2 l0_3 = some (r1, r2, b, r4) ∧ cn b = r3 ∧ b < 2 ^ 64 := by
  unfold spec_l3copy.f at h ⊢
  simp only [Option.bind_some] at h ⊢
  split at h
  · rename_i hc
    rw [if_pos hc]
    simp only [Option.some.injEq, Prod.mk.injEq] at h
    obtain ⟨rfl, rfl, rfl, rfl⟩ := h
    exact ⟨a0_2, rfl, rfl, hp⟩
  · cases h
theorem spec_l3copy.callsC (a0_0 : Int) (a0_1 : Int) (a0_2 : Nat) (A0_3 : Option Addr) (c0_3 : Nat) (l0_3 : List Int) (r1 : Int) (r2 : Int) (r3 : Nat) (r4 : List Int) (w : World) (hr0_3 : Kd.C (Kd.int .u8) w A0_3 l0_3.length l0_3) (hc0_3 : l0_3.length ≤ c0_3) (hp : a0_2 < 2 ^ 64) (h : spec_l3copy.f a0_0 a0_1 (cn a0_2) l0_3 = some (r1, r2, r3, r4)) :
    Calls Try.prog 46 #[.agg #[.int .i64 a0_0, .int .i64 a0_1, .float .f64 a0_2, .slice A0_3 l0_3.length c0_3]] w fun e w' => ∃ b1_ : Nat, ∃ v3_ : Value, e = .returned (.agg #[.int .i64 r1, .int .i64 r2, .float .f64 b1_, v3_]) ∧ Kd.R (Kd.int .u8) 5 w' w.heap.size (fun _ => True) v3_ r4 ∧ Below w.heap.size w w' ∧ Aside0 (cn b1_ = r3 ∧ b1_ < 2 ^ 64) := by
  obtain ⟨b, hb1, hb2, hb3⟩ := spec_l3copy.pass a0_0 a0_1 a0_2 l0_3 r1 r2 r3 r4 hp h
  refine (spec_l3copy.calls a0_0 a0_1 a0_2 A0_3 c0_3 l0_3 r1 r2 b r4 w hr0_3 hc0_3 hb1).mono ?_
  rintro e w1 ⟨v3_, p0, p1, p2⟩
  exact ⟨b, v3_, p0, p1, p2, ⟨⟨hb2, hb3⟩⟩⟩
def spec_ItemClean.f (k : Nat) (a0_0 : Int) (a0_1 : Int) (a0_2 : Nat) (l0_3 : List Int) : Option (Int × Int × Nat × List Int) := (spec_ItemOk.f k a0_0 a0_1 a0_2 l0_3).bind fun t197 => (if t197 = true then ((spec_l3copy.f a0_0 a0_1 a0_2 l0_3).bind fun bt198 => (if (feq a0_2 0) = true then (some (bt198.1, bt198.2.1, 0, bt198.2.2.2)) else (some (bt198.1, bt198.2.1, bt198.2.2.1, bt198.2.2.2)))) else (some (0, 0, 0, ([] : List Int))))
theorem spec_ItemClean.mono : ∀ a0 a1 a2 a3 k, LeO (spec_ItemClean.f k a0 a1 a2 a3) (spec_ItemClean.f (k + 1) a0 a1 a2 a3) := by
 intro a0 a1 a2 a3 k
 unfold spec_ItemClean.f
 repeat' with_reducible first | exact spec_ItemOk.mono _ _ _ _ _ | exact LeO.refl _ | exact LeO.none _ | refine LeO.ite ?_ ?_ | refine LeO.bind ?_ (fun _ => ?_)
set_option maxHeartbeats 8000000 in
set_option maxRecDepth 100000 in
theorem spec_ItemClean.calls (k : Nat) (a0_0 : Int) (a0_1 : Int) (a0_2 : Nat) (A0_3 : Option Addr) (c0_3 : Nat) (l0_3 : List Int) (r1 : Int) (r2 : Int) (r3 : Nat) (r4 : List Int) (w : World) (hr0_3 : Kd.C (Kd.int .u8) w A0_3 l0_3.length l0_3) (hc0_3 : l0_3.length ≤ c0_3) (h : spec_ItemClean.f k a0_0 a0_1 a0_2 l0_3 = some (r1, r2, r3, r4)) :
  Calls Try.prog 56 #[.agg #[.int .i64 a0_0, .int .i64 a0_1, .float .f64 a0_2, .slice A0_3 l0_3.length c0_3]] w fun e w' => ∃ v3_ : Value, e = .returned (.agg #[.int .i64 r1, .int .i64 r2, .float .f64 r3, v3_]) ∧ Kd.R (Kd.int .u8) 5 w' w.heap.size (fun _ => True) v3_ r4 ∧ Below w.heap.size w w' := by
 have hu28 := Try.underlying28
 have HR0_3 := Aside0.mk hr0_3
 have HC0_3 := Aside0.mk hc0_3
 clear hr0_3 hc0_3
 have HB := Aside0.mk (Below.refl w.heap.size w)
 have H := h
 clear h
 unfold spec_ItemClean.f at H
 replace H := Option.bind_eq_some_iff.mp H
 obtain ⟨t197, A20, H⟩ := H
 (try dsimp only at H)
 have A2 := Aside0.mk A20
 clear A20
 by_cases c3 : t197 = true
 ·subst c3
  rw [if_pos rfl] at H
  (try dsimp only at H)
  replace H := Option.bind_eq_some_iff.mp H
  obtain ⟨⟨t198, t199, t200, t201⟩, A40, H⟩ := H
  (try dsimp only at H)
  have A4 := Aside0.mk A40
  clear A40
  by_cases c5 : (feq a0_2 0) = true
  ·rw [if_pos c5] at H
   have c5b0 : (feq a0_2 0) = true := c5
   clear c5
   simp only [Option.some.injEq, Prod.mk.injEq] at H
   obtain ⟨rfl, rfl, rfl, rfl⟩ := H
   have TOP := Aside0.mk (Nat.le_refl w.heap.size)
   have OW := Aside0.mk (Nat.le_refl w.heap.size)
   go_enter Try.func56, Try.ntmps56
   try go_wp2_with (first | ((with_reducible refine gate_dst (N := 1) rfl ?_); refine box_event ?hg (N := 1) ?hd (cs := #[.int .i64 a0_0, .int .i64 a0_1, .float .f64 a0_2, .slice A0_3 l0_3.length c0_3]) (t := 28) ?hr ?_; (case hd => rfl); (case hg => rfl); (case hr => first | (go_simp; done) | (go_simp; rfl)); intro g3002 hg w3001 hbox hb; have OD3004 := Aside0.mk (show w.heap.size ≤ g3002 from by rw [hg]; exact TOP.out); have n0_ := Aside0.mk (below_step (hup HB.out) hb); have n1_ := Aside0.mk (show g3002 + 1 ≤ w3001.heap.size from blk_lt hbox); (try clear HB TOP); have HB := n0_; have TOP := n1_; clear n0_ n1_; have BK3003 := Aside0.mk (show w3001.heap[g3002]? = some (.cells #[.int .i64 a0_0, .int .i64 a0_1, .float .f64 a0_2, .slice A0_3 l0_3.length c0_3] 28 (0, 0)) from hbox); clear hg hb hbox; have OW_ := Aside0.mk (And.intro OW.out OD3004.out); clear OW OD3004; have OW := OW_; clear OW_; obtain ⟨hz3005, hz3006, hz3007, hz3008⟩ := blk_cells4 BK3003.out; obtain ⟨hy3009, hy3010, hy3011, hy3012⟩ := blk_frozens4 BK3003.out) | ((with_reducible refine gate_dst (N := 2) rfl ?_); refine box_event ?hg (N := 2) ?hd (cs := #[.int .i64 0, .int .i64 0, .float .f64 0, .slice none 0 0]) (t := 28) ?hr ?_; (case hd => rfl); (case hg => rfl); (case hr => first | (go_simp; done) | (go_simp; rfl)); intro g3014 hg w3013 hbox hb; have OD3016 := Aside0.mk (show g3002 + 1 ≤ g3014 from by rw [hg]; exact TOP.out); have n0_ := Aside0.mk (blk_below (bup BK3003.out) hb); have n1_ := Aside0.mk (below_step (hup HB.out) hb); have n2_ := Aside0.mk (show g3014 + 1 ≤ w3013.heap.size from blk_lt hbox); (try clear BK3003 HB TOP); have BK3003 := n0_; have HB := n1_; have TOP := n2_; clear n0_ n1_ n2_; have BK3015 := Aside0.mk (show w3013.heap[g3014]? = some (.cells #[.int .i64 0, .int .i64 0, .float .f64 0, .slice none 0 0] 28 (0, 0)) from hbox); clear hg hb hbox; have OW_ := Aside0.mk (And.intro OW.out OD3016.out); clear OW OD3016; have OW := OW_; clear OW_; (try clear hz3005 hz3006 hz3007 hz3008 hy3009 hy3010 hy3011 hy3012); obtain ⟨hz3017, hz3018, hz3019, hz3020⟩ := blk_cells4 BK3003.out; obtain ⟨hy3021, hy3022, hy3023, hy3024⟩ := blk_frozens4 BK3003.out; obtain ⟨hz3025, hz3026, hz3027, hz3028⟩ := blk_cells4 BK3015.out; obtain ⟨hy3029, hy3030, hy3031, hy3032⟩ := blk_frozens4 BK3015.out) | ((with_reducible refine gate_callee (f := 28) rfl ?_); refine goesL_ (some 5) rfl rfl Try.func28 (by kernel_rfl) rfl #[.agg #[.int .i64 a0_0, .int .i64 a0_1, .float .f64 a0_2, .slice A0_3 l0_3.length c0_3]] rfl (by (try simp only [List.map_toArray, List.map_cons, List.map_nil]); first | done | rfl | (simp only [List.length_drop, List.length_take]; rfl) | (rw [List.length_drop] <;> rfl)) ?_; (with_reducible refine (spec_ItemOk.calls k a0_0 a0_1 a0_2 _ _ l0_3 true _ ?s1 ?s2 A2.out).mono ?_); (case s1 => exact Kd.C_below HR0_3.out (hup HB.out)); (case s2 => exact HC0_3.out); rintro e w3033 ⟨rfl, hb⟩; refine ⟨_, rfl, ?_⟩; have n0_ := Aside0.mk (blk_below (bup BK3003.out) hb); have n1_ := Aside0.mk (blk_below (bup BK3015.out) hb); have n2_ := Aside0.mk (below_step (hup HB.out) hb); have n3_ := Aside0.mk (show g3014 + 1 ≤ w3033.heap.size from Nat.le_trans TOP.out hb.size); (try clear BK3003 BK3015 HB TOP); have BK3003 := n0_; have BK3015 := n1_; have HB := n2_; have TOP := n3_; clear n0_ n1_ n2_ n3_; clear hb; (try clear hz3017 hz3018 hz3019 hz3020 hy3021 hy3022 hy3023 hy3024 hz3025 hz3026 hz3027 hz3028 hy3029 hy3030 hy3031 hy3032); obtain ⟨hz3034, hz3035, hz3036, hz3037⟩ := blk_cells4 BK3003.out; obtain ⟨hy3038, hy3039, hy3040, hy3041⟩ := blk_frozens4 BK3003.out; obtain ⟨hz3042, hz3043, hz3044, hz3045⟩ := blk_cells4 BK3015.out; obtain ⟨hy3046, hy3047, hy3048, hy3049⟩ := blk_frozens4 BK3015.out) | ((with_reducible refine gate_callee (f := 46) rfl ?_); refine goesL_ (some 9) rfl rfl Try.func46 (by kernel_rfl) rfl #[.agg #[.int .i64 a0_0, .int .i64 a0_1, .float .f64 a0_2, .slice A0_3 l0_3.length c0_3]] rfl (by (try simp only [List.map_toArray, List.map_cons, List.map_nil]); first | done | rfl | (simp only [List.length_drop, List.length_take]; rfl) | (rw [List.length_drop] <;> rfl)) ?_; (with_reducible refine (spec_l3copy.calls a0_0 a0_1 a0_2 _ _ l0_3 t198 t199 t200 t201 _ ?s1 ?s2 A4.out).mono ?_); (case s1 => exact Kd.C_below HR0_3.out (hup HB.out)); (case s2 => exact HC0_3.out); rintro e w3050 ⟨v3_, rfl, ho3051, hb⟩; refine ⟨_, rfl, ?_⟩; obtain ⟨lo3052, hi3053, OD3054_, OD3055_, tp_, F3056_⟩ := Kd.R_born (base := w.heap.size) ho3051 (below_size (hup HB.out)) TOP.out hb.size; clear ho3051; have OD3054 := Aside0.mk OD3054_; have OD3055 := Aside0.mk OD3055_; clear OD3054_ OD3055_; have F3056 := Aside0.mk F3056_; clear F3056_; have n0_ := Aside0.mk (blk_below (bup BK3003.out) hb); have n1_ := Aside0.mk (blk_below (bup BK3015.out) hb); have n2_ := Aside0.mk (below_step (hup HB.out) hb); have n3_ := Aside0.mk (show hi3053 ≤ w3050.heap.size from tp_); (try clear BK3003 BK3015 HB TOP); have BK3003 := n0_; have BK3015 := n1_; have HB := n2_; have TOP := n3_; clear n0_ n1_ n2_ n3_; clear hb tp_; have OW_ := Aside0.mk (And.intro OW.out (And.intro OD3054.out OD3055.out)); clear OW OD3054 OD3055; have OW := OW_; clear OW_; obtain ⟨Ao3057, co3058, eo3059⟩ := Kd.R_slice F3056.out; subst eo3059; (try clear hz3034 hz3035 hz3036 hz3037 hy3038 hy3039 hy3040 hy3041 hz3042 hz3043 hz3044 hz3045 hy3046 hy3047 hy3048 hy3049); obtain ⟨hz3060, hz3061, hz3062, hz3063⟩ := blk_cells4 BK3003.out; obtain ⟨hy3064, hy3065, hy3066, hy3067⟩ := blk_frozens4 BK3003.out; obtain ⟨hz3068, hz3069, hz3070, hz3071⟩ := blk_cells4 BK3015.out; obtain ⟨hy3072, hy3073, hy3074, hy3075⟩ := blk_frozens4 BK3015.out) | ((with_reducible refine gate_dst (N := 3) rfl ?_); refine box_event ?hg (N := 3) ?hd (cs := #[.int .i64 0, .int .i64 0, .float .f64 0, .slice none 0 0]) (t := 28) ?hr ?_; (case hd => rfl); (case hg => rfl); (case hr => first | (go_simp; done) | (go_simp; rfl)); intro g3077 hg w3076 hbox hb; have OD3079 := Aside0.mk (show hi3053 ≤ g3077 from by rw [hg]; exact TOP.out); have n0_ := Aside0.mk (blk_below (bup BK3003.out) hb); have n1_ := Aside0.mk (blk_below (bup BK3015.out) hb); have n2_ := Aside0.mk (Kd.R_below (Kd.rup F3056.out) hb); have n3_ := Aside0.mk (below_step (hup HB.out) hb); have n4_ := Aside0.mk (show g3077 + 1 ≤ w3076.heap.size from blk_lt hbox); (try clear BK3003 BK3015 F3056 HB TOP); have BK3003 := n0_; have BK3015 := n1_; have F3056 := n2_; have HB := n3_; have TOP := n4_; clear n0_ n1_ n2_ n3_ n4_; have BK3078 := Aside0.mk (show w3076.heap[g3077]? = some (.cells #[.int .i64 0, .int .i64 0, .float .f64 0, .slice none 0 0] 28 (0, 0)) from hbox); clear hg hb hbox; have OW_ := Aside0.mk (And.intro OW.out OD3079.out); clear OW OD3079; have OW := OW_; clear OW_; (try clear hz3060 hz3061 hz3062 hz3063 hy3064 hy3065 hy3066 hy3067 hz3068 hz3069 hz3070 hz3071 hy3072 hy3073 hy3074 hy3075); obtain ⟨hz3080, hz3081, hz3082, hz3083⟩ := blk_cells4 BK3003.out; obtain ⟨hy3084, hy3085, hy3086, hy3087⟩ := blk_frozens4 BK3003.out; obtain ⟨hz3088, hz3089, hz3090, hz3091⟩ := blk_cells4 BK3015.out; obtain ⟨hy3092, hy3093, hy3094, hy3095⟩ := blk_frozens4 BK3015.out; obtain ⟨hz3096, hz3097, hz3098, hz3099⟩ := blk_cells4 BK3078.out; obtain ⟨hy3100, hy3101, hy3102, hy3103⟩ := blk_frozens4 BK3078.out) | ((with_reducible refine gate_store (t := 28) (p := 3) rfl ?_); refine store_event (t := 28) (p := 3) (v := ?vo3105) (w1 := ((((w3076.setCell ⟨g3077, 0, none⟩ (.int .i64 t198)).setCell ⟨g3077, 1, none⟩ (.int .i64 t199)).setCell ⟨g3077, 2, none⟩ (.float .f64 t200)).setCell ⟨g3077, 3, none⟩ (.slice Ao3057 t201.length co3058))) ?hg ?ho ?hn ?hr ?_; (case ho => rfl); (case hg => rfl); (case hn => rfl); (case hr => first | (go_simp; done) | (go_simp; rfl)); intro w3104 hw; have n0_ := Aside0.mk (show w3104.heap[g3002]? = some (.cells #[.int .i64 a0_0, .int .i64 a0_1, .float .f64 a0_2, .slice A0_3 l0_3.length c0_3] 28 (0, 0)) from by rw [hw]; have ne_ : g3002 ≠ g3077 := (by have q_ := OW.out; omega); exact blk_far (blk_far (blk_far (blk_far (BK3003.out) ne_ _) ne_ _) ne_ _) ne_ _); have n1_ := Aside0.mk (show w3104.heap[g3014]? = some (.cells #[.int .i64 0, .int .i64 0, .float .f64 0, .slice none 0 0] 28 (0, 0)) from by rw [hw]; have ne_ : g3014 ≠ g3077 := (by have q_ := OW.out; omega); exact blk_far (blk_far (blk_far (blk_far (BK3015.out) ne_ _) ne_ _) ne_ _) ne_ _); have n2_ := Aside0.mk (show w3104.heap[g3077]? = some (.cells #[.int .i64 t198, .int .i64 t199, .float .f64 t200, .slice Ao3057 t201.length co3058] 28 (0, 0)) from by rw [hw]; exact blk_put (cs := #[.int .i64 t198, .int .i64 t199, .float .f64 t200, .slice none 0 0]) (blk_put (cs := #[.int .i64 t198, .int .i64 t199, .float .f64 0, .slice none 0 0]) (blk_put (cs := #[.int .i64 t198, .int .i64 0, .float .f64 0, .slice none 0 0]) (blk_put (cs := #[.int .i64 0, .int .i64 0, .float .f64 0, .slice none 0 0]) (BK3078.out) 0 _ rfl) 1 _ rfl) 2 _ rfl) 3 _ rfl); have n3_ := Aside0.mk (show Kd.R (Kd.int .u8) 5 w3104 w.heap.size (iv lo3052 hi3053) (.slice Ao3057 t201.length co3058) t201 from by rw [hw]; have ne_ : g3077 < lo3052 ∨ hi3053 ≤ g3077 := (by have q_ := OW.out; omega); exact Kd.R_ivset (Kd.R_ivset (Kd.R_ivset (Kd.R_ivset (F3056.out) ne_ 0 _) ne_ 1 _) ne_ 2 _) ne_ 3 _); have n4_ := Aside0.mk (show Below w.heap.size w w3104 from by rw [hw]; have ge_ : w.heap.size ≤ g3077 := (by have q_ := OW.out; omega); exact below_set (below_set (below_set (below_set (HB.out) ge_) ge_) ge_) ge_); have n5_ := Aside0.mk (show g3077 + 1 ≤ w3104.heap.size from by rw [hw]; simp only [size_set]; exact TOP.out); (try clear BK3003 BK3015 BK3078 F3056 HB TOP); have BK3003 := n0_; have BK3015 := n1_; have BK3078 := n2_; have F3056 := n3_; have HB := n4_; have TOP := n5_; clear n0_ n1_ n2_ n3_ n4_ n5_; clear hw; (try clear hz3080 hz3081 hz3082 hz3083 hy3084 hy3085 hy3086 hy3087 hz3088 hz3089 hz3090 hz3091 hy3092 hy3093 hy3094 hy3095 hz3096 hz3097 hz3098 hz3099 hy3100 hy3101 hy3102 hy3103); obtain ⟨hz3106, hz3107, hz3108, hz3109⟩ := blk_cells4 BK3003.out; obtain ⟨hy3110, hy3111, hy3112, hy3113⟩ := blk_frozens4 BK3003.out; obtain ⟨hz3114, hz3115, hz3116, hz3117⟩ := blk_cells4 BK3015.out; obtain ⟨hy3118, hy3119, hy3120, hy3121⟩ := blk_frozens4 BK3015.out; obtain ⟨hz3122, hz3123, hz3124, hz3125⟩ := blk_cells4 BK3078.out; obtain ⟨hy3126, hy3127, hy3128, hy3129⟩ := blk_frozens4 BK3078.out) | ((with_reducible refine gate_store (t := 22) (p := 13) rfl ?_); refine store_event (t := 22) (p := 13) (v := ?vo3131) (w1 := (w3104.setCell ⟨g3077, 2, none⟩ (.float .f64 0))) ?hg ?ho ?hn ?hr ?_; (case ho => rfl); (case hg => rfl); (case hn => rfl); (case hr => first | (go_simp; done) | (go_simp; rfl)); intro w3130 hw; have n0_ := Aside0.mk (show w3130.heap[g3002]? = some (.cells #[.int .i64 a0_0, .int .i64 a0_1, .float .f64 a0_2, .slice A0_3 l0_3.length c0_3] 28 (0, 0)) from by rw [hw]; have ne_ : g3002 ≠ g3077 := (by have q_ := OW.out; omega); exact blk_far (BK3003.out) ne_ _); have n1_ := Aside0.mk (show w3130.heap[g3014]? = some (.cells #[.int .i64 0, .int .i64 0, .float .f64 0, .slice none 0 0] 28 (0, 0)) from by rw [hw]; have ne_ : g3014 ≠ g3077 := (by have q_ := OW.out; omega); exact blk_far (BK3015.out) ne_ _); have n2_ := Aside0.mk (show w3130.heap[g3077]? = some (.cells #[.int .i64 t198, .int .i64 t199, .float .f64 0, .slice Ao3057 t201.length co3058] 28 (0, 0)) from by rw [hw]; exact blk_put (cs := #[.int .i64 t198, .int .i64 t199, .float .f64 t200, .slice Ao3057 t201.length co3058]) (BK3078.out) 2 _ rfl); have n3_ := Aside0.mk (show Kd.R (Kd.int .u8) 5 w3130 w.heap.size (iv lo3052 hi3053) (.slice Ao3057 t201.length co3058) t201 from by rw [hw]; have ne_ : g3077 < lo3052 ∨ hi3053 ≤ g3077 := (by have q_ := OW.out; omega); exact Kd.R_ivset (F3056.out) ne_ 2 _); have n4_ := Aside0.mk (show Below w.heap.size w w3130 from by rw [hw]; have ge_ : w.heap.size ≤ g3077 := (by have q_ := OW.out; omega); exact below_set (HB.out) ge_); have n5_ := Aside0.mk (show g3077 + 1 ≤ w3130.heap.size from by rw [hw]; simp only [size_set]; exact TOP.out); (try clear BK3003 BK3015 BK3078 F3056 HB TOP); have BK3003 := n0_; have BK3015 := n1_; have BK3078 := n2_; have F3056 := n3_; have HB := n4_; have TOP := n5_; clear n0_ n1_ n2_ n3_ n4_ n5_; clear hw; (try clear hz3106 hz3107 hz3108 hz3109 hy3110 hy3111 hy3112 hy3113 hz3114 hz3115 hz3116 hz3117 hy3118 hy3119 hy3120 hy3121 hz3122 hz3123 hz3124 hz3125 hy3126 hy3127 hy3128 hy3129); obtain ⟨hz3132, hz3133, hz3134, hz3135⟩ := blk_cells4 BK3015.out; obtain ⟨hy3136, hy3137, hy3138, hy3139⟩ := blk_frozens4 BK3015.out; obtain ⟨hz3140, hz3141, hz3142, hz3143⟩ := blk_cells4 BK3078.out; obtain ⟨hy3144, hy3145, hy3146, hy3147⟩ := blk_frozens4 BK3078.out) | ((with_reducible refine gate_store (t := 28) (p := 2) rfl ?_); refine store_event (t := 28) (p := 2) (v := ?vo3149) (w1 := ((((w3130.setCell ⟨g3014, 0, none⟩ (.int .i64 t198)).setCell ⟨g3014, 1, none⟩ (.int .i64 t199)).setCell ⟨g3014, 2, none⟩ (.float .f64 0)).setCell ⟨g3014, 3, none⟩ (.slice Ao3057 t201.length co3058))) ?hg ?ho ?hn ?hr ?_; (case ho => rfl); (case hg => rfl); (case hn => rfl); (case hr => first | (go_simp; done) | (go_simp; rfl)); intro w3148 hw; have n0_ := Aside0.mk (show w3148.heap[g3002]? = some (.cells #[.int .i64 a0_0, .int .i64 a0_1, .float .f64 a0_2, .slice A0_3 l0_3.length c0_3] 28 (0, 0)) from by rw [hw]; have ne_ : g3002 ≠ g3014 := (by have q_ := OW.out; omega); exact blk_far (blk_far (blk_far (blk_far (BK3003.out) ne_ _) ne_ _) ne_ _) ne_ _); have n1_ := Aside0.mk (show w3148.heap[g3014]? = some (.cells #[.int .i64 t198, .int .i64 t199, .float .f64 0, .slice Ao3057 t201.length co3058] 28 (0, 0)) from by rw [hw]; exact blk_put (cs := #[.int .i64 t198, .int .i64 t199, .float .f64 0, .slice none 0 0]) (blk_put (cs := #[.int .i64 t198, .int .i64 t199, .float .f64 0, .slice none 0 0]) (blk_put (cs := #[.int .i64 t198, .int .i64 0, .float .f64 0, .slice none 0 0]) (blk_put (cs := #[.int .i64 0, .int .i64 0, .float .f64 0, .slice none 0 0]) (BK3015.out) 0 _ rfl) 1 _ rfl) 2 _ rfl) 3 _ rfl); have n2_ := Aside0.mk (show w3148.heap[g3077]? = some (.cells #[.int .i64 t198, .int .i64 t199, .float .f64 0, .slice Ao3057 t201.length co3058] 28 (0, 0)) from by rw [hw]; have ne_ : g3077 ≠ g3014 := (by have q_ := OW.out; omega); exact blk_far (blk_far (blk_far (blk_far (BK3078.out) ne_ _) ne_ _) ne_ _) ne_ _); have n3_ := Aside0.mk (show Kd.R (Kd.int .u8) 5 w3148 w.heap.size (iv lo3052 hi3053) (.slice Ao3057 t201.length co3058) t201 from by rw [hw]; have ne_ : g3014 < lo3052 ∨ hi3053 ≤ g3014 := (by have q_ := OW.out; omega); exact Kd.R_ivset (Kd.R_ivset (Kd.R_ivset (Kd.R_ivset (F3056.out) ne_ 0 _) ne_ 1 _) ne_ 2 _) ne_ 3 _); have n4_ := Aside0.mk (show Below w.heap.size w w3148 from by rw [hw]; have ge_ : w.heap.size ≤ g3014 := (by have q_ := OW.out; omega); exact below_set (below_set (below_set (below_set (HB.out) ge_) ge_) ge_) ge_); have n5_ := Aside0.mk (show g3077 + 1 ≤ w3148.heap.size from by rw [hw]; simp only [size_set]; exact TOP.out); (try clear BK3003 BK3015 BK3078 F3056 HB TOP); have BK3003 := n0_; have BK3015 := n1_; have BK3078 := n2_; have F3056 := n3_; have HB := n4_; have TOP := n5_; clear n0_ n1_ n2_ n3_ n4_ n5_; clear hw; (try clear hz3132 hz3133 hz3134 hz3135 hy3136 hy3137 hy3138 hy3139 hz3140 hz3141 hz3142 hz3143 hy3144 hy3145 hy3146 hy3147)))
   refine bodyPost_ret (results_cell_row rfl _ _ g3014 28 #[.int .i64 t198, .int .i64 t199, .float .f64 0, .slice Ao3057 t201.length co3058] (0, 0) _ rfl (by exact BK3015.out) Try.underlying28 rfl (by kernel_rfl)) rfl ?_
   exact ⟨_, by first | rfl | (simp; done) | (simp [*]; done), Kd.R_mono F3056.out (fun _ hk => trivial), HB.out⟩
  ·rw [if_neg c5] at H
   have c5b0 : (feq a0_2 0) = false := by simpa using c5
   clear c5
   simp only [Option.some.injEq, Prod.mk.injEq] at H
   obtain ⟨rfl, rfl, rfl, rfl⟩ := H
   go_enter Try.func56, Try.ntmps56
   go_wp2_with (first | ((with_reducible refine gate_dst (N := 1) rfl ?_); refine box_event ?hg (N := 1) ?hd (cs := #[.int .i64 a0_0, .int .i64 a0_1, .float .f64 a0_2, .slice A0_3 l0_3.length c0_3]) (t := 28) ?hr ?_; (case hd => rfl); (case hg => rfl); (case hr => first | (go_simp; done) | (go_simp; rfl)); intro gb195 hg w20 hbox hb; have n0_ := Aside0.mk (below_step (hup HB.out) hb); have n1_ := Aside0.mk (hbox); have n2_ := Geq.mk ((by rw [hg]; exact (below_size (hup HB.out)) : w.heap.size ≤ gb195)); have n3_ := Geq.mk ((by rw [hg]; exact (below_size (hup HB.out)) : w.heap.size ≤ gb195)); clear HB; have HB := n0_; have BK195 := n1_; have GW195 := n2_; have GE195 := n3_; clear n0_ n1_ n2_ n3_; clear hb hbox hg) | ((with_reducible refine gate_dst (N := 2) rfl ?_); refine box_event ?hg (N := 2) ?hd (cs := #[.int .i64 0, .int .i64 0, .float .f64 0, .slice none 0 0]) (t := 28) ?hr ?_; (case hd => rfl); (case hg => rfl); (case hr => first | (go_simp; done) | (go_simp; rfl)); intro gb196 hg w21 hbox hb; have n0_ := Aside0.mk (blk_below (bup BK195.out) hb); have n1_ := Aside0.mk (below_step (hset HB.out) hb); have n2_ := Aside0.mk (hbox); have n3_ := Geq.mk ((by rw [hg]; exact (below_size (hset HB.out)) : w.heap.size ≤ gb196)); have n4_ := Geq.mk ((by rw [hg]; exact (below_size (hset HB.out)) : w.heap.size ≤ gb196)); have n5_ := Neq.mk ((by rw [hg]; exact Nat.ne_of_lt (blk_lt (g := gb195) (o := .cells #[.int .i64 a0_0, .int .i64 a0_1, .float .f64 a0_2, .slice A0_3 l0_3.length c0_3] 28 (0, 0)) (bup BK195.out)) : gb195 ≠ gb196)); have n6_ := Neq.mk ((by rw [hg]; exact Nat.ne_of_gt (blk_lt (g := gb195) (o := .cells #[.int .i64 a0_0, .int .i64 a0_1, .float .f64 a0_2, .slice A0_3 l0_3.length c0_3] 28 (0, 0)) (bup BK195.out)) : gb196 ≠ gb195)); clear BK195; clear HB; have BK195 := n0_; have HB := n1_; have BK196 := n2_; have GW196 := n3_; have GE196 := n4_; have NB195_196 := n5_; have NB196_195 := n6_; clear n0_ n1_ n2_ n3_ n4_ n5_ n6_; clear hb hbox hg; have hnb22 := NB195_196.out; have hnc22 := NB196_195.out; obtain ⟨hcz23_0, hcz23_1, hcz23_2, hcz23_3⟩ := blk_cells4 BK195.out; obtain ⟨hfz23_0, hfz23_1, hfz23_2, hfz23_3⟩ := blk_frozens4 BK195.out) | ((with_reducible refine gate_callee (f := 28) rfl ?_); refine goesL_ (some 5) rfl rfl Try.func28 (by kernel_rfl) rfl #[.agg #[.int .i64 a0_0, .int .i64 a0_1, .float .f64 a0_2, .slice A0_3 l0_3.length c0_3]] rfl (by (try simp only [List.map_toArray, List.map_cons, List.map_nil]); first | done | rfl) ?_; (with_reducible refine (spec_ItemOk.calls k a0_0 a0_1 a0_2 _ _ l0_3 true _ ?side1 ?side2 A2.out).mono ?_); (case side1 => repeat (first | exact (Kd.C_below HR0_3.out HB.out) | (with_reducible refine Kd.C_alloc ?_ _) | (with_reducible refine Kd.C_drewN ?_ _) | (with_reducible refine Kd.C_drew ?_))); (case side2 => exact HC0_3.out); rintro e w24 ⟨rfl, hb⟩; refine ⟨_, rfl, ?_⟩; have n0_ := Aside0.mk (blk_below (bup BK195.out) hb); have n1_ := Aside0.mk (blk_below (bup BK196.out) hb); have n2_ := Aside0.mk (below_step (hset HB.out) hb); clear BK195; clear BK196; clear HB; have BK195 := n0_; have BK196 := n1_; have HB := n2_; clear n0_ n1_ n2_; (try clear hb); (try clear hb2); (try clear hk); (try clear hi); obtain ⟨hcz25_0, hcz25_1, hcz25_2, hcz25_3⟩ := blk_cells4 BK195.out; obtain ⟨hfz25_0, hfz25_1, hfz25_2, hfz25_3⟩ := blk_frozens4 BK195.out) | ((with_reducible refine gate_callee (f := 46) rfl ?_); refine goesL_ (some 9) rfl rfl Try.func46 (by kernel_rfl) rfl #[.agg #[.int .i64 a0_0, .int .i64 a0_1, .float .f64 a0_2, .slice A0_3 l0_3.length c0_3]] rfl (by (try simp only [List.map_toArray, List.map_cons, List.map_nil]); first | done | rfl) ?_; (with_reducible refine (spec_l3copy.calls a0_0 a0_1 a0_2 _ _ l0_3 t198 t199 t200 t201 _ ?side1 ?side2 A4.out).mono ?_); (case side1 => repeat (first | exact (Kd.C_below HR0_3.out HB.out) | (with_reducible refine Kd.C_alloc ?_ _) | (with_reducible refine Kd.C_drewN ?_ _) | (with_reducible refine Kd.C_drew ?_))); (case side2 => exact HC0_3.out); rintro e w26 ⟨v202, rfl, ho0, hb⟩; refine ⟨_, rfl, ?_⟩; have n0_ := Aside0.mk (Kd.R_lower ho0 (below_size (hset HB.out))); have n1_ := Aside0.mk (blk_below (bup BK195.out) hb); have n2_ := Aside0.mk (blk_below (bup BK196.out) hb); have n3_ := Aside0.mk (below_step (hset HB.out) hb); clear BK195; clear BK196; clear HB; have HO203 := n0_; have BK195 := n1_; have BK196 := n2_; have HB := n3_; clear n0_ n1_ n2_ n3_; (try clear hb); (try clear hb2); (try clear hk); (try clear hi); (try clear ho0)) | ((with_reducible refine gate_dst (N := 3) rfl ?_); refine box_event ?hg (N := 3) ?hd (cs := #[.int .i64 0, .int .i64 0, .float .f64 0, .slice none 0 0]) (t := 28) ?hr ?_; (case hd => rfl); (case hg => rfl); (case hr => first | (go_simp; done) | (go_simp; rfl)); intro gb204 hg w27 hbox hb; have n0_ := Aside0.mk (Kd.R_below (Kd.rup HO203.out) hb); have n1_ := Aside0.mk (blk_below (bup BK195.out) hb); have n2_ := Aside0.mk (blk_below (bup BK196.out) hb); have n3_ := Aside0.mk (below_step (hset HB.out) hb); have n4_ := Aside0.mk (hbox); have n5_ := Geq.mk ((by rw [hg]; exact (below_size (hset HB.out)) : w.heap.size ≤ gb204)); have n6_ := Geq.mk ((by rw [hg]; exact (below_size (hset HB.out)) : w.heap.size ≤ gb204)); have n7_ := Neq.mk ((by rw [hg]; exact Nat.ne_of_lt (blk_lt (g := gb195) (o := .cells #[.int .i64 a0_0, .int .i64 a0_1, .float .f64 a0_2, .slice A0_3 l0_3.length c0_3] 28 (0, 0)) (bup BK195.out)) : gb195 ≠ gb204)); have n8_ := Neq.mk ((by rw [hg]; exact Nat.ne_of_gt (blk_lt (g := gb195) (o := .cells #[.int .i64 a0_0, .int .i64 a0_1, .float .f64 a0_2, .slice A0_3 l0_3.length c0_3] 28 (0, 0)) (bup BK195.out)) : gb204 ≠ gb195)); have n9_ := Neq.mk ((by rw [hg]; exact Nat.ne_of_lt (blk_lt (g := gb196) (o := .cells #[.int .i64 0, .int .i64 0, .float .f64 0, .slice none 0 0] 28 (0, 0)) (bup BK196.out)) : gb196 ≠ gb204)); have n10_ := Neq.mk ((by rw [hg]; exact Nat.ne_of_gt (blk_lt (g := gb196) (o := .cells #[.int .i64 0, .int .i64 0, .float .f64 0, .slice none 0 0] 28 (0, 0)) (bup BK196.out)) : gb204 ≠ gb196)); clear HO203; clear BK195; clear BK196; clear HB; have HO203 := n0_; have BK195 := n1_; have BK196 := n2_; have HB := n3_; have BK204 := n4_; have GW204 := n5_; have GE204 := n6_; have NB195_204 := n7_; have NB204_195 := n8_; have NB196_204 := n9_; have NB204_196 := n10_; clear n0_ n1_ n2_ n3_ n4_ n5_ n6_ n7_ n8_ n9_ n10_; clear hb hbox hg; have hnb28 := NB204_195.out; have hnc28 := NB195_204.out; have hnb29 := NB204_196.out; have hnc29 := NB196_204.out; obtain ⟨hcz30_0, hcz30_1, hcz30_2, hcz30_3⟩ := blk_cells4 BK204.out; obtain ⟨hfz30_0, hfz30_1, hfz30_2, hfz30_3⟩ := blk_frozens4 BK204.out; obtain ⟨Ao31, co31, eo31⟩ := Kd.R_slice HO203.out; subst eo31; obtain ⟨hcz32_0, hcz32_1, hcz32_2, hcz32_3⟩ := blk_cells4 BK195.out; obtain ⟨hfz32_0, hfz32_1, hfz32_2, hfz32_3⟩ := blk_frozens4 BK195.out; obtain ⟨hcz33_0, hcz33_1, hcz33_2, hcz33_3⟩ := blk_cells4 BK196.out; obtain ⟨hfz33_0, hfz33_1, hfz33_2, hfz33_3⟩ := blk_frozens4 BK196.out))
   refine bodyPost_ret (results_cell_row rfl _ _ gb196 28 #[.int .i64 t198, .int .i64 t199, .float .f64 t200, .slice Ao31 t201.length co31] (0, 0) _ rfl (bput BK196.out) Try.underlying28 rfl (by kernel_rfl)) rfl ?_
   exact ⟨_, by first | rfl | (simp [errW_none, errW_some] <;> rfl) | (simp [*, errW_none, errW_some] <;> rfl), by exact Kd.rup (Kd.R_mono (Kd.R_far (p := ⟨gb196, 3, none⟩) (Kd.R_far (p := ⟨gb196, 2, none⟩) (Kd.R_far (p := ⟨gb196, 1, none⟩) (Kd.R_far (p := ⟨gb196, 0, none⟩) (Kd.R_far (p := ⟨gb204, 3, none⟩) (Kd.R_far (p := ⟨gb204, 2, none⟩) (Kd.R_far (p := ⟨gb204, 1, none⟩) (Kd.R_far (p := ⟨gb204, 0, none⟩) (Kd.R_types (Kd.R_types HO203.out BK204.out (by decide)) BK196.out (by decide)) (fun _ hk => hk.1.2) (.int .i64 t198)) (fun _ hk => hk.1.2) (.int .i64 t199)) (fun _ hk => hk.1.2) (.float .f64 t200)) (fun _ hk => hk.1.2) (.slice Ao31 t201.length co31)) (fun _ hk => hk.2) (.int .i64 t198)) (fun _ hk => hk.2) (.int .i64 t199)) (fun _ hk => hk.2) (.float .f64 t200)) (fun _ hk => hk.2) (.slice Ao31 t201.length co31)) (fun _ hk => trivial)), hset HB.out⟩
 ·replace c3 := Bool.eq_false_iff.mpr c3
  subst c3
  rw [if_neg (show ¬ (false = true) by decide)] at H
  (try dsimp only at H)
  simp only [Option.some.injEq, Prod.mk.injEq] at H
  obtain ⟨rfl, rfl, rfl, rfl⟩ := H
  go_enter Try.func56, Try.ntmps56
  go_wp2_with (first | ((with_reducible refine gate_dst (N := 1) rfl ?_); refine box_event ?hg (N := 1) ?hd (cs := #[.int .i64 a0_0, .int .i64 a0_1, .float .f64 a0_2, .slice A0_3 l0_3.length c0_3]) (t := 28) ?hr ?_; (case hd => rfl); (case hg => rfl); (case hr => first | (go_simp; done) | (go_simp; rfl)); intro gb195 hg w34 hbox hb; have n0_ := Aside0.mk (below_step (hup HB.out) hb); have n1_ := Aside0.mk (hbox); have n2_ := Geq.mk ((by rw [hg]; exact (below_size (hup HB.out)) : w.heap.size ≤ gb195)); have n3_ := Geq.mk ((by rw [hg]; exact (below_size (hup HB.out)) : w.heap.size ≤ gb195)); clear HB; have HB := n0_; have BK195 := n1_; have GW195 := n2_; have GE195 := n3_; clear n0_ n1_ n2_ n3_; clear hb hbox hg) | ((with_reducible refine gate_dst (N := 2) rfl ?_); refine box_event ?hg (N := 2) ?hd (cs := #[.int .i64 0, .int .i64 0, .float .f64 0, .slice none 0 0]) (t := 28) ?hr ?_; (case hd => rfl); (case hg => rfl); (case hr => first | (go_simp; done) | (go_simp; rfl)); intro gb196 hg w35 hbox hb; have n0_ := Aside0.mk (blk_below (bup BK195.out) hb); have n1_ := Aside0.mk (below_step (hset HB.out) hb); have n2_ := Aside0.mk (hbox); have n3_ := Geq.mk ((by rw [hg]; exact (below_size (hset HB.out)) : w.heap.size ≤ gb196)); have n4_ := Geq.mk ((by rw [hg]; exact (below_size (hset HB.out)) : w.heap.size ≤ gb196)); have n5_ := Neq.mk ((by rw [hg]; exact Nat.ne_of_lt (blk_lt (g := gb195) (o := .cells #[.int .i64 a0_0, .int .i64 a0_1, .float .f64 a0_2, .slice A0_3 l0_3.length c0_3] 28 (0, 0)) (bup BK195.out)) : gb195 ≠ gb196)); have n6_ := Neq.mk ((by rw [hg]; exact Nat.ne_of_gt (blk_lt (g := gb195) (o := .cells #[.int .i64 a0_0, .int .i64 a0_1, .float .f64 a0_2, .slice A0_3 l0_3.length c0_3] 28 (0, 0)) (bup BK195.out)) : gb196 ≠ gb195)); clear BK195; clear HB; have BK195 := n0_; have HB := n1_; have BK196 := n2_; have GW196 := n3_; have GE196 := n4_; have NB195_196 := n5_; have NB196_195 := n6_; clear n0_ n1_ n2_ n3_ n4_ n5_ n6_; clear hb hbox hg; have hnb36 := NB195_196.out; have hnc36 := NB196_195.out; obtain ⟨hcz37_0, hcz37_1, hcz37_2, hcz37_3⟩ := blk_cells4 BK195.out; obtain ⟨hfz37_0, hfz37_1, hfz37_2, hfz37_3⟩ := blk_frozens4 BK195.out) | ((with_reducible refine gate_callee (f := 28) rfl ?_); refine goesL_ (some 5) rfl rfl Try.func28 (by kernel_rfl) rfl #[.agg #[.int .i64 a0_0, .int .i64 a0_1, .float .f64 a0_2, .slice A0_3 l0_3.length c0_3]] rfl (by (try simp only [List.map_toArray, List.map_cons, List.map_nil]); first | done | rfl) ?_; (with_reducible refine (spec_ItemOk.calls k a0_0 a0_1 a0_2 _ _ l0_3 false _ ?side1 ?side2 A2.out).mono ?_); (case side1 => repeat (first | exact (Kd.C_below HR0_3.out HB.out) | (with_reducible refine Kd.C_alloc ?_ _) | (with_reducible refine Kd.C_drewN ?_ _) | (with_reducible refine Kd.C_drew ?_))); (case side2 => exact HC0_3.out); rintro e w38 ⟨rfl, hb⟩; refine ⟨_, rfl, ?_⟩; have n0_ := Aside0.mk (blk_below (bup BK195.out) hb); have n1_ := Aside0.mk (blk_below (bup BK196.out) hb); have n2_ := Aside0.mk (below_step (hset HB.out) hb); clear BK195; clear BK196; clear HB; have BK195 := n0_; have BK196 := n1_; have HB := n2_; clear n0_ n1_ n2_; (try clear hb); (try clear hb2); (try clear hk); (try clear hi); obtain ⟨hcz39_0, hcz39_1, hcz39_2, hcz39_3⟩ := blk_cells4 BK196.out; obtain ⟨hfz39_0, hfz39_1, hfz39_2, hfz39_3⟩ := blk_frozens4 BK196.out))
  refine bodyPost_ret (results_cell_row rfl _ _ gb196 28 #[.int .i64 0, .int .i64 0, .float .f64 0, .slice none 0 0] (0, 0) _ rfl (bput BK196.out) Try.underlying28 rfl (by kernel_rfl)) rfl ?_
  exact ⟨_, by first | rfl | (simp [errW_none, errW_some] <;> rfl) | (simp [*, errW_none, errW_some] <;> rfl), by first | exact Kd.R_nil _ _ _ _ _ | exact Kd.N_nil _ _ _ _ _ | exact Kd.V_nil _ _ _ _ _ | exact Kd.Q_nil _ _ _ _ _ | exact Kd.S_nil _ _ _ _ _, hset HB.out⟩
theorem spec_ItemClean.pass (k : Nat) (a0_0 : Int) (a0_1 : Int) (a0_2 : Nat) (l0_3 : List Int) (r1 : Int) (r2 : Int) (r3 : Nat) (r4 : List Int) (hp : a0_2 < 2 ^ 64) (h : spec_ItemClean.f k a0_0 a0_1 (cn a0_2) l0_3 = some (r1, r2, r3, r4)) : ∃ b, spec_ItemClean.f k a0_0 a0_1 a0_2 l0_3 = some (r1, r2, b, r4) ∧ cn b = r3 ∧ b < 2 ^ 64 := by
  have z_ : cn 0 = 0 := cn_num (fun h => absurd h.2 (by decide))
  unfold spec_ItemClean.f at h ⊢
  obtain ⟨t, ht, h⟩ := Option.bind_eq_some_iff.mp h
  rw [spec_ItemOk.inv0] at ht
  rw [ht, Option.bind_some]
  by_cases c : t = true
  · rw [if_pos c] at h ⊢
    obtain ⟨⟨q1, q2, q3, q4⟩, hq, h⟩ := Option.bind_eq_some_iff.mp h
    obtain ⟨b, e1, e2, e3⟩ := spec_l3copy.pass a0_0 a0_1 a0_2 l0_3 q1 q2 q3 q4 hp hq
    rw [e1, Option.bind_some]
    rw [feq_cn_l] at h
    by_cases c2 : feq a0_2 0 = true
    · rw [if_pos c2] at h ⊢
      simp only [Option.some.injEq, Prod.mk.injEq] at h
      obtain ⟨rfl, rfl, rfl, rfl⟩ := h
      exact ⟨0, rfl, z_, by decide⟩
    · rw [if_neg c2] at h ⊢
      simp only [Option.some.injEq, Prod.mk.injEq] at h
      obtain ⟨rfl, rfl, rfl, rfl⟩ := h
      exact ⟨b, rfl, e2, e3⟩
  · rw [if_neg c] at h ⊢
    simp only [Option.some.injEq, Prod.mk.injEq] at h
    obtain ⟨rfl, rfl, rfl, rfl⟩ := h
    exact ⟨0, rfl, z_, by decide⟩
theorem spec_ItemClean.callsC (k : Nat) (a0_0 : Int) (a0_1 : Int) (a0_2 : Nat) (A0_3 : Option Addr) (c0_3 : Nat) (l0_3 : List Int) (r1 : Int) (r2 : Int) (r3 : Nat) (r4 : List Int) (w : World) (hr0_3 : Kd.C (Kd.int .u8) w A0_3 l0_3.length l0_3) (hc0_3 : l0_3.length ≤ c0_3) (hp : a0_2 < 2 ^ 64) (h : spec_ItemClean.f k a0_0 a0_1 (cn a0_2) l0_3 = some (r1, r2, r3, r4)) :
  Calls Try.prog 56 #[.agg #[.int .i64 a0_0, .int .i64 a0_1, .float .f64 a0_2, .slice A0_3 l0_3.length c0_3]] w fun e w' => ∃ b1_ : Nat, ∃ v3_ : Value, e = .returned (.agg #[.int .i64 r1, .int .i64 r2, .float .f64 b1_, v3_]) ∧ Kd.R (Kd.int .u8) 5 w' w.heap.size (fun _ => True) v3_ r4 ∧ Below w.heap.size w w' ∧ Aside0 (cn b1_ = r3 ∧ b1_ < 2 ^ 64) := by
  obtain ⟨b, hb1, hb2, hb3⟩ := spec_ItemClean.pass k a0_0 a0_1 a0_2 l0_3 r1 r2 r3 r4 hp h
  refine (spec_ItemClean.calls k a0_0 a0_1 a0_2 A0_3 c0_3 l0_3 r1 r2 b r4 w hr0_3 hc0_3 hb1).mono ?_
  rintro e w1 ⟨v3_, p0, p1, p2⟩
  exact ⟨b, v3_, p0, p1, p2, ⟨⟨hb2, hb3⟩⟩⟩
mutual
def spec_FloatOf.j0 : Nat → Int → Nat → Int → Option (Nat)
  | 0, _, _, _ => none
  | k + 1, x0, x6, x7 => spec_FloatOf.l0 k x0 x6 x7
def spec_FloatOf.l0 : Nat → Int → Nat → Int → Option (Nat)
  | 0, _, _, _ => none
  | k + 1, x0, x6, x7 => if x7 > 0 then (if (fok .mul x6 4611686018427387904) = true then (spec_FloatOf.l0 k x0 (fval .mul x6 4611686018427387904) (wrap64 (x7 - 1))) else (none)) else (spec_FloatOf.l1 k x0 x6 x7)
def spec_FloatOf.l1 : Nat → Int → Nat → Int → Option (Nat)
  | 0, _, _, _ => none
  | k + 1, x0, x6, x7 => if x7 < 0 then (if (fok .quo x6 4611686018427387904) = true then (spec_FloatOf.l1 k x0 (fval .quo x6 4611686018427387904) (wrap64 (x7 + 1))) else (none)) else (if (x0 / 9223372036854775808) = 1 then (some (fneg x6)) else (some x6))
end
def spec_FloatOf.f (k : Nat) (a0 : Int) : Option (Nat) := if (fok .quo (fofi (Go.bits .and .u64 a0 4503599627370495)) 4841369599423283200) = true then (if (wrap64 (Go.bits .and .u64 (a0 / 4503599627370496) 2047)) = 2047 then (if (Go.bits .and .u64 a0 4503599627370495) = 0 then (if (fok .quo 4607182418800017408 0) = true then (if (a0 / 9223372036854775808) = 1 then (some (fneg (fval .quo 4607182418800017408 0))) else (some (fval .quo 4607182418800017408 0))) else (none)) else (if (fok .quo 0 0) = true then (some (fval .quo 0 0)) else (none))) else (if (wrap64 (Go.bits .and .u64 (a0 / 4503599627370496) 2047)) = 0 then (spec_FloatOf.j0 k a0 (fval .quo (fofi (Go.bits .and .u64 a0 4503599627370495)) 4841369599423283200) (-1022)) else (if (fok .add (fval .quo (fofi (Go.bits .and .u64 a0 4503599627370495)) 4841369599423283200) 4607182418800017408) = true then (spec_FloatOf.j0 k a0 (fval .add (fval .quo (fofi (Go.bits .and .u64 a0 4503599627370495)) 4841369599423283200) 4607182418800017408) (wrap64 ((wrap64 (Go.bits .and .u64 (a0 / 4503599627370496) 2047)) - 1023))) else (none)))) else (none)
theorem spec_FloatOf.mono_l : ∀ k, (∀ y0 y1 y2, LeO (spec_FloatOf.j0 k y0 y1 y2) (spec_FloatOf.j0 (k + 1) y0 y1 y2)) ∧ (∀ y0 y1 y2, LeO (spec_FloatOf.l0 k y0 y1 y2) (spec_FloatOf.l0 (k + 1) y0 y1 y2)) ∧ (∀ y0 y1 y2, LeO (spec_FloatOf.l1 k y0 y1 y2) (spec_FloatOf.l1 (k + 1) y0 y1 y2))
  | 0 => ⟨fun _ _ _ r h => by simp [spec_FloatOf.j0] at h, fun _ _ _ r h => by simp [spec_FloatOf.l0] at h, fun _ _ _ r h => by simp [spec_FloatOf.l1] at h⟩
  | k + 1 => by
    obtain ⟨ih0, ih1, ih2⟩ := spec_FloatOf.mono_l k
    refine ⟨?_, ?_, ?_⟩
    · intro y0 y1 y2
      unfold spec_FloatOf.j0
      repeat' with_reducible first | exact ih0 _ _ _ | exact ih1 _ _ _ | exact ih2 _ _ _ | exact LeO.refl _ | exact LeO.none _ | refine LeO.ite ?_ ?_ | refine LeO.bind ?_ (fun _ => ?_)
    · intro y0 y1 y2
      unfold spec_FloatOf.l0
      repeat' with_reducible first | exact ih0 _ _ _ | exact ih1 _ _ _ | exact ih2 _ _ _ | exact LeO.refl _ | exact LeO.none _ | refine LeO.ite ?_ ?_ | refine LeO.bind ?_ (fun _ => ?_)
    · intro y0 y1 y2
      unfold spec_FloatOf.l1
      repeat' with_reducible first | exact ih0 _ _ _ | exact ih1 _ _ _ | exact ih2 _ _ _ | exact LeO.refl _ | exact LeO.none _ | refine LeO.ite ?_ ?_ | refine LeO.bind ?_ (fun _ => ?_)
theorem spec_FloatOf.mono : ∀ a0 k, LeO (spec_FloatOf.f k a0) (spec_FloatOf.f (k + 1) a0) := by
  intro a0 k
  obtain ⟨ih0, ih1, ih2⟩ := spec_FloatOf.mono_l k
  unfold spec_FloatOf.f
  repeat' with_reducible first | exact ih0 _ _ _ | exact ih1 _ _ _ | exact ih2 _ _ _ | exact LeO.refl _ | exact LeO.none _ | refine LeO.ite ?_ ?_ | refine LeO.bind ?_ (fun _ => ?_)
set_option maxHeartbeats 8000000 in
set_option maxRecDepth 100000 in
theorem spec_FloatOf.calls (k : Nat) (a0 : Int) (r : Nat) (w : World) (h : spec_FloatOf.f k a0 = some r) :
    Calls Try.prog 64 #[.int .u64 a0] w fun e w' => e = .returned (.float .f64 r) ∧ Drawn0 w w' := by
  have H := h
  clear h
  unfold spec_FloatOf.f at H
  by_cases c2 : (fok .quo (fofi (Go.bits .and .u64 a0 4503599627370495)) 4841369599423283200) = true
  · rw [if_pos c2] at H
    have c2b0 : (fok .quo (fofi (Go.bits .and .u64 a0 4503599627370495)) 4841369599423283200) = true := c2
    clear c2
    by_cases c3 : (wrap64 (Go.bits .and .u64 (a0 / 4503599627370496) 2047)) = 2047
    · rw [if_pos c3] at H
      have c3b0 : ((wrap64 (Go.bits .and .u64 (a0 / 4503599627370496) 2047)) == 2047) = true := beq_iff_eq.mpr c3
      have c3b1 : ((wrap64 (Go.bits .and .u64 (a0 / 4503599627370496) 2047)) != 2047) = false := bne_eq_false_iff_eq.mpr c3
      clear c3
      by_cases c4 : (Go.bits .and .u64 a0 4503599627370495) = 0
      · rw [if_pos c4] at H
        have c4b0 : ((Go.bits .and .u64 a0 4503599627370495) == 0) = true := beq_iff_eq.mpr c4
        have c4b1 : ((Go.bits .and .u64 a0 4503599627370495) != 0) = false := bne_eq_false_iff_eq.mpr c4
        clear c4
        by_cases c5 : (fok .quo 4607182418800017408 0) = true
        · rw [if_pos c5] at H
          have c5b0 : (fok .quo 4607182418800017408 0) = true := c5
          clear c5
          by_cases c6 : (a0 / 9223372036854775808) = 1
          · rw [if_pos c6] at H
            have c6b0 : ((a0 / 9223372036854775808) == 1) = true := beq_iff_eq.mpr c6
            have c6b1 : ((a0 / 9223372036854775808) != 1) = false := bne_eq_false_iff_eq.mpr c6
            clear c6
            obtain rfl := Option.some.inj H
            go_enter Try.func64, Try.ntmps64
            go_wp2
            go_ret
            exact ⟨by first | rfl | (simp; done) | (simp [*]; done), by repeat (first | exact Drawn0.refl _ | apply Drawn0.step)⟩
          · rw [if_neg c6] at H
            have c6b0 : ((a0 / 9223372036854775808) == 1) = false := beq_eq_false_iff_ne.mpr c6
            have c6b1 : ((a0 / 9223372036854775808) != 1) = true := bne_iff_ne.mpr c6
            obtain rfl := Option.some.inj H
            go_enter Try.func64, Try.ntmps64
            go_wp2
            go_ret
            exact ⟨by first | rfl | (simp; done) | (simp [*]; done), by repeat (first | exact Drawn0.refl _ | apply Drawn0.step)⟩
        · rw [if_neg c5] at H
          exact absurd H (by simp)
      · rw [if_neg c4] at H
        have c4b0 : ((Go.bits .and .u64 a0 4503599627370495) == 0) = false := beq_eq_false_iff_ne.mpr c4
        have c4b1 : ((Go.bits .and .u64 a0 4503599627370495) != 0) = true := bne_iff_ne.mpr c4
        by_cases c7 : (fok .quo 0 0) = true
        · rw [if_pos c7] at H
          have c7b0 : (fok .quo 0 0) = true := c7
          clear c7
          obtain rfl := Option.some.inj H
          go_enter Try.func64, Try.ntmps64
          go_wp2
          go_ret
          exact ⟨by first | rfl | (simp; done) | (simp [*]; done), by repeat (first | exact Drawn0.refl _ | apply Drawn0.step)⟩
        · rw [if_neg c7] at H
          exact absurd H (by simp)
    · rw [if_neg c3] at H
      have c3b0 : ((wrap64 (Go.bits .and .u64 (a0 / 4503599627370496) 2047)) == 2047) = false := beq_eq_false_iff_ne.mpr c3
      have c3b1 : ((wrap64 (Go.bits .and .u64 (a0 / 4503599627370496) 2047)) != 2047) = true := bne_iff_ne.mpr c3
      have HC8 := Aside0.mk H
      clear H
      go_enter Try.func64, Try.ntmps64
      go_upto_if 29 with (fail)
      go_cut [6, 7] (fun v6 v7 wc => ∃ (kq : Nat) (x6_7 : Nat) (x7_7 : Int), v6 = .float .f64 x6_7 ∧ v7 = .int .i64 x7_7 ∧ Aside0 (spec_FloatOf.j0 kq a0 x6_7 x7_7 = some r) ∧ Aside0 (kq ≤ k) ∧ Drawn0 w wc)
      case first =>
        have H := HC8.out
        clear HC8
        by_cases c9 : (wrap64 (Go.bits .and .u64 (a0 / 4503599627370496) 2047)) = 0
        · rw [if_pos c9] at H
          have c9b0 : ((wrap64 (Go.bits .and .u64 (a0 / 4503599627370496) 2047)) == 0) = true := beq_iff_eq.mpr c9
          have c9b1 : ((wrap64 (Go.bits .and .u64 (a0 / 4503599627370496) 2047)) != 0) = false := bne_eq_false_iff_eq.mpr c9
          clear c9
          (first | rw [c9b0] | (simp only [i64_w, i32_w]; rw [c9b0]) | skip)
          have H' := Aside0.mk H
          clear H
          go_wp2
          go_meet
          case rel => exact ⟨_, (fval .quo (fofi (Go.bits .and .u64 a0 4503599627370495)) 4841369599423283200), ((-1022)), (by first | rfl | (simp; done) | (simp [*]; done)), (by first | rfl | (simp; done) | (simp [*]; done)), H', ⟨by first | omega | exact Nat.le_refl _⟩, by repeat (first | exact Drawn0.refl _ | apply Drawn0.step)⟩
        · rw [if_neg c9] at H
          have c9b0 : ((wrap64 (Go.bits .and .u64 (a0 / 4503599627370496) 2047)) == 0) = false := beq_eq_false_iff_ne.mpr c9
          have c9b1 : ((wrap64 (Go.bits .and .u64 (a0 / 4503599627370496) 2047)) != 0) = true := bne_iff_ne.mpr c9
          (first | rw [c9b0] | (simp only [i64_w, i32_w]; rw [c9b0]) | skip)
          by_cases c10 : (fok .add (fval .quo (fofi (Go.bits .and .u64 a0 4503599627370495)) 4841369599423283200) 4607182418800017408) = true
          · rw [if_pos c10] at H
            have c10b0 : (fok .add (fval .quo (fofi (Go.bits .and .u64 a0 4503599627370495)) 4841369599423283200) 4607182418800017408) = true := c10
            clear c10
            have H' := Aside0.mk H
            clear H
            go_wp2
            go_meet
            case rel => exact ⟨_, (fval .add (fval .quo (fofi (Go.bits .and .u64 a0 4503599627370495)) 4841369599423283200) 4607182418800017408), (wrap64 ((wrap64 (Go.bits .and .u64 (a0 / 4503599627370496) 2047)) - 1023)), (by first | rfl | (simp; done) | (simp [*]; done)), (by first | rfl | (simp; done) | (simp [*]; done)), H', ⟨by first | omega | exact Nat.le_refl _⟩, by repeat (first | exact Drawn0.refl _ | apply Drawn0.step)⟩
          · rw [if_neg c10] at H
            exact absurd H (by simp)
      case rest =>
        clear HC8
        try clear c1
        try clear c2
        try clear c2b0
        try clear p2
        try clear c3
        try clear c3b0
        try clear c3b1
        try clear c4
        try clear c4b0
        try clear c4b1
        try clear c5
        try clear c5b0
        try clear c6
        try clear c6b0
        try clear c6b1
        try clear p6
        try clear c7
        try clear c7b0
        try clear c9
        try clear c9b0
        try clear c9b1
        try clear c10
        try clear c10b0
        obtain ⟨kq, x6_7, x7_7, rfl, rfl, HA, HJ7, ⟨mc7, rfl⟩⟩ := hcut
        cases kq with
        | zero => exact absurd HA.out (by simp [spec_FloatOf.j0])
        | succ kj7 =>
          have H := HA.out
          clear HA
          simp only [spec_FloatOf.j0] at H
          have H' := Aside0.mk H
          clear H
          go_wp2
          go_loopg [6, 7] kj7 (fun kq v6 v7 w' => ∃ (x6_2 : Nat) (x7_2 : Int), v6 = .float .f64 x6_2 ∧ v7 = .int .i64 x7_2 ∧ Aside0 (spec_FloatOf.l0 kq a0 x6_2 x7_2 = some r) ∧ Aside0 (kq ≤ kj7) ∧ Drawn0 w w')
          case atStart => exact ⟨(x6_7), (x7_7), (by first | rfl | (simp; done) | (simp [*]; done)), (by first | rfl | (simp; done) | (simp [*]; done)), H', ⟨Nat.le_refl _⟩, by repeat (first | exact Drawn0.refl _ | apply Drawn0.step)⟩
          case round =>
            clear H'
            try clear c1
            try clear c2
            try clear c2b0
            try clear p2
            try clear c3
            try clear c3b0
            try clear c3b1
            try clear c4
            try clear c4b0
            try clear c4b1
            try clear c5
            try clear c5b0
            try clear c6
            try clear c6b0
            try clear c6b1
            try clear p6
            try clear c7
            try clear c7b0
            try clear c9
            try clear c9b0
            try clear c9b1
            try clear c10
            try clear c10b0
            try clear p2
            try clear p6
            obtain ⟨x6_2, x7_2, rfl, rfl, HA, HK2, ⟨m2, rfl⟩⟩ := hrel
            cases gk with
            | zero => exact absurd HA.out (by simp [spec_FloatOf.l0])
            | succ k2 =>
              have H := HA.out
              clear HA
              simp only [spec_FloatOf.l0] at H
              by_cases c11 : x7_2 > 0
              · rw [if_pos c11] at H
                have c11b0 : decide (0 < x7_2) = true := decide_eq_true c11
                clear c11
                by_cases c12 : (fok .mul x6_2 4611686018427387904) = true
                · rw [if_pos c12] at H
                  have c12b0 : (fok .mul x6_2 4611686018427387904) = true := c12
                  clear c12
                  have H' := Aside0.mk H
                  clear H
                  go_wp2
                  go_roundg k2
                  case measure => have := HJ7.out; have := HK2.out; omega
                  case rel => exact ⟨(fval .mul x6_2 4611686018427387904), (wrap64 (x7_2 - 1)), (by first | rfl | (simp; done) | (simp [*]; done)), (by first | rfl | (simp; done) | (simp [*]; done)), H', ⟨by have := HJ7.out; have := HK2.out; omega⟩, by repeat (first | exact Drawn0.refl _ | apply Drawn0.step)⟩
                · rw [if_neg c12] at H
                  exact absurd H (by simp)
              · rw [if_neg c11] at H
                have c11b0 : decide (0 < x7_2) = false := decide_eq_false c11
                clear c11
                have H' := Aside0.mk H
                clear H
                go_wp2
                go_loopg [6, 7] k2 (fun kq v6 v7 w' => ∃ (x6_3 : Nat) (x7_3 : Int), v6 = .float .f64 x6_3 ∧ v7 = .int .i64 x7_3 ∧ Aside0 (spec_FloatOf.l1 kq a0 x6_3 x7_3 = some r) ∧ Aside0 (kq ≤ k2) ∧ Drawn0 w w')
                case atStart => exact ⟨(x6_2), (x7_2), (by first | rfl | (simp; done) | (simp [*]; done)), (by first | rfl | (simp; done) | (simp [*]; done)), H', ⟨Nat.le_refl _⟩, by repeat (first | exact Drawn0.refl _ | apply Drawn0.step)⟩
                case round =>
                  clear H'
                  try clear c1
                  try clear c2
                  try clear c2b0
                  try clear p2
                  try clear c3
                  try clear c3b0
                  try clear c3b1
                  try clear c4
                  try clear c4b0
                  try clear c4b1
                  try clear c5
                  try clear c5b0
                  try clear c6
                  try clear c6b0
                  try clear c6b1
                  try clear p6
                  try clear c7
                  try clear c7b0
                  try clear c9
                  try clear c9b0
                  try clear c9b1
                  try clear c10
                  try clear c10b0
                  try clear c11
                  try clear c11b0
                  try clear c12
                  try clear c12b0
                  try clear p2
                  try clear p6
                  obtain ⟨x6_3, x7_3, rfl, rfl, HA, HK3, ⟨m3, rfl⟩⟩ := hrel
                  cases gk with
                  | zero => exact absurd HA.out (by simp [spec_FloatOf.l1])
                  | succ k3 =>
                    have H := HA.out
                    clear HA
                    simp only [spec_FloatOf.l1] at H
                    by_cases c13 : x7_3 < 0
                    · rw [if_pos c13] at H
                      have c13b0 : decide (x7_3 < 0) = true := decide_eq_true c13
                      clear c13
                      by_cases c14 : (fok .quo x6_3 4611686018427387904) = true
                      · rw [if_pos c14] at H
                        have c14b0 : (fok .quo x6_3 4611686018427387904) = true := c14
                        clear c14
                        have H' := Aside0.mk H
                        clear H
                        go_wp2
                        go_roundg k3
                        case measure => have := HJ7.out; have := HK2.out; have := HK3.out; omega
                        case rel => exact ⟨(fval .quo x6_3 4611686018427387904), (wrap64 (x7_3 + 1)), (by first | rfl | (simp; done) | (simp [*]; done)), (by first | rfl | (simp; done) | (simp [*]; done)), H', ⟨by have := HJ7.out; have := HK2.out; have := HK3.out; omega⟩, by repeat (first | exact Drawn0.refl _ | apply Drawn0.step)⟩
                      · rw [if_neg c14] at H
                        exact absurd H (by simp)
                    · rw [if_neg c13] at H
                      have c13b0 : decide (x7_3 < 0) = false := decide_eq_false c13
                      clear c13
                      by_cases c15 : (a0 / 9223372036854775808) = 1
                      · rw [if_pos c15] at H
                        have c15b0 : ((a0 / 9223372036854775808) == 1) = true := beq_iff_eq.mpr c15
                        have c15b1 : ((a0 / 9223372036854775808) != 1) = false := bne_eq_false_iff_eq.mpr c15
                        clear c15
                        obtain rfl := Option.some.inj H
                        go_wp2
                        go_ret
                        exact ⟨by first | rfl | (simp; done) | (simp [*]; done), by repeat (first | exact Drawn0.refl _ | apply Drawn0.step)⟩
                      · rw [if_neg c15] at H
                        have c15b0 : ((a0 / 9223372036854775808) == 1) = false := beq_eq_false_iff_ne.mpr c15
                        have c15b1 : ((a0 / 9223372036854775808) != 1) = true := bne_iff_ne.mpr c15
                        obtain rfl := Option.some.inj H
                        go_wp2
                        go_ret
                        exact ⟨by first | rfl | (simp; done) | (simp [*]; done), by repeat (first | exact Drawn0.refl _ | apply Drawn0.step)⟩
  · rw [if_neg c2] at H
    exact absurd H (by simp)
/-- the bits of which FloatOf makes what is no number -/
def spec_FloatOf.nanC (a0 : Int) : Prop := (fok .quo (fofi (Go.bits .and .u64 a0 4503599627370495)) 4841369599423283200) = true ∧ (wrap64 (Go.bits .and .u64 (a0 / 4503599627370496) 2047)) = 2047 ∧ ¬ (Go.bits .and .u64 a0 4503599627370495) = 0 ∧ fok .quo 0 0 = false
/-- where FloatOf's answer is known -/
def spec_FloatOf.Q (k : Nat) (a0 : Int) : Prop := (∃ r, spec_FloatOf.f k a0 = some r) ∨ spec_FloatOf.nanC a0
/-- what FloatOf answers -/
def spec_FloatOf.R (k : Nat) (a0 : Int) (r : Nat) : Prop := spec_FloatOf.f k a0 = some r ∨ (spec_FloatOf.nanC a0 ∧ nanR r)
set_option maxHeartbeats 8000000 in
set_option maxRecDepth 100000 in
theorem spec_FloatOf.calls0 (a0 : Int) (w : World) (h : spec_FloatOf.nanC a0) :
    Calls Try.prog 64 #[.int .u64 a0] w fun e w' => ∃ r_ : Nat, e = .returned (.float .f64 r_) ∧ nanR r_ ∧ Drawn0 w w' := by
  obtain ⟨c2b0, c3, c4, c7⟩ := h
  have c3b0 : ((wrap64 (Go.bits .and .u64 (a0 / 4503599627370496) 2047)) == 2047) = true := beq_iff_eq.mpr c3
  have c3b1 : ((wrap64 (Go.bits .and .u64 (a0 / 4503599627370496) 2047)) != 2047) = false := bne_eq_false_iff_eq.mpr c3
  clear c3
  have c4b0 : ((Go.bits .and .u64 a0 4503599627370495) == 0) = false := beq_eq_false_iff_ne.mpr c4
  have c4b1 : ((Go.bits .and .u64 a0 4503599627370495) != 0) = true := bne_iff_ne.mpr c4
  clear c4
  go_enter Try.func64, Try.ntmps64
  go_wp2
  go_ret
  exact ⟨_, rfl, nanR_of _ _ _, by repeat (first | exact Drawn0.refl _ | apply Drawn0.step)⟩
instance (a0 : Int) : Decidable (spec_FloatOf.nanC a0) := inferInstanceAs (Decidable (_ ∧ _ ∧ _ ∧ _))
/-- FloatOf with what is no number told by one word -/
def spec_FloatOf.c (k : Nat) (a0 : Int) : Option (Nat) := if spec_FloatOf.nanC a0 then some 9221120237041090560 else (spec_FloatOf.f k a0).bind fun t => if ¬ nanw t ∧ t < 2 ^ 64 then some t else none
theorem spec_FloatOf.monoC : ∀ a0 k, LeO (spec_FloatOf.c k a0) (spec_FloatOf.c (k + 1) a0) := by
  intro a0 k
  unfold spec_FloatOf.c
  exact LeO.ite (LeO.refl _) (LeO.bind (spec_FloatOf.mono _ _) (fun _ => LeO.refl _))
theorem spec_FloatOf.callsC (k : Nat) (a0 : Int) (r : Nat) (w : World) (h : spec_FloatOf.c k a0 = some r) :
    Calls Try.prog 64 #[.int .u64 a0] w fun e w' => ∃ b1_ : Nat, e = .returned (.float .f64 b1_) ∧ Drawn0 w w' ∧ Aside0 (cn b1_ = r ∧ b1_ < 2 ^ 64) := by
  unfold spec_FloatOf.c at h
  split at h
  · rename_i hn
    cases h
    exact (spec_FloatOf.calls0 a0 w hn).mono (fun e w' ⟨b, e1, n, d⟩ => ⟨b, e1, d, ⟨cn_nan (nanR_nanw b n), (nanR_nanw b n).1⟩⟩)
  · obtain ⟨t, ht, h⟩ := Option.bind_eq_some_iff.mp h
    split at h
    · rename_i hq
      cases h
      exact (spec_FloatOf.calls k a0 r w ht).mono (fun e w' ⟨e1, d⟩ => ⟨r, e1, d, ⟨cn_num hq.1, hq.2⟩⟩)
    · cases h
end Go.Proofs.Ytcjeokkhpjppaaa.PFnSpans

-- By this session's own program (wip/xprint.py), over the kit's print.
import Derived.Test.YtokpniagnbaflaaPFnExactPageBytesx0
import Derived.Test.YtokpniagnbaflaaPFnExactPageBytesx1
namespace Go.Proofs.Ytokpniagnbaflaa.PFnExactPageBytes
open Go.RowKit Go.Proofs.YtokpniagnbaflaaW.PrintWords Go.Proofs.YtokpniagnbaflaaW.PrintLast Go.Proofs.YtokpniagnbaflaaW.PrintMore
attribute [local go_sem] max2_int min2_int max_two min_two max_three min_three max_four min_four   -- for this text's walks alone
attribute [local go_sem high] fl_eql fl_neq fl_lss fl_leq fl_gtr fl_geq fl_add fl_sub fl_mul fl_quo fl_neg fl_ofInt fl_toInt fl_store sub_sign fl_nan_quo fl_nan_add fl_nan_mul fl_nan_sub
open Go.Proofs.YtokpniagnbaflaaW.PrintWords renaming below_alloc → h1, pw_below_drewN → h2, below_drew1 → h3, below_set → h4, blk_drewN → b1, blk_drew → b2, blk_alloc → b3
set_option linter.unusedVariables false
set_option linter.unusedSimpArgs false

/-! ### laws_markByteSS: function 46 -/
def laws_markByteSS.go (k : Nat) : Nat → Nat → List (List Int) → Int → Option (Int × List (List Int))
  | 0, _, y, a => some (a, y)
  | d + 1, i, y, a => (laws_markByteS.f k (y.getD i []) a).bind fun t => laws_markByteSS.go k d (i + 1) (y.set i t.2) t.1
def laws_markByteSS.f (k : Nat) (l0 : List (List Int)) (a1 : Int) : Option (Int × (List (List Int))) := if l0.length ≤ 1048576 then laws_markByteSS.go k l0.length 0 l0 a1 else none
set_option maxHeartbeats 8000000 in
set_option maxRecDepth 100000 in
theorem laws_markByteSS.calls (k : Nat) (P0_ : Nat → Prop) (A0 : Option Addr) (c0 : Nat) (l0 : List (List Int)) (a1 : Int) (r1 : Int) (r2 : List (List Int)) (w0 w : World) (hB : Below w0.heap.size w0 w) (ho0 : Kd.S (Kd.slice 5 (Kd.int .u8)) 36 w w0.heap.size P0_ (.slice A0 l0.length c0) l0) (h : laws_markByteSS.f k l0 a1 = some (r1, r2)) :
    Calls Try.prog 46 #[.slice A0 l0.length c0, .int .i64 a1] w fun e w' => e = .returned (.int .i64 r1) ∧ Kd.S (Kd.slice 5 (Kd.int .u8)) 36 w' w0.heap.size P0_ (.slice A0 l0.length c0) r2 ∧ Below w0.heap.size w0 w' ∧ Kept w w' P0_ := by
  unfold laws_markByteSS.f at h
  by_cases hlen : l0.length ≤ 1048576
  case neg =>
    rw [if_neg hlen] at h
    cases h
  rw [if_pos hlen] at h
  have H' := Aside0.mk h
  have HO := Aside0.mk ho0
  have HB := Aside0.mk hB
  clear h ho0 hB
  go_enter Try.func46, Try.ntmps46
  go_wp2
  go_loopw [1, 5] (fun v1 v5 wr => ∃ (i : Nat) (a : Int) (y : List (List Int)), v1 = .int .i64 a ∧ v5 = .int .i64 (i : Int) ∧ Aside0 (i ≤ l0.length ∧ y.length = l0.length ∧ laws_markByteSS.go k (l0.length - i) i y a = some (r1, r2)) ∧ Aside0 (Kd.S (Kd.slice 5 (Kd.int .u8)) 36 wr w0.heap.size P0_ (.slice A0 l0.length c0) y) ∧ Aside0 (Below w0.heap.size w0 wr) ∧ Aside0 (Kept w wr P0_)) (fun _ v _ => l0.length - (intOf v).toNat)
  case atStart => exact ⟨0, a1, l0, rfl, rfl, ⟨by omega, rfl, H'.out⟩, HO, HB, ⟨Kept.refl _ _⟩⟩
  case round =>
    obtain ⟨i, a, y, rfl, rfl, ⟨hi, hy, hg⟩, HO2, HB2, HK2⟩ := hrel
    by_cases hlt : i < l0.length
    · have cc : decide ((i : Int) < (l0.length : Int)) = true := decide_eq_true (by omega)
      have p1 : 0 ≤ (i : Int) := by omega
      obtain ⟨g, cap, ev, hbg, hgl, _⟩ := Kd.S_form HO2.out (by omega)
      rw [hy] at ev
      injection ev with ea en ec
      subst ea
      subst ec
      have HL := Kd.S_lend HO2.out ([] : List Int) (i : Int) p1 (by omega)
      obtain ⟨oki, c, hcl, hM, hcc, hoki, hH⟩ := HL
      obtain ⟨v, rfl, hR⟩ := hM
      have hx : wr.cell? ⟨g, i, none⟩ = some v := by
        have := hcc 0 v rfl
        rw [Int.toNat_natCast] at this
        simpa [Kd.slice] using this
      rw [show l0.length - i = (l0.length - (i + 1)) + 1 by omega] at hg
      rw [laws_markByteSS.go] at hg
      obtain ⟨⟨t1, t2⟩, hA, hg⟩ := Option.bind_eq_some_iff.1 hg
      dsimp only at hg
      have HA := Aside0.mk hA
      have HH := Aside0.mk hH
      have HR := Aside0.mk hR
      have HOK := Aside0.mk hoki
      clear hcc hA hH hR hoki
      go_wp2_with (first | (go_at_call 26; refine (laws_markByteS.calls k oki v (y.getD i []) a t1 t2 w0 _ HB2.out HR.out HA.out).mono ?_; rintro e w' ⟨rfl, hR2, hB2, hK2⟩))
      have HS := Aside0.mk (Kd.H_back (Kd.H_kept HH.out hK2 (fun _ _ hn => hn)) (x' := t2) (okp := oki) ⟨v, rfl, Kd.R_back HR.out hR2 rfl⟩ (fun _ hk => hk))
      have HK3 := Aside0.mk (HK2.out.then_ hK2 (fun k hk => .inl (HOK.out k hk).1))
      have HB3 := Aside0.mk hB2
      clear hR2 hK2 hB2
      rw [Int.toNat_natCast] at HS
      go_roundw
      case measure => simp [intOf]; omega
      case rel => exact ⟨i + 1, t1, y.set i t2, rfl, by rw [Int.natCast_add]; rfl, ⟨by omega, by rw [List.length_set]; exact hy, hg⟩, HS, HB3, HK3⟩
    · have cc : decide ((i : Int) < (l0.length : Int)) = false := decide_eq_false (by omega)
      rw [show l0.length - i = 0 by omega, laws_markByteSS.go] at hg
      injection hg with hg
      injection hg with e1 e2
      subst e1
      subst e2
      go_wp2
      go_ret
      exact ⟨rfl, HO2.out, HB2.out, HK2.out⟩

/-! ### laws_markPage: function 20 -/
def laws_markPage.f (k : Nat) (a0_0 : Int) (l0_1 : List (List Int)) (a1 : Int) : Option (Int × (List (List Int))) := laws_markByteSS.f k l0_1 a1
set_option maxHeartbeats 8000000 in
set_option maxRecDepth 100000 in
theorem laws_markPage.calls (k : Nat) (P0_ : Nat → Prop) (a0_0 : Int) (A0_1 : Option Addr) (c0_1 : Nat) (l0_1 : List (List Int)) (a1 : Int) (r1 : Int) (r2 : List (List Int)) (w0 w : World) (hB : Below w0.heap.size w0 w) (ho0_1 : Kd.S (Kd.slice 5 (Kd.int .u8)) 36 w w0.heap.size P0_ (.slice A0_1 l0_1.length c0_1) l0_1) (h : laws_markPage.f k a0_0 l0_1 a1 = some (r1, r2)) :
    Calls Try.prog 20 #[.agg #[.int .i64 a0_0, .slice A0_1 l0_1.length c0_1], .int .i64 a1] w fun e w' => e = .returned (.int .i64 r1) ∧ Kd.S (Kd.slice 5 (Kd.int .u8)) 36 w' w0.heap.size P0_ (.slice A0_1 l0_1.length c0_1) r2 ∧ Below w0.heap.size w0 w' ∧ Kept w w' P0_ := by
  have hu27 := Try.underlying27
  have HO := Aside0.mk ho0_1
  have HB := Aside0.mk hB
  have HA := Aside0.mk (show laws_markByteSS.f k l0_1 a1 = some (r1, r2) from h)
  clear ho0_1 hB h
  have b1 : Below w.heap.size w (w.alloc (.cells #[.int .i64 a0_0, .slice A0_1 l0_1.length c0_1] 27)) := below_alloc (Below.refl _ w) _
  have HO2 := Aside0.mk (Kd.S_below HO.out b1)
  have HB2 := Aside0.mk (below_alloc HB.out (.cells #[.int .i64 a0_0, .slice A0_1 l0_1.length c0_1] 27))
  have HK2 := Aside0.mk (Kept.of_below b1 P0_)
  clear b1
  go_enter Try.func20, Try.ntmps20
  go_wp2_with (first | (go_at_call 46; refine (laws_markByteSS.calls k P0_ A0_1 c0_1 l0_1 a1 r1 r2 w0 _ HB2.out HO2.out HA.out).mono ?_; rintro e w' ⟨rfl, hO3, hB3, hK3⟩))
  go_ret
  exact ⟨rfl, hO3, hB3, HK2.out.then_ hK3 (fun k hk => .inl hk)⟩

/-! ### spec_l5in: function 37 -/
def spec_l5in.f (a0 : Int) (a1 : Int) (a2 : Int) : Option (Bool) := if a0 ≥ a1 then (some (decide (a0 ≤ a2))) else (some false)
set_option maxHeartbeats 8000000 in
set_option maxRecDepth 100000 in
theorem spec_l5in.calls (a0 : Int) (a1 : Int) (a2 : Int) (r : Bool) (w : World) (h : spec_l5in.f a0 a1 a2 = some r) :
    Calls Try.prog 37 #[.int .i64 a0, .int .i64 a1, .int .i64 a2] w fun e w' => e = .returned (.bool r) ∧ Drawn0 w w' := by
  have H : (if a0 ≥ a1 then (some (decide (a0 ≤ a2))) else (some false)) = some r := h
  clear h
  by_cases c4 : a0 ≥ a1
  · rw [if_pos c4] at H
    have c4b0 : decide (a1 ≤ a0) = true := decide_eq_true c4
    clear c4
    obtain rfl := Option.some.inj H
    go_enter Try.func37, Try.ntmps37
    go_wp2
    go_ret
    exact ⟨by first | rfl | (simp; done) | (simp [*]; done), by repeat (first | exact Drawn0.refl _ | apply Drawn0.step)⟩
  · rw [if_neg c4] at H
    have c4b0 : decide (a1 ≤ a0) = false := decide_eq_false c4
    clear c4
    obtain rfl := Option.some.inj H
    go_enter Try.func37, Try.ntmps37
    go_wp2
    go_ret
    exact ⟨by first | rfl | (simp; done) | (simp [*]; done), by repeat (first | exact Drawn0.refl _ | apply Drawn0.step)⟩

/-! ### spec_PageUsed: function 12 -/
mutual
def spec_PageUsed.j0 : Nat → Bool → Int → List (List Int) → Option (Int)
 | 0, _, _, _ => none
 | k + 1, x14, x134000, x134001 => if x14 = true then (some (-1)) else (spec_PageUsed.l0 k (wrap64 (1 + (x134001.length : Int))) 0 x134000 x134001)
def spec_PageUsed.l0 : Nat → Int → Int → Int → List (List Int) → Option (Int)
 | 0, _, _, _, _ => none
 | k + 1, x3, x4, x134000, x134001 => if x4 < (x134001.length : Int) then (if 0 ≤ x4 then (if ((rd_L1 x134001 x4).length : Int) > 92 then (some (-1)) else (spec_PageUsed.l0 k (wrap64 (x3 + ((rd_L1 x134001 x4).length : Int))) (wrap64 (x4 + 1)) x134000 x134001)) else (none)) else (if (x134001.length : Int) > 0 then (if 0 ≤ (wrap64 ((x134001.length : Int) - 1)) then (if (wrap64 ((x134001.length : Int) - 1)) < (x134001.length : Int) then (spec_PageUsed.j2 k x3 (((rd_L1 x134001 (wrap64 ((x134001.length : Int) - 1))).length : Int) == 0)) else (none)) else (none)) else (spec_PageUsed.j2 k x3 false))
def spec_PageUsed.j2 : Nat → Int → Bool → Option (Int)
 | 0, _, _ => none
 | k + 1, x3, x56 => if x56 = true then (some (-1)) else (if x3 > 240 then (some (-1)) else (some x3))
end
def spec_PageUsed.f (k : Nat) (a0_0 : Int) (l0_1 : List (List Int)) : Option (Int) := (spec_l5in.f a0_0 0 1000000).bind fun t134 => (if t134 = true then (spec_PageUsed.j0 k (decide ((l0_1.length : Int) > 16)) a0_0 l0_1) else (spec_PageUsed.j0 k true a0_0 l0_1))
theorem spec_PageUsed.mono_l : ∀ k, (∀ y0 y1 y2, LeO (spec_PageUsed.j0 k y0 y1 y2) (spec_PageUsed.j0 (k + 1) y0 y1 y2)) ∧ (∀ y0 y1 y2 y3, LeO (spec_PageUsed.l0 k y0 y1 y2 y3) (spec_PageUsed.l0 (k + 1) y0 y1 y2 y3)) ∧ (∀ y0 y1, LeO (spec_PageUsed.j2 k y0 y1) (spec_PageUsed.j2 (k + 1) y0 y1))
 | 0 => ⟨fun _ _ _ r h => by simp [spec_PageUsed.j0] at h, fun _ _ _ _ r h => by simp [spec_PageUsed.l0] at h, fun _ _ r h => by simp [spec_PageUsed.j2] at h⟩
 | k + 1 => by
  obtain ⟨ih0, ih1, ih2⟩ := spec_PageUsed.mono_l k
  refine ⟨?_, ?_, ?_⟩
  ·intro y0 y1 y2
   unfold spec_PageUsed.j0
   repeat' with_reducible first | exact ih0 _ _ _ | exact ih1 _ _ _ _ | exact ih2 _ _ | exact LeO.refl _ | exact LeO.none _ | refine LeO.ite ?_ ?_ | refine LeO.bind ?_ (fun _ => ?_)
  ·intro y0 y1 y2 y3
   unfold spec_PageUsed.l0
   repeat' with_reducible first | exact ih0 _ _ _ | exact ih1 _ _ _ _ | exact ih2 _ _ | exact LeO.refl _ | exact LeO.none _ | refine LeO.ite ?_ ?_ | refine LeO.bind ?_ (fun _ => ?_)
  ·intro y0 y1
   unfold spec_PageUsed.j2
   repeat' with_reducible first | exact ih0 _ _ _ | exact ih1 _ _ _ _ | exact ih2 _ _ | exact LeO.refl _ | exact LeO.none _ | refine LeO.ite ?_ ?_ | refine LeO.bind ?_ (fun _ => ?_)
theorem spec_PageUsed.mono : ∀ a0 a1 k, LeO (spec_PageUsed.f k a0 a1) (spec_PageUsed.f (k + 1) a0 a1) := by
 intro a0 a1 k
 obtain ⟨ih0, ih1, ih2⟩ := spec_PageUsed.mono_l k
 unfold spec_PageUsed.f
 repeat' with_reducible first | exact ih0 _ _ _ | exact ih1 _ _ _ _ | exact ih2 _ _ | exact LeO.refl _ | exact LeO.none _ | refine LeO.ite ?_ ?_ | refine LeO.bind ?_ (fun _ => ?_)
set_option maxHeartbeats 8000000 in
set_option maxRecDepth 100000 in
theorem spec_PageUsed.calls (k : Nat) (a0_0 : Int) (A0_1 : Option Addr) (c0_1 : Nat) (l0_1 : List (List Int)) (r : Int) (w : World) (hr0_1 : Kd.C (Kd.slice 5 (Kd.int .u8)) w A0_1 l0_1.length l0_1) (hc0_1 : l0_1.length ≤ c0_1) (h : spec_PageUsed.f k a0_0 l0_1 = some r) :
  Calls Try.prog 12 #[.agg #[.int .i64 a0_0, .slice A0_1 l0_1.length c0_1]] w fun e w' => e = .returned (.int .i64 r) ∧ Below w.heap.size w w' := by
 have hu27 := Try.underlying27
 have HR0_1 := Aside0.mk hr0_1
 have HC0_1 := Aside0.mk hc0_1
 clear hr0_1 hc0_1
 have HB := Aside0.mk (Below.refl w.heap.size w)
 have H : ((spec_l5in.f a0_0 0 1000000).bind fun t134 => (if t134 = true then (spec_PageUsed.j0 k (decide ((l0_1.length : Int) > 16)) a0_0 l0_1) else (spec_PageUsed.j0 k true a0_0 l0_1))) = some r := h
 clear h
 have HC2 := Aside0.mk H
 clear H
 go_enter Try.func12, Try.ntmps12
 go_upto_region 1 with (first | ((with_reducible refine gate_dst (N := 1) rfl ?_); (try (refine gate_guard (by rfl) ?_; dsimp only)); refine box_event ?hg (N := 1) ?hd (cs := #[.int .i64 a0_0, .slice A0_1 l0_1.length c0_1]) (t := 27) ?hr ?_; (case hd => rfl); (case hg => rfl); (case hr => first | (go_simp; done) | (go_simp; rfl)); intro gb133 hg w3 hbox hb; have n0_ := Aside0.mk (below_step (hup HB.out) hb); have n1_ := Aside0.mk (hbox); have n2_ := Aside0.mk ((by rw [hg]; exact (below_size (hup HB.out)) : w.heap.size ≤ gb133)); have n3_ := Aside0.mk ((by rw [hg]; exact (below_size (hup HB.out)) : w.heap.size ≤ gb133)); clear HB; have HB := n0_; have BK133 := n1_; have GW133 := n2_; have GE133 := n3_; clear n0_ n1_ n2_ n3_; clear hb hbox hg))
 (try simp only [Act.put, List.setIfInBounds_toArray, List.set_cons_zero, List.set_cons_succ])
 go_cut [14] (fun v14 wc => ∃ (kq : Nat) (x14_1 : Bool), v14 = .bool x14_1 ∧ Aside0 (spec_PageUsed.j0 kq x14_1 a0_0 l0_1 = some r) ∧ Aside0 (kq ≤ k) ∧ Aside0 (wc.heap[gb133]? = some (.cells #[.int .i64 a0_0, (.slice A0_1 l0_1.length c0_1)] 27 (0, 0))) ∧ Aside0 (Below w.heap.size w wc))
 case first =>
  have H := HC2.out
  clear HC2
  replace H := Option.bind_eq_some_iff.mp H
  obtain ⟨t134, A40, H⟩ := H
  replace H : (if t134 = true then (spec_PageUsed.j0 k (decide ((l0_1.length : Int) > 16)) a0_0 l0_1) else (spec_PageUsed.j0 k true a0_0 l0_1)) = some r := H
  have A4 := Aside0.mk A40
  clear A40
  by_cases c5 : t134 = true
  ·subst c5
   have H1 : (spec_PageUsed.j0 k (decide ((l0_1.length : Int) > 16)) a0_0 l0_1) = some r := by rw [if_pos rfl] at H; exact H
   clear H
   have H := H1
   clear H1
   have H' := Aside0.mk H
   clear H
   obtain ⟨hcz6_0, hcz6_1⟩ := blk_cells2 BK133.out
   obtain ⟨hfz6_0, hfz6_1⟩ := blk_frozens2 BK133.out
   go_wp2_with (first | ((with_reducible refine gate_callee (f := 37) rfl ?_); refine goesL_ (some 7) rfl rfl Try.func37 (by kernel_rfl) rfl #[.int .i64 a0_0, .int .i64 0, .int .i64 1000000] rfl (by (try simp only [List.map_toArray, List.map_cons, List.map_nil]); first | done | rfl) ?_; (with_reducible refine (spec_l5in.calls a0_0 0 1000000 true _ A4.out).mono ?_); rintro e w' ⟨rfl, ⟨nd, rfl⟩⟩; refine ⟨_, rfl, ?_⟩))
   go_meet
   case rel => exact ⟨_, (decide ((l0_1.length : Int) > 16)), (by first | rfl | (simp; done) | (simp [*]; done)), H', ⟨by first | omega | exact Nat.le_refl _⟩, ⟨by exact bup BK133.out⟩, ⟨by with_reducible repeat (first | exact HB.out | refine h4 ?_ GE133.out | apply h1 | apply h2 | apply h3)⟩⟩
  ·replace c5 := Bool.eq_false_iff.mpr c5
   subst c5
   have H1 : (spec_PageUsed.j0 k true a0_0 l0_1) = some r := by rw [if_neg (show ¬ (false = true) by decide)] at H; exact H
   clear H
   have H := H1
   clear H1
   have H' := Aside0.mk H
   clear H
   obtain ⟨hcz7_0, hcz7_1⟩ := blk_cells2 BK133.out
   obtain ⟨hfz7_0, hfz7_1⟩ := blk_frozens2 BK133.out
   go_wp2_with (first | ((with_reducible refine gate_callee (f := 37) rfl ?_); refine goesL_ (some 7) rfl rfl Try.func37 (by kernel_rfl) rfl #[.int .i64 a0_0, .int .i64 0, .int .i64 1000000] rfl (by (try simp only [List.map_toArray, List.map_cons, List.map_nil]); first | done | rfl) ?_; (with_reducible refine (spec_l5in.calls a0_0 0 1000000 false _ A4.out).mono ?_); rintro e w' ⟨rfl, ⟨nd, rfl⟩⟩; refine ⟨_, rfl, ?_⟩))
   go_meet
   case rel => exact ⟨_, (true), (by first | rfl | (simp; done) | (simp [*]; done)), H', ⟨by first | omega | exact Nat.le_refl _⟩, ⟨by exact bup BK133.out⟩, ⟨by with_reducible repeat (first | exact HB.out | refine h4 ?_ GE133.out | apply h1 | apply h2 | apply h3)⟩⟩
 case rest =>
  clear HC2
  try clear c1
  try clear p2
  try clear c3
  try clear c5
  try clear hcz6_0
  try clear hcz6_1
  try clear hcz7_0
  try clear hcz7_1
  try clear hfz6_0
  try clear hfz6_1
  try clear hfz7_0
  try clear hfz7_1
  obtain ⟨kq, x14_1, rfl, HA, HJ1, BK133, HB⟩ := hcut
  cases kq with
  | zero => exact absurd HA.out (by simp [spec_PageUsed.j0])
  | succ kj1 =>
   have H := HA.out
   clear HA
   simp only [spec_PageUsed.j0] at H
   by_cases c8 : x14_1 = true
   ·subst c8
    have H1 : (some (-1)) = some r := by rw [if_pos rfl] at H; exact H
    clear H
    have H := H1
    clear H1
    obtain rfl := Option.some.inj H
    go_wp2
    go_ret
    exact ⟨by first | rfl | (simp [errW_none, errW_some] <;> rfl) | (simp [*, errW_none, errW_some] <;> rfl), by with_reducible repeat (first | exact HB.out | refine h4 ?_ GE133.out | apply h1 | apply h2 | apply h3)⟩
   ·replace c8 := Bool.eq_false_iff.mpr c8
    subst c8
    have H1 : (spec_PageUsed.l0 kj1 (wrap64 (1 + (l0_1.length : Int))) 0 a0_0 l0_1) = some r := by rw [if_neg (show ¬ (false = true) by decide)] at H; exact H
    clear H
    have H := H1
    clear H1
    have H' := Aside0.mk H
    clear H
    obtain ⟨hcz9_0, hcz9_1⟩ := blk_cells2 BK133.out
    obtain ⟨hfz9_0, hfz9_1⟩ := blk_frozens2 BK133.out
    go_wp2
    go_loopg [3, 4] kj1 (fun kq v3 v4 w' => ∃ (x3_2 : Int) (x4_2 : Int), v3 = .int .i64 x3_2 ∧ v4 = .int .i64 x4_2 ∧ Aside0 (spec_PageUsed.l0 kq x3_2 x4_2 a0_0 l0_1 = some r) ∧ Aside0 (kq ≤ kj1) ∧ Aside0 (w'.heap[gb133]? = some (.cells #[.int .i64 a0_0, (.slice A0_1 l0_1.length c0_1)] 27 (0, 0))) ∧ Aside0 (Below w.heap.size w w'))
    case atStart => exact ⟨(wrap64 (1 + (l0_1.length : Int))), (0), (by first | rfl | (simp; done) | (simp [*]; done)), (by first | rfl | (simp; done) | (simp [*]; done)), H', ⟨Nat.le_refl _⟩, ⟨by exact bup BK133.out⟩, ⟨by with_reducible repeat (first | exact HB.out | refine h4 ?_ GE133.out | apply h1 | apply h2 | apply h3)⟩⟩
    case round =>
     clear H'
     try clear c1
     try clear p2
     try clear c3
     try clear c5
     try clear p6
     try clear c8
     try clear hcz6_0
     try clear hcz6_1
     try clear hcz7_0
     try clear hcz7_1
     try clear hcz9_0
     try clear hcz9_1
     try clear hfz6_0
     try clear hfz6_1
     try clear hfz7_0
     try clear hfz7_1
     try clear hfz9_0
     try clear hfz9_1
     try clear p2
     obtain ⟨x3_2, x4_2, rfl, rfl, HA, HK2, BK133, HB⟩ := hrel
     cases gk with
     | zero => exact absurd HA.out (by simp [spec_PageUsed.l0])
     | succ k2 =>
      have H := HA.out
      clear HA
      simp only [spec_PageUsed.l0] at H
      by_cases c10 : x4_2 < (l0_1.length : Int)
      ·rw [if_pos c10] at H
       have c10b0 : decide (x4_2 < (l0_1.length : Int)) = true := decide_eq_true c10
       clear c10
       by_cases c11 : 0 ≤ x4_2
       ·rw [if_pos c11] at H
        have c11b0 : decide (0 ≤ x4_2) = true := decide_eq_true c11
        clear c11
        by_cases c12 : ((rd_L1 l0_1 x4_2).length : Int) > 92
        ·rw [if_pos c12] at H
         have c12b0 : decide (92 < ((rd_L1 l0_1 x4_2).length : Int)) = true := decide_eq_true c12
         have c12b1 : decide (92 < (rd_L1 l0_1 x4_2).length) = true := decide_eq_true (by omega)
         clear c12
         obtain rfl := Option.some.inj H
         obtain ⟨hcz13_0, hcz13_1⟩ := blk_cells2 BK133.out
         obtain ⟨hfz13_0, hfz13_1⟩ := blk_frozens2 BK133.out
         have p135 : 0 ≤ (x4_2 : Int) := of_decide_eq_true (by first | (with_reducible assumption) | assumption)
         have q135 : x4_2 < (l0_1.length : Int) := of_decide_eq_true (by first | (with_reducible assumption) | assumption)
         obtain ⟨ad135, A135_0, c135_0, e135, hx135_0, hl135_0, hi135_0⟩ := at_L1 HR0_1.out x4_2 p135 q135
         cases e135
         replace hx135_0 := (HB.out.cell (World.block_lt_of_cell? w _ hx135_0)).trans hx135_0
         have HR135_0 := Aside0.mk hi135_0
         have HC135_0 := Aside0.mk hl135_0
         clear hi135_0 hl135_0
         replace p135 := eq_true p135
         replace q135 := eq_true q135
         go_wp2
         go_ret
         exact ⟨by first | rfl | (simp [errW_none, errW_some] <;> rfl) | (simp [*, errW_none, errW_some] <;> rfl), by with_reducible repeat (first | exact HB.out | refine h4 ?_ GE133.out | apply h1 | apply h2 | apply h3)⟩
        ·rw [if_neg c12] at H
         have c12b0 : decide (92 < ((rd_L1 l0_1 x4_2).length : Int)) = false := decide_eq_false c12
         have c12b1 : decide (92 < (rd_L1 l0_1 x4_2).length) = false := decide_eq_false (by omega)
         clear c12
         have H' := Aside0.mk H
         clear H
         obtain ⟨hcz14_0, hcz14_1⟩ := blk_cells2 BK133.out
         obtain ⟨hfz14_0, hfz14_1⟩ := blk_frozens2 BK133.out
         have p135 : 0 ≤ (x4_2 : Int) := of_decide_eq_true (by first | (with_reducible assumption) | assumption)
         have q135 : x4_2 < (l0_1.length : Int) := of_decide_eq_true (by first | (with_reducible assumption) | assumption)
         obtain ⟨ad135, A135_0, c135_0, e135, hx135_0, hl135_0, hi135_0⟩ := at_L1 HR0_1.out x4_2 p135 q135
         cases e135
         replace hx135_0 := (HB.out.cell (World.block_lt_of_cell? w _ hx135_0)).trans hx135_0
         have HR135_0 := Aside0.mk hi135_0
         have HC135_0 := Aside0.mk hl135_0
         clear hi135_0 hl135_0
         replace p135 := eq_true p135
         replace q135 := eq_true q135
         have p136 : 0 ≤ (x4_2 : Int) := of_decide_eq_true (by first | (with_reducible assumption) | assumption)
         have q136 : x4_2 < (l0_1.length : Int) := of_decide_eq_true (by first | (with_reducible assumption) | assumption)
         obtain ⟨ad136, A136_0, c136_0, e136, hx136_0, hl136_0, hi136_0⟩ := at_L1 HR0_1.out x4_2 p136 q136
         obtain rfl : ad135 = ad136 := (by injection e136)
         replace hx136_0 := (HB.out.cell (World.block_lt_of_cell? w _ hx136_0)).trans hx136_0
         have HR136_0 := Aside0.mk hi136_0
         have HC136_0 := Aside0.mk hl136_0
         clear hi136_0 hl136_0
         replace p136 := eq_true p136
         replace q136 := eq_true q136
         have ea_ := Option.some.inj (hx135_0.symm.trans hx136_0)
         injection ea_ with ea_ en_ ec_
         subst ea_
         subst ec_
         clear en_
         go_wp2
         go_roundg k2
         case measure => have := HJ1.out; have := HK2.out; omega
         case rel => exact ⟨(wrap64 (x3_2 + ((rd_L1 l0_1 x4_2).length : Int))), (wrap64 (x4_2 + 1)), (by first | rfl | (simp; done) | (simp [*]; done)), (by first | rfl | (simp; done) | (simp [*]; done)), H', ⟨by have := HJ1.out; have := HK2.out; omega⟩, ⟨by exact bup BK133.out⟩, ⟨by with_reducible repeat (first | exact HB.out | refine h4 ?_ GE133.out | apply h1 | apply h2 | apply h3)⟩⟩
       ·rw [if_neg c11] at H
        exact absurd H (by simp)
      ·rw [if_neg c10] at H
       have c10b0 : decide (x4_2 < (l0_1.length : Int)) = false := decide_eq_false c10
       clear c10
       have HC15 := Aside0.mk H
       clear H
       obtain ⟨hcz16_0, hcz16_1⟩ := blk_cells2 BK133.out
       obtain ⟨hfz16_0, hfz16_1⟩ := blk_frozens2 BK133.out
       go_upto_region 10 with (fail)
       go_cut [56] (fun v56 wc => ∃ (kq : Nat) (x56_14 : Bool), v56 = .bool x56_14 ∧ Aside0 (spec_PageUsed.j2 kq x3_2 x56_14 = some r) ∧ Aside0 (kq ≤ k2) ∧ Aside0 (wc.heap[gb133]? = some (.cells #[.int .i64 a0_0, (.slice A0_1 l0_1.length c0_1)] 27 (0, 0))) ∧ Aside0 (Below w.heap.size w wc))
       case first =>
        have H := HC15.out
        clear HC15
        by_cases c17 : (l0_1.length : Int) > 0
        ·rw [if_pos c17] at H
         have c17b0 : decide (0 < (l0_1.length : Int)) = true := decide_eq_true c17
         have c17b1 : decide (0 < l0_1.length) = true := decide_eq_true (by omega)
         clear c17
         (first | rw [c17b0] | (simp only [i64_w, i32_w]; rw [c17b0]) | skip)
         obtain ⟨ji18, hji18⟩ : ∃ j_ : Int, (wrap64 ((l0_1.length : Int) - 1)) = j_ := ⟨_, rfl⟩
         replace H : (if 0 ≤ (ji18) then (if (ji18) < (l0_1.length : Int) then (spec_PageUsed.j2 k2 x3_2 (((rd_L1 l0_1 (ji18)).length : Int) == 0)) else (none)) else (none)) = some r := by first | (rw [hji18] at H; exact H) | (simp only [hji18] at H ⊢; exact H)
         have hji18w : (IntKind.i64.wrap ((l0_1.length : Int) - 1)) = ji18 := (i64_w _).trans hji18
         by_cases c19 : 0 ≤ (ji18)
         ·rw [if_pos c19] at H
          have c19b0 : decide (0 ≤ (ji18)) = true := decide_eq_true c19
          clear c19
          by_cases c20 : (ji18) < (l0_1.length : Int)
          ·rw [if_pos c20] at H
           have c20b0 : decide ((ji18) < (l0_1.length : Int)) = true := decide_eq_true c20
           clear c20
           have H' := Aside0.mk H
           clear H
           obtain ⟨hcz21_0, hcz21_1⟩ := blk_cells2 BK133.out
           obtain ⟨hfz21_0, hfz21_1⟩ := blk_frozens2 BK133.out
           have p137 : 0 ≤ ((ji18) : Int) := of_decide_eq_true (by first | (with_reducible assumption) | assumption)
           have q137 : (ji18) < (l0_1.length : Int) := of_decide_eq_true (by first | (with_reducible assumption) | assumption)
           obtain ⟨ad137, A137_0, c137_0, e137, hx137_0, hl137_0, hi137_0⟩ := at_L1 HR0_1.out (ji18) p137 q137
           cases e137
           replace hx137_0 := (HB.out.cell (World.block_lt_of_cell? w _ hx137_0)).trans hx137_0
           have HR137_0 := Aside0.mk hi137_0
           have HC137_0 := Aside0.mk hl137_0
           clear hi137_0 hl137_0
           replace p137 := eq_true p137
           replace q137 := eq_true q137
           go_wp2
           go_meet
           case rel => exact ⟨_, ((((rd_L1 l0_1 (ji18)).length : Int) == 0)), (by first | rfl | (simp; done) | (simp only [← hji18] <;> (first | rfl | simp)) | (simp [*]; done)), H', ⟨by have := HJ1.out; have := HK2.out; first | omega | exact Nat.le_refl _⟩, ⟨by exact bup BK133.out⟩, ⟨by with_reducible repeat (first | exact HB.out | refine h4 ?_ GE133.out | apply h1 | apply h2 | apply h3)⟩⟩
          ·rw [if_neg c20] at H
           exact absurd H (by simp)
         ·rw [if_neg c19] at H
          exact absurd H (by simp)
        ·rw [if_neg c17] at H
         have c17b0 : decide (0 < (l0_1.length : Int)) = false := decide_eq_false c17
         have c17b1 : decide (0 < l0_1.length) = false := decide_eq_false (by omega)
         clear c17
         (first | rw [c17b0] | (simp only [i64_w, i32_w]; rw [c17b0]) | skip)
         have H' := Aside0.mk H
         clear H
         obtain ⟨hcz22_0, hcz22_1⟩ := blk_cells2 BK133.out
         obtain ⟨hfz22_0, hfz22_1⟩ := blk_frozens2 BK133.out
         go_wp2
         go_meet
         case rel => exact ⟨_, (false), (by first | rfl | (simp; done) | (simp [*]; done)), H', ⟨by have := HJ1.out; have := HK2.out; first | omega | exact Nat.le_refl _⟩, ⟨by exact bup BK133.out⟩, ⟨by with_reducible repeat (first | exact HB.out | refine h4 ?_ GE133.out | apply h1 | apply h2 | apply h3)⟩⟩
       case rest =>
        clear HC15
        try clear c1
        try clear p1
        try clear q1
        try clear hx1
        try clear c2
        try clear p2
        try clear c3
        try clear c5
        try clear p6
        try clear c8
        try clear c10
        try clear c10b0
        try clear c11
        try clear c11b0
        try clear c12
        try clear c12b0
        try clear c12b1
        try clear c13
        try clear p13
        try clear q13
        try clear hx13
        try clear c17
        try clear c17b0
        try clear c17b1
        try clear c19
        try clear c19b0
        try clear c20
        try clear c20b0
        try clear hcz13_0
        try clear hcz13_1
        try clear hcz14_0
        try clear hcz14_1
        try clear hcz16_0
        try clear hcz16_1
        try clear hcz21_0
        try clear hcz21_1
        try clear hcz22_0
        try clear hcz22_1
        try clear hcz6_0
        try clear hcz6_1
        try clear hcz7_0
        try clear hcz7_1
        try clear hcz9_0
        try clear hcz9_1
        try clear hfz13_0
        try clear hfz13_1
        try clear hfz14_0
        try clear hfz14_1
        try clear hfz16_0
        try clear hfz16_1
        try clear hfz21_0
        try clear hfz21_1
        try clear hfz22_0
        try clear hfz22_1
        try clear hfz6_0
        try clear hfz6_1
        try clear hfz7_0
        try clear hfz7_1
        try clear hfz9_0
        try clear hfz9_1
        try clear hx135_0
        try clear hx136_0
        try clear hx137_0
        try clear p135
        try clear p136
        try clear p137
        try clear p2
        try clear p6
        try clear q135
        try clear q136
        try clear q137
        obtain ⟨kq, x56_14, rfl, HA, HJ14, BK133, HB⟩ := hcut
        cases kq with
        | zero => exact absurd HA.out (by simp [spec_PageUsed.j2])
        | succ kj14 =>
         have H := HA.out
         clear HA
         simp only [spec_PageUsed.j2] at H
         by_cases c23 : x56_14 = true
         ·subst c23
          have H1 : (some (-1)) = some r := by rw [if_pos rfl] at H; exact H
          clear H
          have H := H1
          clear H1
          obtain rfl := Option.some.inj H
          go_wp2
          go_ret
          exact ⟨by first | rfl | (simp [errW_none, errW_some] <;> rfl) | (simp [*, errW_none, errW_some] <;> rfl), by with_reducible repeat (first | exact HB.out | refine h4 ?_ GE133.out | apply h1 | apply h2 | apply h3)⟩
         ·replace c23 := Bool.eq_false_iff.mpr c23
          subst c23
          have H1 : (if x3_2 > 240 then (some (-1)) else (some x3_2)) = some r := by rw [if_neg (show ¬ (false = true) by decide)] at H; exact H
          clear H
          have H := H1
          clear H1
          by_cases c24 : x3_2 > 240
          ·rw [if_pos c24] at H
           have c24b0 : decide (240 < x3_2) = true := decide_eq_true c24
           clear c24
           obtain rfl := Option.some.inj H
           go_wp2
           go_ret
           exact ⟨by first | rfl | (simp [errW_none, errW_some] <;> rfl) | (simp [*, errW_none, errW_some] <;> rfl), by with_reducible repeat (first | exact HB.out | refine h4 ?_ GE133.out | apply h1 | apply h2 | apply h3)⟩
          ·rw [if_neg c24] at H
           have c24b0 : decide (240 < x3_2) = false := decide_eq_false c24
           clear c24
           obtain rfl := Option.some.inj H
           go_wp2
           go_ret
           exact ⟨by first | rfl | (simp [errW_none, errW_some] <;> rfl) | (simp [*, errW_none, errW_some] <;> rfl), by with_reducible repeat (first | exact HB.out | refine h4 ?_ GE133.out | apply h1 | apply h2 | apply h3)⟩

/-! ### spec_PutNum: function 50 -/
mutual
def spec_PutNum.j0 : Nat → Int → Int → List Int → Bool → Option (List Int)
  | 0, _, _, _, _ => none
  | k + 1, x0, x1, x5, x16 => if x16 = true then (some x5) else (spec_PutNum.l0 k x0 x1 x5 0)
def spec_PutNum.l0 : Nat → Int → Int → List Int → Int → Option (List Int)
  | 0, _, _, _, _ => none
  | k + 1, x0, x1, x5, x6 => if x6 < x1 then (if x5.length < 140737488355328 then (spec_PutNum.l0 k (wrap64 (Int.tdiv x0 256)) x1 (x5 ++ [(Int.tmod x0 256) % 256]) (wrap64 (x6 + 1))) else (none)) else (if x0 > 0 then (some ([] : List Int)) else (some x5))
end
def spec_PutNum.f (k : Nat) (a0 : Int) (a1 : Int) : Option (List Int) := if a1 < 1 then (spec_PutNum.j0 k a0 a1 ([] : List Int) true) else (if a1 > 8 then (spec_PutNum.j0 k a0 a1 ([] : List Int) true) else (spec_PutNum.j0 k a0 a1 ([] : List Int) (decide (a0 < 0))))
theorem spec_PutNum.mono_l : ∀ k, (∀ y0 y1 y2 y3, LeO (spec_PutNum.j0 k y0 y1 y2 y3) (spec_PutNum.j0 (k + 1) y0 y1 y2 y3)) ∧ (∀ y0 y1 y2 y3, LeO (spec_PutNum.l0 k y0 y1 y2 y3) (spec_PutNum.l0 (k + 1) y0 y1 y2 y3))
  | 0 => ⟨fun _ _ _ _ r h => by simp [spec_PutNum.j0] at h, fun _ _ _ _ r h => by simp [spec_PutNum.l0] at h⟩
  | k + 1 => by
    obtain ⟨ih0, ih1⟩ := spec_PutNum.mono_l k
    refine ⟨?_, ?_⟩
    · intro y0 y1 y2 y3
      unfold spec_PutNum.j0
      repeat' with_reducible first | exact ih0 _ _ _ _ | exact ih1 _ _ _ _ | exact LeO.refl _ | exact LeO.none _ | refine LeO.ite ?_ ?_ | refine LeO.bind ?_ (fun _ => ?_)
    · intro y0 y1 y2 y3
      unfold spec_PutNum.l0
      repeat' with_reducible first | exact ih0 _ _ _ _ | exact ih1 _ _ _ _ | exact LeO.refl _ | exact LeO.none _ | refine LeO.ite ?_ ?_ | refine LeO.bind ?_ (fun _ => ?_)
theorem spec_PutNum.mono : ∀ a0 a1 k, LeO (spec_PutNum.f k a0 a1) (spec_PutNum.f (k + 1) a0 a1) := by
  intro a0 a1 k
  obtain ⟨ih0, ih1⟩ := spec_PutNum.mono_l k
  unfold spec_PutNum.f
  repeat' with_reducible first | exact ih0 _ _ _ _ | exact ih1 _ _ _ _ | exact LeO.refl _ | exact LeO.none _ | refine LeO.ite ?_ ?_ | refine LeO.bind ?_ (fun _ => ?_)
set_option maxHeartbeats 8000000 in
set_option maxRecDepth 100000 in
theorem spec_PutNum.calls (k : Nat) (a0 : Int) (a1 : Int) (r : List Int) (w : World) (h : spec_PutNum.f k a0 a1 = some r) :
    Calls Try.prog 50 #[.int .i64 a0, .int .i64 a1] w fun e w' => ∃ v0_ : Value, e = .returned (v0_) ∧ Kd.R (Kd.int .u8) 5 w' w.heap.size (fun _ => True) v0_ r ∧ Below w.heap.size w w' := by
  have HB := Aside0.mk (Below.refl w.heap.size w)
  have H : (if a1 < 1 then (spec_PutNum.j0 k a0 a1 ([] : List Int) true) else (if a1 > 8 then (spec_PutNum.j0 k a0 a1 ([] : List Int) true) else (spec_PutNum.j0 k a0 a1 ([] : List Int) (decide (a0 < 0))))) = some r := h
  clear h
  have HC3 := Aside0.mk H
  clear H
  go_enter Try.func50, Try.ntmps50
  go_upto_region 2 with (fail)
  go_cut [16] (fun v16 wc => ∃ (kq : Nat) (x16_2 : Bool), v16 = .bool x16_2 ∧ Aside0 (spec_PutNum.j0 kq a0 a1 ([] : List Int) x16_2 = some r) ∧ Aside0 (kq ≤ k) ∧ Aside0 (Kd.R (Kd.int .u8) 5 wc w.heap.size (fun _ => True) (.slice none 0 0) ([] : List Int)) ∧ Aside0 (Below w.heap.size w wc))
  case first =>
    have H := HC3.out
    clear HC3
    by_cases c4 : a1 < 1
    · rw [if_pos c4] at H
      have c4b0 : decide (a1 < 1) = true := decide_eq_true c4
      clear c4
      (first | rw [c4b0] | (simp only [i64_w, i32_w]; rw [c4b0]) | skip)
      have H' := Aside0.mk H
      clear H
      go_wp2
      go_meet
      case rel => exact ⟨_, (true), (by first | rfl | (simp; done) | (simp [*]; done)), H', ⟨by first | omega | exact Nat.le_refl _⟩, ⟨by first | exact Kd.R_nil _ _ _ _ _ | exact Kd.N_nil _ _ _ _ _ | exact Kd.V_nil _ _ _ _ _ | exact Kd.Q_nil _ _ _ _ _ | exact Kd.S_nil _ _ _ _ _⟩, ⟨by with_reducible repeat (first | exact HB.out | apply h1 | apply h2 | apply h3)⟩⟩
    · rw [if_neg c4] at H
      have c4b0 : decide (a1 < 1) = false := decide_eq_false c4
      clear c4
      (first | rw [c4b0] | (simp only [i64_w, i32_w]; rw [c4b0]) | skip)
      by_cases c5 : a1 > 8
      · rw [if_pos c5] at H
        have c5b0 : decide (8 < a1) = true := decide_eq_true c5
        clear c5
        have H' := Aside0.mk H
        clear H
        go_wp2
        go_meet
        case rel => exact ⟨_, (true), (by first | rfl | (simp; done) | (simp [*]; done)), H', ⟨by first | omega | exact Nat.le_refl _⟩, ⟨by first | exact Kd.R_nil _ _ _ _ _ | exact Kd.N_nil _ _ _ _ _ | exact Kd.V_nil _ _ _ _ _ | exact Kd.Q_nil _ _ _ _ _ | exact Kd.S_nil _ _ _ _ _⟩, ⟨by with_reducible repeat (first | exact HB.out | apply h1 | apply h2 | apply h3)⟩⟩
      · rw [if_neg c5] at H
        have c5b0 : decide (8 < a1) = false := decide_eq_false c5
        clear c5
        have H' := Aside0.mk H
        clear H
        go_wp2
        go_meet
        case rel => exact ⟨_, (decide (a0 < 0)), (by first | rfl | (simp; done) | (simp [*]; done)), H', ⟨by first | omega | exact Nat.le_refl _⟩, ⟨by first | exact Kd.R_nil _ _ _ _ _ | exact Kd.N_nil _ _ _ _ _ | exact Kd.V_nil _ _ _ _ _ | exact Kd.Q_nil _ _ _ _ _ | exact Kd.S_nil _ _ _ _ _⟩, ⟨by with_reducible repeat (first | exact HB.out | apply h1 | apply h2 | apply h3)⟩⟩
  case rest =>
    clear HC3
    try clear p2
    try clear c4
    try clear c4b0
    try clear c5
    try clear c5b0
    obtain ⟨kq, x16_2, rfl, HA, HJ2, HO_5, HB⟩ := hcut
    cases kq with
    | zero => exact absurd HA.out (by simp [spec_PutNum.j0])
    | succ kj2 =>
      have H := HA.out
      clear HA
      simp only [spec_PutNum.j0] at H
      by_cases c6 : x16_2 = true
      · subst c6
        have H1 : (some ([] : List Int)) = some r := by rw [if_pos rfl] at H; exact H
        clear H
        have H := H1
        clear H1
        obtain rfl := Option.some.inj H
        go_wp2
        go_ret
        exact ⟨_, by first | rfl | (simp [errW_none, errW_some] <;> rfl) | (simp [*, errW_none, errW_some] <;> rfl), by exact Kd.rup HO_5.out, by with_reducible repeat (first | exact HB.out | apply h1 | apply h2 | apply h3)⟩
      · replace c6 := Bool.eq_false_iff.mpr c6
        subst c6
        have H1 : (spec_PutNum.l0 kj2 a0 a1 ([] : List Int) 0) = some r := by rw [if_neg (show ¬ (false = true) by decide)] at H; exact H
        clear H
        have H := H1
        clear H1
        have H' := Aside0.mk H
        clear H
        go_wp2
        go_loopg [0, 5, 6] kj2 (fun kq v0 v5 v6 w' => ∃ (x0_2 : Int) (x5_2 : List Int) (x6_2 : Int), v0 = .int .i64 x0_2 ∧ v6 = .int .i64 x6_2 ∧ Aside0 (spec_PutNum.l0 kq x0_2 a1 x5_2 x6_2 = some r) ∧ Aside0 (kq ≤ kj2) ∧ Aside0 (Kd.R (Kd.int .u8) 5 w' w.heap.size (fun _ => True) v5 x5_2) ∧ Aside0 (Below w.heap.size w w'))
        case atStart => exact ⟨(a0), (([] : List Int)), (0), (by first | rfl | (simp; done) | (simp [*]; done)), (by first | rfl | (simp; done) | (simp [*]; done)), H', ⟨Nat.le_refl _⟩, ⟨by exact Kd.rup HO_5.out⟩, ⟨by with_reducible repeat (first | exact HB.out | apply h1 | apply h2 | apply h3)⟩⟩
        case round =>
          clear H'
          try clear p2
          try clear c4
          try clear c4b0
          try clear c5
          try clear c5b0
          try clear c6
          try clear p2
          obtain ⟨x0_2, x5_2, x6_2, rfl, rfl, HA, HK2, HO_5, HB⟩ := hrel
          cases gk with
          | zero => exact absurd HA.out (by simp [spec_PutNum.l0])
          | succ k2 =>
            have H := HA.out
            clear HA
            simp only [spec_PutNum.l0] at H
            by_cases c7 : x6_2 < a1
            · rw [if_pos c7] at H
              have c7b0 : decide (x6_2 < a1) = true := decide_eq_true c7
              clear c7
              by_cases c8 : x5_2.length < 140737488355328
              · rw [if_pos c8] at H
                have LMc8 := Aside0.mk c8
                clear c8
                obtain ⟨y138, hy138⟩ : ∃ y_ : List Int, y_ = (x5_2 ++ [(Int.tmod x0_2 256) % 256]) := ⟨_, rfl⟩
                replace H : (spec_PutNum.l0 k2 (wrap64 (Int.tdiv x0_2 256)) a1 y138 (wrap64 (x6_2 + 1))) = some r := by first | (rw [hy138]; with_reducible exact H) | (have H2_ := (Option.bind_some _ _).symm.trans H; rw [hy138]; with_reducible exact H2_) | (have H2_ := (Option.bind_some _ _).symm.trans H; with_reducible exact H2_) | with_reducible exact H | (rw [hy138]; exact H) | exact H
                have Ny138 := Aside0.mk hy138
                clear hy138
                have H' := Aside0.mk H
                clear H
                go_wp2_with (first | ((with_reducible refine gate_builtin (b := .append) (xs := #[.tmp 23, .tmp 27]) rfl ?_); at_builtin; refine Kd.R_append (Kd.int .u8) (w0 := w) w.heap.size rfl (.tmp 23) (.tmp 27) 36 5 (.int .u8 0) 1 rfl Try.underlying36 info5 rfl (by decide) (by omega) u5 x5_2 ((Int.tmod x0_2 256) % 256) [.int .u8 ((Int.tmod x0_2 256) % 256)] (fun _ => True) (fun _ => False) rfl rfl ?aP (fun _ hk => hk.elim) ?aF ?aO ?aB ?aS ?aL ?_; (case aP => exact rfl); (case aB => exact (hup HB.out)); (case aF => exact (fun _ _ => trivial)); (case aO => exact (Kd.rup HO_5.out)); (case aS => exact (below_size (hup HB.out))); (case aL => have := LMc8.out; omega); intro v139 w9 ho hb hg hat; rw [← Ny138.out] at ho; have n0_ := Aside0.mk (hb); have n1_ := Aside0.mk (ho); clear HB; clear HO_5; have HB := n0_; have HO140 := n1_; clear n0_ n1_; clear ho hb hg hat))
                go_roundg k2
                case measure => have := HJ2.out; have := HK2.out; omega
                case rel => exact ⟨(wrap64 (Int.tdiv x0_2 256)), (y138), (wrap64 (x6_2 + 1)), (by first | rfl | (simp; done) | (simp [*]; done)), (by first | rfl | (simp; done) | (simp [*]; done)), H', ⟨by have := HJ2.out; have := HK2.out; omega⟩, ⟨by exact Kd.rup HO140.out⟩, ⟨by with_reducible repeat (first | exact HB.out | apply h1 | apply h2 | apply h3)⟩⟩
              · rw [if_neg c8] at H
                exact absurd H (by simp)
            · rw [if_neg c7] at H
              have c7b0 : decide (x6_2 < a1) = false := decide_eq_false c7
              clear c7
              by_cases c10 : x0_2 > 0
              · rw [if_pos c10] at H
                have c10b0 : decide (0 < x0_2) = true := decide_eq_true c10
                clear c10
                obtain rfl := Option.some.inj H
                go_wp2
                go_ret
                exact ⟨_, by first | rfl | (simp [errW_none, errW_some] <;> rfl) | (simp [*, errW_none, errW_some] <;> rfl), by first | exact Kd.R_nil _ _ _ _ _ | exact Kd.N_nil _ _ _ _ _ | exact Kd.V_nil _ _ _ _ _ | exact Kd.Q_nil _ _ _ _ _ | exact Kd.S_nil _ _ _ _ _, by with_reducible repeat (first | exact HB.out | apply h1 | apply h2 | apply h3)⟩
              · rw [if_neg c10] at H
                have c10b0 : decide (0 < x0_2) = false := decide_eq_false c10
                clear c10
                obtain rfl := Option.some.inj H
                go_wp2
                go_ret
                exact ⟨_, by first | rfl | (simp [errW_none, errW_some] <;> rfl) | (simp [*, errW_none, errW_some] <;> rfl), by exact Kd.rup HO_5.out, by with_reducible repeat (first | exact HB.out | apply h1 | apply h2 | apply h3)⟩

end Go.Proofs.Ytokpniagnbaflaa.PFnExactPageBytes

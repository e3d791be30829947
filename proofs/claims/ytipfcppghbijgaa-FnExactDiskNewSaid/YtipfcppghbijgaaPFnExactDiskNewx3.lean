-- By this session's own program (wip/xprint.py), over the kit's print.
import Derived.Test.YtipfcppghbijgaaPFnExactDiskNewx0
import Derived.Test.YtipfcppghbijgaaPFnExactDiskNewx1
import Derived.Test.YtipfcppghbijgaaPFnExactDiskNewx2
namespace Go.Proofs.Ytipfcppghbijgaa.PFnExactDiskNew
open Go.RowKit Go.Proofs.YtipfcppghbijgaaW.PrintWords Go.Proofs.YtipfcppghbijgaaW.PrintLast Go.Proofs.YtipfcppghbijgaaW.PrintMore
attribute [local go_sem] max2_int min2_int max_two min_two max_three min_three max_four min_four   -- for this text's walks alone
attribute [local go_sem high] fl_eql fl_neq fl_lss fl_leq fl_gtr fl_geq fl_add fl_sub fl_mul fl_quo fl_neg fl_ofInt fl_toInt fl_store ext_bits
set_option linter.unusedVariables false
set_option linter.unusedSimpArgs false

/-! ### laws_markByteSS: function 38 -/
def laws_markByteSS.go (k : Nat) : Nat → Nat → List (List Int) → Int → Option (Int × List (List Int))
  | 0, _, y, a => some (a, y)
  | d + 1, i, y, a => (laws_markByteS.f k (y.getD i []) a).bind fun t => laws_markByteSS.go k d (i + 1) (y.set i t.2) t.1
def laws_markByteSS.f (k : Nat) (l0 : List (List Int)) (a1 : Int) : Option (Int × (List (List Int))) := if l0.length ≤ 1048576 then laws_markByteSS.go k l0.length 0 l0 a1 else none
set_option maxHeartbeats 8000000 in
set_option maxRecDepth 100000 in
theorem laws_markByteSS.calls (k : Nat) (P0_ : Nat → Prop) (A0 : Option Addr) (c0 : Nat) (l0 : List (List Int)) (a1 : Int) (r1 : Int) (r2 : List (List Int)) (w0 w : World) (hB : Below w0.heap.size w0 w) (ho0 : Kd.S (Kd.slice 5 (Kd.int .u8)) 37 w w0.heap.size P0_ (.slice A0 l0.length c0) l0) (h : laws_markByteSS.f k l0 a1 = some (r1, r2)) :
    Calls Try.prog 38 #[.slice A0 l0.length c0, .int .i64 a1] w fun e w' => e = .returned (.int .i64 r1) ∧ Kd.S (Kd.slice 5 (Kd.int .u8)) 37 w' w0.heap.size P0_ (.slice A0 l0.length c0) r2 ∧ Below w0.heap.size w0 w' ∧ Kept w w' P0_ := by
  unfold laws_markByteSS.f at h
  by_cases hlen : l0.length ≤ 1048576
  case neg =>
    rw [if_neg hlen] at h
    cases h
  rw [if_pos hlen] at h
  have H' := Aside0.mk h
  have HO := Aside0.mk ho0
  have HB := Aside0.mk hB
  clear h ho0 hB
  go_enter Try.func38, Try.ntmps38
  go_wp2
  go_loopw [1, 5] (fun v1 v5 wr => ∃ (i : Nat) (a : Int) (y : List (List Int)), v1 = .int .i64 a ∧ v5 = .int .i64 (i : Int) ∧ Aside0 (i ≤ l0.length ∧ y.length = l0.length ∧ laws_markByteSS.go k (l0.length - i) i y a = some (r1, r2)) ∧ Aside0 (Kd.S (Kd.slice 5 (Kd.int .u8)) 37 wr w0.heap.size P0_ (.slice A0 l0.length c0) y) ∧ Aside0 (Below w0.heap.size w0 wr) ∧ Aside0 (Kept w wr P0_)) (fun _ v _ => l0.length - (intOf v).toNat)
  case atStart => exact ⟨0, a1, l0, rfl, rfl, ⟨by omega, rfl, H'.out⟩, HO, HB, ⟨Kept.refl _ _⟩⟩
  case round =>
    obtain ⟨i, a, y, rfl, rfl, ⟨hi, hy, hg⟩, HO2, HB2, HK2⟩ := hrel
    by_cases hlt : i < l0.length
    · have cc : decide ((i : Int) < (l0.length : Int)) = true := decide_eq_true (by omega)
      have p1 : 0 ≤ (i : Int) := by omega
      obtain ⟨g, cap, ev, hbg, hgl, _⟩ := Kd.S_form HO2.out (by omega)
      rw [hy] at ev
      injection ev with ea en ec
      subst ea
      subst ec
      have HL := Kd.S_lend HO2.out ([] : List Int) (i : Int) p1 (by omega)
      obtain ⟨oki, c, hcl, hM, hcc, hoki, hH⟩ := HL
      obtain ⟨v, rfl, hR⟩ := hM
      have hx : wr.cell? ⟨g, i, none⟩ = some v := by
        have := hcc 0 v rfl
        rw [Int.toNat_natCast] at this
        simpa [Kd.slice] using this
      rw [show l0.length - i = (l0.length - (i + 1)) + 1 by omega] at hg
      rw [laws_markByteSS.go] at hg
      obtain ⟨⟨t1, t2⟩, hA, hg⟩ := Option.bind_eq_some_iff.1 hg
      dsimp only at hg
      have HA := Aside0.mk hA
      have HH := Aside0.mk hH
      have HR := Aside0.mk hR
      have HOK := Aside0.mk hoki
      clear hcc hA hH hR hoki
      go_wp2_with (first | (go_at_call 21; refine (laws_markByteS.calls k oki v (y.getD i []) a t1 t2 w0 _ HB2.out HR.out HA.out).mono ?_; rintro e w' ⟨rfl, hR2, hB2, hK2⟩))
      have HS := Aside0.mk (Kd.H_back (Kd.H_kept HH.out hK2 (fun _ _ hn => hn)) (x' := t2) (okp := oki) ⟨v, rfl, Kd.R_back HR.out hR2 rfl⟩ (fun _ hk => hk))
      have HK3 := Aside0.mk (HK2.out.then_ hK2 (fun k hk => .inl (HOK.out k hk).1))
      have HB3 := Aside0.mk hB2
      clear hR2 hK2 hB2
      rw [Int.toNat_natCast] at HS
      go_roundw
      case measure => simp [intOf]; omega
      case rel => exact ⟨i + 1, t1, y.set i t2, rfl, by rw [Int.natCast_add]; rfl, ⟨by omega, by rw [List.length_set]; exact hy, hg⟩, HS, HB3, HK3⟩
    · have cc : decide ((i : Int) < (l0.length : Int)) = false := decide_eq_false (by omega)
      rw [show l0.length - i = 0 by omega, laws_markByteSS.go] at hg
      injection hg with hg
      injection hg with e1 e2
      subst e1
      subst e2
      go_wp2
      go_ret
      exact ⟨rfl, HO2.out, HB2.out, HK2.out⟩

/-! ### laws_markWriteS: function 39 -/
def laws_markWriteS.go (k : Nat) : Nat → Nat → List S68 → Int → Option (Int × List S68)
  | 0, _, y, a => some (a, y)
  | d + 1, i, y, a => if 0 ≤ a ∧ a ≤ 1000000000000 then (laws_markByteS.f k ((y.getD i z68).f1) (a + 1)).bind fun t => laws_markWriteS.go k d (i + 1) (y.set i ⟨(a), t.2⟩) t.1 else none
def laws_markWriteS.f (k : Nat) (l0 : List (S68)) (a1 : Int) : Option (Int × (List (S68))) := if l0.length ≤ 1048576 then laws_markWriteS.go k l0.length 0 l0 a1 else none
set_option maxHeartbeats 8000000 in
set_option maxRecDepth 100000 in
theorem laws_markWriteS.calls (k : Nat) (P0_ : Nat → Prop) (A0 : Option Addr) (c0 : Nat) (l0 : List (S68)) (a1 : Int) (r1 : Int) (r2 : List (S68)) (w0 w : World) (hB : Below w0.heap.size w0 w) (ho0 : Kd.S k68 68 w w0.heap.size P0_ (.slice A0 l0.length c0) l0) (h : laws_markWriteS.f k l0 a1 = some (r1, r2)) :
    Calls Try.prog 39 #[.slice A0 l0.length c0, .int .i64 a1] w fun e w' => e = .returned (.int .i64 r1) ∧ Kd.S k68 68 w' w0.heap.size P0_ (.slice A0 l0.length c0) r2 ∧ Below w0.heap.size w0 w' ∧ Kept w w' P0_ := by
  have hu := Try.underlying68
  unfold laws_markWriteS.f at h
  by_cases hlen : l0.length ≤ 1048576
  case neg =>
    rw [if_neg hlen] at h
    cases h
  rw [if_pos hlen] at h
  have H' := Aside0.mk h
  have HO := Aside0.mk ho0
  have HB := Aside0.mk hB
  clear h ho0 hB
  go_enter Try.func39, Try.ntmps39
  go_wp2
  go_loopw [1, 5] (fun v1 v5 wr => ∃ (i : Nat) (a : Int) (y : List (S68)), v1 = .int .i64 a ∧ v5 = .int .i64 (i : Int) ∧ Aside0 (i ≤ l0.length ∧ y.length = l0.length ∧ laws_markWriteS.go k (l0.length - i) i y a = some (r1, r2)) ∧ Aside0 (Kd.S k68 68 wr w0.heap.size P0_ (.slice A0 l0.length c0) y) ∧ Aside0 (Below w0.heap.size w0 wr) ∧ Aside0 (Kept w wr P0_)) (fun _ v _ => l0.length - (intOf v).toNat)
  case atStart => exact ⟨0, a1, l0, rfl, rfl, ⟨by omega, rfl, H'.out⟩, HO, HB, ⟨Kept.refl _ _⟩⟩
  case round =>
    obtain ⟨i, a, y, rfl, rfl, ⟨hi, hy, hg⟩, HO2, HB2, HK2⟩ := hrel
    by_cases hlt : i < l0.length
    · have cc : decide ((i : Int) < (l0.length : Int)) = true := decide_eq_true (by omega)
      have p1 : 0 ≤ (i : Int) := by omega
      obtain ⟨g, cap, ev, hbg, hgl, _⟩ := Kd.S_form HO2.out (by omega)
      rw [hy] at ev
      injection ev with ea en ec
      subst ea
      subst ec
      have HL := Kd.S_elem HO2.out z68 (i : Int) p1 (by omega)
      obtain ⟨oki, c, hcl, hM, hcc, hfr, hoki, hH⟩ := HL
      obtain ⟨v, rfl, hR⟩ := k68_openM hM
      have hgP : P0_ g := (Kd.S_R HO2.out).1 g (by simp [Value.ownBlock])
      rw [Int.toNat_natCast] at hcc hfr
      rw [show l0.length - i = (l0.length - (i + 1)) + 1 by omega] at hg
      rw [laws_markWriteS.go] at hg
      by_cases hab : 0 ≤ a ∧ a ≤ 1000000000000
      case neg =>
        rw [if_neg hab] at hg
        cases hg
      rw [if_pos hab] at hg
      obtain ⟨h0a, h1a⟩ := hab
      obtain ⟨⟨t1, t2⟩, hA, hg⟩ := Option.bind_eq_some_iff.1 hg
      dsimp only at hg
      have hx0 : wr.cell? ⟨g, i * 2, none⟩ = some (.int .i64 (rdOf z68 y (i : Int)).f0) := hcc 0 _ rfl
      have hx1 : wr.cell? ⟨g, i * 2 + 1, none⟩ = some v := hcc 1 v rfl
      have hf0 : wr.frozen? ⟨g, i * 2, none⟩ = false := hfr 0
      have hf1 : wr.frozen? ⟨g, i * 2 + 1, none⟩ = false := hfr 1
      have HA := Aside0.mk hA
      have HH := Aside0.mk hH
      have HR := Aside0.mk hR
      have HOK := Aside0.mk hoki
      have HGB := Aside0.mk hbg
      clear hcc hfr hA hH hR hoki hM hcl hbg
      have HBW := HB2
      have HKW := HK2
      have hs := Kd.H_seg HH.out p1 (by omega) (seg := [.int .i64 (a)]) (j := 0) (show 0 + 1 ≤ 2 by decide) (by intro q hq; rw [List.mem_singleton.1 hq]; rfl)
      rw [Int.toNat_natCast] at hs
      have hH2 : Kd.H k68 68 (wr.setCell ⟨g, i * 2, none⟩ (.int .i64 (a))) w0.heap.size P0_ (.slice (some ⟨g, 0, none⟩) l0.length c0) y (i : Int) oki [.int .i64 (a), v] := hs.1
      have hR2 : Kd.R (Kd.int .u8) 5 (wr.setCell ⟨g, i * 2, none⟩ (.int .i64 (a))) w0.heap.size oki v (y.getD i z68).f1 := Kd.R_far (p := ⟨g, i * 2, none⟩) HR.out (fun k hk he => (HOK.out k hk).2 he) _
      have hB2 : Below w0.heap.size w0 (wr.setCell ⟨g, i * 2, none⟩ (.int .i64 (a))) := below_set HBW.out HGB.out
      have hK2 : Kept w (wr.setCell ⟨g, i * 2, none⟩ (.int .i64 (a))) P0_ := Kept.setCell HKW.out (.inl hgP) _
      clear hs HH HR HBW HKW
      have HH := Aside0.mk hH2
      have HR := Aside0.mk hR2
      have HBW := Aside0.mk hB2
      have HKW := Aside0.mk hK2
      clear hH2 hR2 hB2 hK2
      go_wp2_with (first | (go_at_call 21; refine (laws_markByteS.calls k oki v ((y.getD i z68).f1) (a + 1) t1 t2 w0 _ HBW.out HR.out HA.out).mono ?_; rintro e w' ⟨rfl, hR3, hB3, hK3⟩))
      have HS := Aside0.mk (Kd.H_back (Kd.H_kept HH.out hK3 (fun _ _ hn => hn)) (x' := (⟨(a), t2⟩ : S68)) (okp := oki) (k68_mkM _ _ _ (⟨(a), t2⟩ : S68) (Kd.R_back HR.out hR3 rfl)) (fun _ hk => hk))
      have HK4 := Aside0.mk (HKW.out.then_ hK3 (fun k hk => .inl (HOK.out k hk).1))
      have HB4 := Aside0.mk hB3
      clear hR3 hK3 hB3
      rw [Int.toNat_natCast] at HS
      go_roundw
      case measure => simp [intOf]; omega
      case rel => exact ⟨i + 1, t1, y.set i ⟨(a), t2⟩, rfl, by rw [Int.natCast_add]; rfl, ⟨by omega, by rw [List.length_set]; exact hy, hg⟩, HS, HB4, HK4⟩
    · have cc : decide ((i : Int) < (l0.length : Int)) = false := decide_eq_false (by omega)
      rw [show l0.length - i = 0 by omega, laws_markWriteS.go] at hg
      injection hg with hg
      injection hg with e1 e2
      subst e1
      subst e2
      go_wp2
      go_ret
      exact ⟨rfl, HO2.out, HB2.out, HK2.out⟩

/-! ### laws_markDisk: function 12 -/
def laws_markDisk.f (k : Nat) (l0_0 : List (List Int)) (l0_1 : List (S68)) (a0_2 : Int) (a0_3 : Bool) (a1 : Int) : Option (Int × (List (List Int)) × (List (S68))) := (laws_markByteSS.f k l0_0 a1).bind fun t => (laws_markWriteS.f k l0_1 t.1).bind fun u => some (u.1, t.2, u.2)
def laws_markDisk0.f (k : Nat) (l0_0 : List (List Int)) (l0_1 : List (S68)) (a0_2 : Int) (a0_3 : Bool) (a1 : Int) : Option (Int × (List (List Int))) := if l0_1.length = 0 then laws_markByteSS.f k l0_0 a1 else none
theorem markWriteS_nil (A0 : Option Addr) (c0 : Nat) (a1 : Int) (w : World) :
    Calls Try.prog 39 #[.slice A0 0 c0, .int .i64 a1] w fun e w' => e = .returned (.int .i64 a1) ∧ Drawn0 w w' := by
  have cc : decide ((0 : Int) < (0 : Int)) = false := rfl
  go_enter Try.func39, Try.ntmps39
  go_wp2
  go_loopw [1, 5] (fun v1 v5 wr => v1 = .int .i64 a1 ∧ v5 = .int .i64 0 ∧ Drawn0 w wr) (fun _ _ _ => 0)
  case atStart => exact ⟨rfl, rfl, by repeat (first | exact Drawn0.refl _ | apply Drawn0.step)⟩
  case round =>
    obtain ⟨rfl, rfl, ⟨m, rfl⟩⟩ := hrel
    go_wp2
    go_ret
    exact ⟨rfl, by repeat (first | exact Drawn0.refl _ | apply Drawn0.step)⟩
set_option maxHeartbeats 8000000 in
set_option maxRecDepth 100000 in
theorem laws_markDisk.calls (k : Nat) (P0_0_ : Nat → Prop) (A0_0 : Option Addr) (c0_0 : Nat) (l0_0 : List (List Int)) (P0_1_ : Nat → Prop) (A0_1 : Option Addr) (c0_1 : Nat) (l0_1 : List (S68)) (a0_2 : Int) (a0_3 : Bool) (a1 : Int) (r1 : Int) (r2 : List (List Int)) (r3 : List (S68)) (w0 w : World) (hB : Below w0.heap.size w0 w) (ho0_0 : Kd.S (Kd.slice 5 (Kd.int .u8)) 37 w w0.heap.size P0_0_ (.slice A0_0 l0_0.length c0_0) l0_0) (ho0_1 : Kd.S k68 68 w w0.heap.size P0_1_ (.slice A0_1 l0_1.length c0_1) l0_1) (hp : ∀ k_, P0_1_ k_ → ¬ P0_0_ k_) (h : laws_markDisk.f k l0_0 l0_1 a0_2 a0_3 a1 = some (r1, r2, r3)) :
    Calls Try.prog 12 #[.agg #[.slice A0_0 l0_0.length c0_0, .slice A0_1 l0_1.length c0_1, .int .i64 a0_2, .bool a0_3], .int .i64 a1] w fun e w' => e = .returned (.int .i64 r1) ∧ Kd.S (Kd.slice 5 (Kd.int .u8)) 37 w' w0.heap.size P0_0_ (.slice A0_0 l0_0.length c0_0) r2 ∧ Kd.S k68 68 w' w0.heap.size P0_1_ (.slice A0_1 l0_1.length c0_1) r3 ∧ Below w0.heap.size w0 w' ∧ Kept w w' (fun k_ => P0_0_ k_ ∨ P0_1_ k_) := by
  have hu25 := Try.underlying25
  obtain ⟨⟨t1, t2⟩, hA, h⟩ := Option.bind_eq_some_iff.1 h
  obtain ⟨⟨u1, u2⟩, hA2, h⟩ := Option.bind_eq_some_iff.1 h
  dsimp only at hA2 h
  injection h with h
  injection h with e1 e2
  injection e2 with e2 e3
  subst e1 e2 e3
  have HA := Aside0.mk hA
  have HA2 := Aside0.mk hA2
  have HP := Aside0.mk hp
  clear hA hA2 hp
  have b1 : Below w.heap.size w (w.alloc (.cells #[.slice A0_0 l0_0.length c0_0, .slice A0_1 l0_1.length c0_1, .int .i64 a0_2, .bool a0_3] 25)) := below_alloc (Below.refl _ w) _
  have HO := Aside0.mk (Kd.S_below ho0_0 b1)
  have HO1 := Aside0.mk (Kd.S_below ho0_1 b1)
  have HB2 := Aside0.mk (below_alloc hB (.cells #[.slice A0_0 l0_0.length c0_0, .slice A0_1 l0_1.length c0_1, .int .i64 a0_2, .bool a0_3] 25))
  have HK2 := Aside0.mk (Kept.of_below b1 (fun k_ => P0_0_ k_ ∨ P0_1_ k_))
  have HN0 := Aside0.mk (Kd.S_mono (Kd.S_bound ho0_0) (fun k hk => ⟨hk.1, hk.2.2.1⟩) : Kd.S (Kd.slice 5 (Kd.int .u8)) 37 w w0.heap.size (fun k_ => P0_0_ k_ ∧ k_ < w.heap.size) (.slice A0_0 l0_0.length c0_0) l0_0)
  have HN1 := Aside0.mk (Kd.S_mono (Kd.S_bound ho0_1) (fun k hk => ⟨hk.1, hk.2.2.1⟩) : Kd.S k68 68 w w0.heap.size (fun k_ => P0_1_ k_ ∧ k_ < w.heap.size) (.slice A0_1 l0_1.length c0_1) l0_1)
  clear b1 ho0_0 ho0_1 hB
  have HO2 := Aside0.mk (Kd.S_below HN0.out (below_alloc (Below.refl _ w) (.cells #[.slice A0_0 l0_0.length c0_0, .slice A0_1 l0_1.length c0_1, .int .i64 a0_2, .bool a0_3] 25)))
  have HO3 := Aside0.mk (Kd.S_below HN1.out (below_alloc (Below.refl _ w) (.cells #[.slice A0_0 l0_0.length c0_0, .slice A0_1 l0_1.length c0_1, .int .i64 a0_2, .bool a0_3] 25)))
  have HBK := Aside0.mk (heap_alloc_new w (.cells #[.slice A0_0 l0_0.length c0_0, .slice A0_1 l0_1.length c0_1, .int .i64 a0_2, .bool a0_3] 25))
  clear HO HO1 HN0 HN1
  go_enter Try.func12, Try.ntmps12
  go_wp2_with (first | (go_at_call 38; refine (laws_markByteSS.calls k (fun k_ => P0_0_ k_ ∧ k_ < w.heap.size) A0_0 c0_0 l0_0 a1 t1 t2 w0 _ HB2.out HO2.out HA.out).mono ?_; rintro e w2 ⟨rfl, hO4, hB4, hK4⟩; have HO5 := Aside0.mk (Kd.S_kept HO3.out hK4 (fun k h1 h2 => HP.out k h1.1 h2.1)); have HB5 := Aside0.mk hB4; have HO6 := Aside0.mk hO4; have HK6 := Aside0.mk (HK2.out.then_ hK4 (fun k hk => .inl (.inl hk.1))); have hz := (blk_cell (blk_kept HBK.out hK4 (fun hk => by have := hk.2; omega)) 1).trans rfl; clear hO4 hB4 hK4) | (go_at_call 39; refine (laws_markWriteS.calls k (fun k_ => P0_1_ k_ ∧ k_ < w.heap.size) A0_1 c0_1 l0_1 t1 u1 u2 w0 _ HB5.out HO5.out HA2.out).mono ?_; rintro e w3 ⟨rfl, hO7, hB7, hK7⟩))
  go_ret
  exact ⟨rfl, Kd.S_mono (Kd.S_kept HO6.out hK7 (fun k h1 h2 => HP.out k h2.1 h1.1)) (fun k hk => hk.1), Kd.S_mono hO7 (fun k hk => hk.1), hB7, HK6.out.then_ hK7 (fun k hk => .inl (.inr hk.1))⟩
set_option maxHeartbeats 8000000 in
set_option maxRecDepth 100000 in
theorem laws_markDisk0.calls (k : Nat) (P0_ : Nat → Prop) (A0_0 : Option Addr) (c0_0 : Nat) (l0_0 : List (List Int)) (A0_1 : Option Addr) (c0_1 : Nat) (l0_1 : List (S68)) (a0_2 : Int) (a0_3 : Bool) (a1 : Int) (r1 : Int) (r2 : List (List Int)) (w0 w : World) (hB : Below w0.heap.size w0 w) (ho0_0 : Kd.S (Kd.slice 5 (Kd.int .u8)) 37 w w0.heap.size P0_ (.slice A0_0 l0_0.length c0_0) l0_0) (h : laws_markDisk0.f k l0_0 l0_1 a0_2 a0_3 a1 = some (r1, r2)) :
    Calls Try.prog 12 #[.agg #[.slice A0_0 l0_0.length c0_0, .slice A0_1 l0_1.length c0_1, .int .i64 a0_2, .bool a0_3], .int .i64 a1] w fun e w' => e = .returned (.int .i64 r1) ∧ Kd.S (Kd.slice 5 (Kd.int .u8)) 37 w' w0.heap.size P0_ (.slice A0_0 l0_0.length c0_0) r2 ∧ Below w0.heap.size w0 w' ∧ Kept w w' P0_ := by
  have hu25 := Try.underlying25
  unfold laws_markDisk0.f at h
  by_cases h0 : l0_1.length = 0
  case neg =>
    rw [if_neg h0] at h
    cases h
  rw [if_pos h0] at h
  rw [h0]
  have HA := Aside0.mk h
  clear h h0
  have b1 : Below w.heap.size w (w.alloc (.cells #[.slice A0_0 l0_0.length c0_0, .slice A0_1 0 c0_1, .int .i64 a0_2, .bool a0_3] 25)) := below_alloc (Below.refl _ w) _
  have HB2 := Aside0.mk (below_alloc hB (.cells #[.slice A0_0 l0_0.length c0_0, .slice A0_1 0 c0_1, .int .i64 a0_2, .bool a0_3] 25))
  have HK2 := Aside0.mk (Kept.of_below b1 P0_)
  have HO2 := Aside0.mk (Kd.S_below (Kd.S_mono (Kd.S_bound ho0_0) (fun k hk => ⟨hk.1, hk.2.2.1⟩) : Kd.S (Kd.slice 5 (Kd.int .u8)) 37 w w0.heap.size (fun k_ => P0_ k_ ∧ k_ < w.heap.size) (.slice A0_0 l0_0.length c0_0) l0_0) b1)
  have HBK := Aside0.mk (heap_alloc_new w (.cells #[.slice A0_0 l0_0.length c0_0, .slice A0_1 0 c0_1, .int .i64 a0_2, .bool a0_3] 25))
  clear b1 ho0_0 hB
  go_enter Try.func12, Try.ntmps12
  go_wp2_with (first | (go_at_call 38; refine (laws_markByteSS.calls k (fun k_ => P0_ k_ ∧ k_ < w.heap.size) A0_0 c0_0 l0_0 a1 r1 r2 w0 _ HB2.out HO2.out HA.out).mono ?_; rintro e w2 ⟨rfl, hO4, hB4, hK4⟩; have HB5 := Aside0.mk hB4; have HO6 := Aside0.mk hO4; have HK6 := Aside0.mk (HK2.out.then_ hK4 (fun k hk => .inl hk.1)); have hz := (blk_cell (blk_kept HBK.out hK4 (fun hk => by have := hk.2; omega)) 1).trans rfl; clear hO4 hB4 hK4) | (go_at_call 39; refine (markWriteS_nil A0_1 c0_1 r1 _).mono ?_; rintro e w3 ⟨rfl, hd⟩; have hb := drawn0_below hd; clear hd))
  go_ret
  exact ⟨rfl, Kd.S_mono (Kd.S_below HO6.out hb) (fun k hk => hk.1), below_step HB5.out hb, HK6.out.below hb⟩

/-! ### laws_heldByteS: function 22 -/
def laws_heldByteS.l0 : Nat → List Int → Int → Int → Option (Int)
  | 0, _, _, _ => none
  | k + 1, x0, x1, x5 => if x5 < (x0.length : Int) then (if 0 ≤ x5 then (if (rd x0 x5) = ((x1) % 256) then (laws_heldByteS.l0 k x0 (wrap64 (x1 + 1)) (wrap64 (x5 + 1))) else (some (-1))) else (none)) else (some x1)
def laws_heldByteS.f (k : Nat) (l0 : List Int) (a1 : Int) : Option (Int) := laws_heldByteS.l0 k l0 a1 0
theorem laws_heldByteS.mono_l : ∀ k, (∀ y0 y1 y2, LeO (laws_heldByteS.l0 k y0 y1 y2) (laws_heldByteS.l0 (k + 1) y0 y1 y2))
  | 0 => fun _ _ _ r h => by simp [laws_heldByteS.l0] at h
  | k + 1 => by
    have ih0 := laws_heldByteS.mono_l k
    · intro y0 y1 y2
      unfold laws_heldByteS.l0
      repeat' first
      | (with_reducible exact ih0 _ _ _)
      | (with_reducible exact LeO.refl _)
      | (with_reducible exact LeO.none _)
      | (with_reducible refine LeO.ite ?_ ?_)
      | (with_reducible refine LeO.bind ?_ (fun _ => ?_))
      | exact ih0 _ _ _
      | exact LeO.none _
      | refine LeO.ite ?_ ?_
      | refine LeO.bind ?_ (fun _ => ?_)
theorem laws_heldByteS.mono : ∀ a0 a1 k, LeO (laws_heldByteS.f k a0 a1) (laws_heldByteS.f (k + 1) a0 a1) := by
  intro a0 a1 k
  have ih0 := laws_heldByteS.mono_l k
  unfold laws_heldByteS.f
  repeat' first
      | (with_reducible exact ih0 _ _ _)
      | (with_reducible exact LeO.refl _)
      | (with_reducible exact LeO.none _)
      | (with_reducible refine LeO.ite ?_ ?_)
      | (with_reducible refine LeO.bind ?_ (fun _ => ?_))
      | exact ih0 _ _ _
      | exact LeO.none _
      | refine LeO.ite ?_ ?_
      | refine LeO.bind ?_ (fun _ => ?_)
set_option maxHeartbeats 8000000 in
set_option maxRecDepth 100000 in
theorem laws_heldByteS.calls (k : Nat) (A0 : Option Addr) (c0 : Nat) (l0 : List Int) (a1 : Int) (r : Int) (w : World) (hr0 : Kd.C (Kd.int .u8) w A0 l0.length l0) (hc0 : l0.length ≤ c0) (h : laws_heldByteS.f k l0 a1 = some r) :
    Calls Try.prog 22 #[.slice A0 l0.length c0, .int .i64 a1] w fun e w' => e = .returned (.int .i64 r) ∧ Drawn0 w w' := by
  have HR0 := Aside0.mk hr0
  have HC0 := Aside0.mk hc0
  clear hr0 hc0
  have H : (laws_heldByteS.l0 k l0 a1 0) = some r := h
  clear h
  have H' := Aside0.mk H
  clear H
  go_enter Try.func22, Try.ntmps22
  go_wp2
  go_loopg [1, 5] k (fun kq v1 v5 w' => ∃ (x1_1 : Int) (x5_1 : Int), v1 = .int .i64 x1_1 ∧ v5 = .int .i64 x5_1 ∧ Aside0 (laws_heldByteS.l0 kq l0 x1_1 x5_1 = some r) ∧ Aside0 (kq ≤ k) ∧ Drawn0 w w')
  case atStart => exact ⟨(a1), (0), (by first | rfl | (simp; done) | (simp [*]; done)), (by first | rfl | (simp; done) | (simp [*]; done)), H', ⟨Nat.le_refl _⟩, by repeat (first | exact Drawn0.refl _ | apply Drawn0.step)⟩
  case round =>
    clear H'
    try clear c2
    try clear p2
    obtain ⟨x1_1, x5_1, rfl, rfl, HA, HK1, ⟨m1, rfl⟩⟩ := hrel
    cases gk with
    | zero => exact absurd HA.out (by simp [laws_heldByteS.l0])
    | succ k1 =>
      have H := HA.out
      clear HA
      simp only [laws_heldByteS.l0] at H
      by_cases c3 : x5_1 < (l0.length : Int)
      · rw [if_pos c3] at H
        have c3b0 : decide (x5_1 < (l0.length : Int)) = true := decide_eq_true c3
        clear c3
        by_cases c4 : 0 ≤ x5_1
        · rw [if_pos c4] at H
          have c4b0 : decide (0 ≤ x5_1) = true := decide_eq_true c4
          clear c4
          by_cases c5 : (rd l0 x5_1) = ((x1_1) % 256)
          · rw [if_pos c5] at H
            have c5b0 : ((rd l0 x5_1) == ((x1_1) % 256)) = true := beq_iff_eq.mpr c5
            have c5b1 : ((rd l0 x5_1) != ((x1_1) % 256)) = false := bne_eq_false_iff_eq.mpr c5
            clear c5
            have H' := Aside0.mk H
            clear H
            have p134 : 0 ≤ (x5_1 : Int) := of_decide_eq_true (by first | (with_reducible assumption) | assumption)
            have q134 : x5_1 < (l0.length : Int) := of_decide_eq_true (by first | (with_reducible assumption) | assumption)
            obtain ⟨ad134, e134, hx134_0⟩ := Kd.at_int HR0.out x5_1 p134 q134
            cases e134
            replace p134 := eq_true p134
            replace q134 := eq_true q134
            go_wp2
            go_roundg k1
            case measure => have := HK1.out; omega
            case rel => exact ⟨(wrap64 (x1_1 + 1)), (wrap64 (x5_1 + 1)), (by first | rfl | (simp; done) | (simp [*]; done)), (by first | rfl | (simp; done) | (simp [*]; done)), H', ⟨by have := HK1.out; omega⟩, by repeat (first | exact Drawn0.refl _ | apply Drawn0.step)⟩
          · rw [if_neg c5] at H
            have c5b0 : ((rd l0 x5_1) == ((x1_1) % 256)) = false := beq_eq_false_iff_ne.mpr c5
            have c5b1 : ((rd l0 x5_1) != ((x1_1) % 256)) = true := bne_iff_ne.mpr c5
            obtain rfl := Option.some.inj H
            have p134 : 0 ≤ (x5_1 : Int) := of_decide_eq_true (by first | (with_reducible assumption) | assumption)
            have q134 : x5_1 < (l0.length : Int) := of_decide_eq_true (by first | (with_reducible assumption) | assumption)
            obtain ⟨ad134, e134, hx134_0⟩ := Kd.at_int HR0.out x5_1 p134 q134
            cases e134
            replace p134 := eq_true p134
            replace q134 := eq_true q134
            go_wp2
            go_ret
            exact ⟨by first | rfl | (simp; done) | (simp [*]; done), by repeat (first | exact Drawn0.refl _ | apply Drawn0.step)⟩
        · rw [if_neg c4] at H
          exact absurd H (by simp)
      · rw [if_neg c3] at H
        have c3b0 : decide (x5_1 < (l0.length : Int)) = false := decide_eq_false c3
        clear c3
        obtain rfl := Option.some.inj H
        go_wp2
        go_ret
        exact ⟨by first | rfl | (simp; done) | (simp [*]; done), by repeat (first | exact Drawn0.refl _ | apply Drawn0.step)⟩

/-! ### laws_heldByteSS: function 40 -/
def laws_heldByteSS.l0 : Nat → List (List Int) → Int → Int → Option (Int)
  | 0, _, _, _ => none
  | k + 1, x0, x1, x5 => if x5 < (x0.length : Int) then (if 0 ≤ x5 then ((laws_heldByteS.f k (rd_L1 x0 x5) x1).bind fun t136 => (if t136 < 0 then (some (-1)) else (laws_heldByteSS.l0 k x0 t136 (wrap64 (x5 + 1))))) else (none)) else (some x1)
def laws_heldByteSS.f (k : Nat) (l0 : List (List Int)) (a1 : Int) : Option (Int) := laws_heldByteSS.l0 k l0 a1 0
theorem laws_heldByteSS.mono_l : ∀ k, (∀ y0 y1 y2, LeO (laws_heldByteSS.l0 k y0 y1 y2) (laws_heldByteSS.l0 (k + 1) y0 y1 y2))
  | 0 => fun _ _ _ r h => by simp [laws_heldByteSS.l0] at h
  | k + 1 => by
    have ih0 := laws_heldByteSS.mono_l k
    · intro y0 y1 y2
      unfold laws_heldByteSS.l0
      repeat' first
      | (with_reducible exact ih0 _ _ _)
      | (with_reducible exact laws_heldByteS.mono _ _ _)
      | (with_reducible exact LeO.refl _)
      | (with_reducible exact LeO.none _)
      | (with_reducible refine LeO.ite ?_ ?_)
      | (with_reducible refine LeO.bind ?_ (fun _ => ?_))
      | exact ih0 _ _ _
      | exact laws_heldByteS.mono _ _ _
      | exact LeO.none _
      | refine LeO.ite ?_ ?_
      | refine LeO.bind ?_ (fun _ => ?_)
theorem laws_heldByteSS.mono : ∀ a0 a1 k, LeO (laws_heldByteSS.f k a0 a1) (laws_heldByteSS.f (k + 1) a0 a1) := by
  intro a0 a1 k
  have ih0 := laws_heldByteSS.mono_l k
  unfold laws_heldByteSS.f
  repeat' first
      | (with_reducible exact ih0 _ _ _)
      | (with_reducible exact laws_heldByteS.mono _ _ _)
      | (with_reducible exact LeO.refl _)
      | (with_reducible exact LeO.none _)
      | (with_reducible refine LeO.ite ?_ ?_)
      | (with_reducible refine LeO.bind ?_ (fun _ => ?_))
      | exact ih0 _ _ _
      | exact laws_heldByteS.mono _ _ _
      | exact LeO.none _
      | refine LeO.ite ?_ ?_
      | refine LeO.bind ?_ (fun _ => ?_)
set_option maxHeartbeats 8000000 in
set_option maxRecDepth 100000 in
theorem laws_heldByteSS.calls (k : Nat) (A0 : Option Addr) (c0 : Nat) (l0 : List (List Int)) (a1 : Int) (r : Int) (w : World) (hr0 : Kd.C (Kd.slice 5 (Kd.int .u8)) w A0 l0.length l0) (hc0 : l0.length ≤ c0) (h : laws_heldByteSS.f k l0 a1 = some r) :
    Calls Try.prog 40 #[.slice A0 l0.length c0, .int .i64 a1] w fun e w' => e = .returned (.int .i64 r) ∧ Drawn0 w w' := by
  have HR0 := Aside0.mk hr0
  have HC0 := Aside0.mk hc0
  clear hr0 hc0
  have H : (laws_heldByteSS.l0 k l0 a1 0) = some r := h
  clear h
  have H' := Aside0.mk H
  clear H
  go_enter Try.func40, Try.ntmps40
  go_wp2
  go_loopg [1, 5] k (fun kq v1 v5 w' => ∃ (x1_1 : Int) (x5_1 : Int), v1 = .int .i64 x1_1 ∧ v5 = .int .i64 x5_1 ∧ Aside0 (laws_heldByteSS.l0 kq l0 x1_1 x5_1 = some r) ∧ Aside0 (kq ≤ k) ∧ Drawn0 w w')
  case atStart => exact ⟨(a1), (0), (by first | rfl | (simp; done) | (simp [*]; done)), (by first | rfl | (simp; done) | (simp [*]; done)), H', ⟨Nat.le_refl _⟩, by repeat (first | exact Drawn0.refl _ | apply Drawn0.step)⟩
  case round =>
    clear H'
    try clear p2
    obtain ⟨x1_1, x5_1, rfl, rfl, HA, HK1, ⟨m1, rfl⟩⟩ := hrel
    cases gk with
    | zero => exact absurd HA.out (by simp [laws_heldByteSS.l0])
    | succ k1 =>
      have H := HA.out
      clear HA
      simp only [laws_heldByteSS.l0] at H
      by_cases c3 : x5_1 < (l0.length : Int)
      · rw [if_pos c3] at H
        have c3b0 : decide (x5_1 < (l0.length : Int)) = true := decide_eq_true c3
        clear c3
        by_cases c4 : 0 ≤ x5_1
        · rw [if_pos c4] at H
          have c4b0 : decide (0 ≤ x5_1) = true := decide_eq_true c4
          clear c4
          replace H := Option.bind_eq_some_iff.mp H
          obtain ⟨t136, A50, H⟩ := H
          replace H : (if t136 < 0 then (some (-1)) else (laws_heldByteSS.l0 k1 l0 t136 (wrap64 (x5_1 + 1)))) = some r := H
          have A5 := Aside0.mk A50
          clear A50
          by_cases c6 : t136 < 0
          · rw [if_pos c6] at H
            have c6b0 : decide (t136 < 0) = true := decide_eq_true c6
            clear c6
            obtain rfl := Option.some.inj H
            have p135 : 0 ≤ (x5_1 : Int) := of_decide_eq_true (by first | (with_reducible assumption) | assumption)
            have q135 : x5_1 < (l0.length : Int) := of_decide_eq_true (by first | (with_reducible assumption) | assumption)
            obtain ⟨ad135, A135_0, c135_0, e135, hx135_0, hl135_0, hi135_0⟩ := at_L1 HR0.out x5_1 p135 q135
            cases e135
            have HR135_0 := Aside0.mk hi135_0
            have HC135_0 := Aside0.mk hl135_0
            clear hi135_0 hl135_0
            replace p135 := eq_true p135
            replace q135 := eq_true q135
            go_wp2_with (first | ((with_reducible refine gate_callee (f := 22) rfl ?_); refine goesL_ (some 17) rfl rfl Try.func22 (by kernel_rfl) rfl #[.slice A135_0 (rd_L1 l0 x5_1).length c135_0, .int .i64 x1_1] rfl (by (try simp only [List.map_toArray, List.map_cons, List.map_nil]); first | done | rfl | (simp only [List.length_drop, List.length_take]; rfl)) ?_; (with_reducible refine (laws_heldByteS.calls k1 _ _ (rd_L1 l0 x5_1) x1_1 t136 _ ?side1 ?side2 A5.out).mono ?_); (case side1 => repeat (first | exact HR135_0.out | (with_reducible refine Kd.C_alloc ?_ _) | (with_reducible refine Kd.C_drewN ?_ _) | (with_reducible refine Kd.C_drew ?_))); (case side2 => exact HC135_0.out); rintro e w' ⟨rfl, ⟨nd, rfl⟩⟩; refine ⟨_, rfl, ?_⟩))
            go_ret
            exact ⟨by first | rfl | (simp; done) | (simp [*]; done), by repeat (first | exact Drawn0.refl _ | apply Drawn0.step)⟩
          · rw [if_neg c6] at H
            have c6b0 : decide (t136 < 0) = false := decide_eq_false c6
            clear c6
            have H' := Aside0.mk H
            clear H
            have p135 : 0 ≤ (x5_1 : Int) := of_decide_eq_true (by first | (with_reducible assumption) | assumption)
            have q135 : x5_1 < (l0.length : Int) := of_decide_eq_true (by first | (with_reducible assumption) | assumption)
            obtain ⟨ad135, A135_0, c135_0, e135, hx135_0, hl135_0, hi135_0⟩ := at_L1 HR0.out x5_1 p135 q135
            cases e135
            have HR135_0 := Aside0.mk hi135_0
            have HC135_0 := Aside0.mk hl135_0
            clear hi135_0 hl135_0
            replace p135 := eq_true p135
            replace q135 := eq_true q135
            go_wp2_with (first | ((with_reducible refine gate_callee (f := 22) rfl ?_); refine goesL_ (some 17) rfl rfl Try.func22 (by kernel_rfl) rfl #[.slice A135_0 (rd_L1 l0 x5_1).length c135_0, .int .i64 x1_1] rfl (by (try simp only [List.map_toArray, List.map_cons, List.map_nil]); first | done | rfl | (simp only [List.length_drop, List.length_take]; rfl)) ?_; (with_reducible refine (laws_heldByteS.calls k1 _ _ (rd_L1 l0 x5_1) x1_1 t136 _ ?side1 ?side2 A5.out).mono ?_); (case side1 => repeat (first | exact HR135_0.out | (with_reducible refine Kd.C_alloc ?_ _) | (with_reducible refine Kd.C_drewN ?_ _) | (with_reducible refine Kd.C_drew ?_))); (case side2 => exact HC135_0.out); rintro e w' ⟨rfl, ⟨nd, rfl⟩⟩; refine ⟨_, rfl, ?_⟩))
            go_roundg k1
            case measure => have := HK1.out; omega
            case rel => exact ⟨(t136), (wrap64 (x5_1 + 1)), (by first | rfl | (simp; done) | (simp [*]; done)), (by first | rfl | (simp; done) | (simp [*]; done)), H', ⟨by have := HK1.out; omega⟩, by repeat (first | exact Drawn0.refl _ | apply Drawn0.step)⟩
        · rw [if_neg c4] at H
          exact absurd H (by simp)
      · rw [if_neg c3] at H
        have c3b0 : decide (x5_1 < (l0.length : Int)) = false := decide_eq_false c3
        clear c3
        obtain rfl := Option.some.inj H
        go_wp2
        go_ret
        exact ⟨by first | rfl | (simp; done) | (simp [*]; done), by repeat (first | exact Drawn0.refl _ | apply Drawn0.step)⟩

/-! ### laws_heldWriteS: function 41 -/
def laws_heldWriteS.l0 : Nat → List (S68) → Int → Int → Option (Int)
  | 0, _, _, _ => none
  | k + 1, x0, x1, x5 => if x5 < (x0.length : Int) then (if 0 ≤ x5 then (if ((rd_T68 x0 x5).f0) = x1 then ((laws_heldByteS.f k ((rd_T68 x0 x5).f1) (wrap64 (x1 + 1))).bind fun t139 => (if t139 < 0 then (some (-1)) else (laws_heldWriteS.l0 k x0 t139 (wrap64 (x5 + 1))))) else (some (-1))) else (none)) else (some x1)
def laws_heldWriteS.f (k : Nat) (l0 : List (S68)) (a1 : Int) : Option (Int) := laws_heldWriteS.l0 k l0 a1 0
theorem laws_heldWriteS.mono_l : ∀ k, (∀ y0 y1 y2, LeO (laws_heldWriteS.l0 k y0 y1 y2) (laws_heldWriteS.l0 (k + 1) y0 y1 y2))
  | 0 => fun _ _ _ r h => by simp [laws_heldWriteS.l0] at h
  | k + 1 => by
    have ih0 := laws_heldWriteS.mono_l k
    · intro y0 y1 y2
      unfold laws_heldWriteS.l0
      repeat' first
      | (with_reducible exact ih0 _ _ _)
      | (with_reducible exact laws_heldByteS.mono _ _ _)
      | (with_reducible exact LeO.refl _)
      | (with_reducible exact LeO.none _)
      | (with_reducible refine LeO.ite ?_ ?_)
      | (with_reducible refine LeO.bind ?_ (fun _ => ?_))
      | exact ih0 _ _ _
      | exact laws_heldByteS.mono _ _ _
      | exact LeO.none _
      | refine LeO.ite ?_ ?_
      | refine LeO.bind ?_ (fun _ => ?_)
theorem laws_heldWriteS.mono : ∀ a0 a1 k, LeO (laws_heldWriteS.f k a0 a1) (laws_heldWriteS.f (k + 1) a0 a1) := by
  intro a0 a1 k
  have ih0 := laws_heldWriteS.mono_l k
  unfold laws_heldWriteS.f
  repeat' first
      | (with_reducible exact ih0 _ _ _)
      | (with_reducible exact laws_heldByteS.mono _ _ _)
      | (with_reducible exact LeO.refl _)
      | (with_reducible exact LeO.none _)
      | (with_reducible refine LeO.ite ?_ ?_)
      | (with_reducible refine LeO.bind ?_ (fun _ => ?_))
      | exact ih0 _ _ _
      | exact laws_heldByteS.mono _ _ _
      | exact LeO.none _
      | refine LeO.ite ?_ ?_
      | refine LeO.bind ?_ (fun _ => ?_)
set_option maxHeartbeats 8000000 in
set_option maxRecDepth 100000 in
theorem laws_heldWriteS.calls (k : Nat) (A0 : Option Addr) (c0 : Nat) (l0 : List (S68)) (a1 : Int) (r : Int) (w : World) (hr0 : Kd.C k68 w A0 l0.length l0) (hc0 : l0.length ≤ c0) (h : laws_heldWriteS.f k l0 a1 = some r) :
    Calls Try.prog 41 #[.slice A0 l0.length c0, .int .i64 a1] w fun e w' => e = .returned (.int .i64 r) ∧ Drawn0 w w' := by
  have HR0 := Aside0.mk hr0
  have HC0 := Aside0.mk hc0
  clear hr0 hc0
  have H : (laws_heldWriteS.l0 k l0 a1 0) = some r := h
  clear h
  have H' := Aside0.mk H
  clear H
  go_enter Try.func41, Try.ntmps41
  go_wp2
  go_loopg [1, 5] k (fun kq v1 v5 w' => ∃ (x1_1 : Int) (x5_1 : Int), v1 = .int .i64 x1_1 ∧ v5 = .int .i64 x5_1 ∧ Aside0 (laws_heldWriteS.l0 kq l0 x1_1 x5_1 = some r) ∧ Aside0 (kq ≤ k) ∧ Drawn0 w w')
  case atStart => exact ⟨(a1), (0), (by first | rfl | (simp; done) | (simp [*]; done)), (by first | rfl | (simp; done) | (simp [*]; done)), H', ⟨Nat.le_refl _⟩, by repeat (first | exact Drawn0.refl _ | apply Drawn0.step)⟩
  case round =>
    clear H'
    try clear p2
    obtain ⟨x1_1, x5_1, rfl, rfl, HA, HK1, ⟨m1, rfl⟩⟩ := hrel
    cases gk with
    | zero => exact absurd HA.out (by simp [laws_heldWriteS.l0])
    | succ k1 =>
      have H := HA.out
      clear HA
      simp only [laws_heldWriteS.l0] at H
      by_cases c3 : x5_1 < (l0.length : Int)
      · rw [if_pos c3] at H
        have c3b0 : decide (x5_1 < (l0.length : Int)) = true := decide_eq_true c3
        clear c3
        by_cases c4 : 0 ≤ x5_1
        · rw [if_pos c4] at H
          have c4b0 : decide (0 ≤ x5_1) = true := decide_eq_true c4
          clear c4
          by_cases c5 : ((rd_T68 l0 x5_1).f0) = x1_1
          · rw [if_pos c5] at H
            have c5b0 : (((rd_T68 l0 x5_1).f0) == x1_1) = true := beq_iff_eq.mpr c5
            have c5b1 : (((rd_T68 l0 x5_1).f0) != x1_1) = false := bne_eq_false_iff_eq.mpr c5
            clear c5
            replace H := Option.bind_eq_some_iff.mp H
            obtain ⟨t139, A60, H⟩ := H
            replace H : (if t139 < 0 then (some (-1)) else (laws_heldWriteS.l0 k1 l0 t139 (wrap64 (x5_1 + 1)))) = some r := H
            have A6 := Aside0.mk A60
            clear A60
            by_cases c7 : t139 < 0
            · rw [if_pos c7] at H
              have c7b0 : decide (t139 < 0) = true := decide_eq_true c7
              clear c7
              obtain rfl := Option.some.inj H
              have p137 : 0 ≤ (x5_1 : Int) := of_decide_eq_true (by first | (with_reducible assumption) | assumption)
              have q137 : x5_1 < (l0.length : Int) := of_decide_eq_true (by first | (with_reducible assumption) | assumption)
              obtain ⟨ad137, A137_1, c137_1, e137, hx137_0, hx137_1, hl137_1, hi137_1⟩ := at_T68 HR0.out x5_1 p137 q137
              cases e137
              have HR137_1 := Aside0.mk hi137_1
              have HC137_1 := Aside0.mk hl137_1
              clear hi137_1 hl137_1
              replace p137 := eq_true p137
              replace q137 := eq_true q137
              have p138 : 0 ≤ (x5_1 : Int) := of_decide_eq_true (by first | (with_reducible assumption) | assumption)
              have q138 : x5_1 < (l0.length : Int) := of_decide_eq_true (by first | (with_reducible assumption) | assumption)
              obtain ⟨ad138, A138_1, c138_1, e138, hx138_0, hx138_1, hl138_1, hi138_1⟩ := at_T68 HR0.out x5_1 p138 q138
              obtain rfl : ad137 = ad138 := (by injection e138)
              have HR138_1 := Aside0.mk hi138_1
              have HC138_1 := Aside0.mk hl138_1
              clear hi138_1 hl138_1
              replace p138 := eq_true p138
              replace q138 := eq_true q138
              have ea_ := Option.some.inj (hx137_1.symm.trans hx138_1)
              injection ea_ with ea_ en_ ec_
              subst ea_
              subst ec_
              clear en_
              go_wp2_with (first | ((with_reducible refine gate_callee (f := 22) rfl ?_); refine goesL_ (some 27) rfl rfl Try.func22 (by kernel_rfl) rfl #[.slice A137_1 ((rd_T68 l0 x5_1).f1).length c137_1, .int .i64 (wrap64 (x1_1 + 1))] rfl (by (try simp only [List.map_toArray, List.map_cons, List.map_nil]); first | done | rfl | (simp only [List.length_drop, List.length_take]; rfl)) ?_; (with_reducible refine (laws_heldByteS.calls k1 _ _ ((rd_T68 l0 x5_1).f1) (wrap64 (x1_1 + 1)) t139 _ ?side1 ?side2 A6.out).mono ?_); (case side1 => repeat (first | exact HR138_1.out | (with_reducible refine Kd.C_alloc ?_ _) | (with_reducible refine Kd.C_drewN ?_ _) | (with_reducible refine Kd.C_drew ?_))); (case side2 => exact HC138_1.out); rintro e w' ⟨rfl, ⟨nd, rfl⟩⟩; refine ⟨_, rfl, ?_⟩))
              go_ret
              exact ⟨by first | rfl | (simp; done) | (simp [*]; done), by repeat (first | exact Drawn0.refl _ | apply Drawn0.step)⟩
            · rw [if_neg c7] at H
              have c7b0 : decide (t139 < 0) = false := decide_eq_false c7
              clear c7
              have H' := Aside0.mk H
              clear H
              have p137 : 0 ≤ (x5_1 : Int) := of_decide_eq_true (by first | (with_reducible assumption) | assumption)
              have q137 : x5_1 < (l0.length : Int) := of_decide_eq_true (by first | (with_reducible assumption) | assumption)
              obtain ⟨ad137, A137_1, c137_1, e137, hx137_0, hx137_1, hl137_1, hi137_1⟩ := at_T68 HR0.out x5_1 p137 q137
              cases e137
              have HR137_1 := Aside0.mk hi137_1
              have HC137_1 := Aside0.mk hl137_1
              clear hi137_1 hl137_1
              replace p137 := eq_true p137
              replace q137 := eq_true q137
              have p138 : 0 ≤ (x5_1 : Int) := of_decide_eq_true (by first | (with_reducible assumption) | assumption)
              have q138 : x5_1 < (l0.length : Int) := of_decide_eq_true (by first | (with_reducible assumption) | assumption)
              obtain ⟨ad138, A138_1, c138_1, e138, hx138_0, hx138_1, hl138_1, hi138_1⟩ := at_T68 HR0.out x5_1 p138 q138
              obtain rfl : ad137 = ad138 := (by injection e138)
              have HR138_1 := Aside0.mk hi138_1
              have HC138_1 := Aside0.mk hl138_1
              clear hi138_1 hl138_1
              replace p138 := eq_true p138
              replace q138 := eq_true q138
              have ea_ := Option.some.inj (hx137_1.symm.trans hx138_1)
              injection ea_ with ea_ en_ ec_
              subst ea_
              subst ec_
              clear en_
              go_wp2_with (first | ((with_reducible refine gate_callee (f := 22) rfl ?_); refine goesL_ (some 27) rfl rfl Try.func22 (by kernel_rfl) rfl #[.slice A137_1 ((rd_T68 l0 x5_1).f1).length c137_1, .int .i64 (wrap64 (x1_1 + 1))] rfl (by (try simp only [List.map_toArray, List.map_cons, List.map_nil]); first | done | rfl | (simp only [List.length_drop, List.length_take]; rfl)) ?_; (with_reducible refine (laws_heldByteS.calls k1 _ _ ((rd_T68 l0 x5_1).f1) (wrap64 (x1_1 + 1)) t139 _ ?side1 ?side2 A6.out).mono ?_); (case side1 => repeat (first | exact HR138_1.out | (with_reducible refine Kd.C_alloc ?_ _) | (with_reducible refine Kd.C_drewN ?_ _) | (with_reducible refine Kd.C_drew ?_))); (case side2 => exact HC138_1.out); rintro e w' ⟨rfl, ⟨nd, rfl⟩⟩; refine ⟨_, rfl, ?_⟩))
              go_roundg k1
              case measure => have := HK1.out; omega
              case rel => exact ⟨(t139), (wrap64 (x5_1 + 1)), (by first | rfl | (simp; done) | (simp [*]; done)), (by first | rfl | (simp; done) | (simp [*]; done)), H', ⟨by have := HK1.out; omega⟩, by repeat (first | exact Drawn0.refl _ | apply Drawn0.step)⟩
          · rw [if_neg c5] at H
            have c5b0 : (((rd_T68 l0 x5_1).f0) == x1_1) = false := beq_eq_false_iff_ne.mpr c5
            have c5b1 : (((rd_T68 l0 x5_1).f0) != x1_1) = true := bne_iff_ne.mpr c5
            obtain rfl := Option.some.inj H
            have p137 : 0 ≤ (x5_1 : Int) := of_decide_eq_true (by first | (with_reducible assumption) | assumption)
            have q137 : x5_1 < (l0.length : Int) := of_decide_eq_true (by first | (with_reducible assumption) | assumption)
            obtain ⟨ad137, A137_1, c137_1, e137, hx137_0, hx137_1, hl137_1, hi137_1⟩ := at_T68 HR0.out x5_1 p137 q137
            cases e137
            have HR137_1 := Aside0.mk hi137_1
            have HC137_1 := Aside0.mk hl137_1
            clear hi137_1 hl137_1
            replace p137 := eq_true p137
            replace q137 := eq_true q137
            go_wp2
            go_ret
            exact ⟨by first | rfl | (simp; done) | (simp [*]; done), by repeat (first | exact Drawn0.refl _ | apply Drawn0.step)⟩
        · rw [if_neg c4] at H
          exact absurd H (by simp)
      · rw [if_neg c3] at H
        have c3b0 : decide (x5_1 < (l0.length : Int)) = false := decide_eq_false c3
        clear c3
        obtain rfl := Option.some.inj H
        go_wp2
        go_ret
        exact ⟨by first | rfl | (simp; done) | (simp [*]; done), by repeat (first | exact Drawn0.refl _ | apply Drawn0.step)⟩

/-! ### laws_heldDisk: function 13 -/
def laws_heldDisk.f (k : Nat) (l0_0 : List (List Int)) (l0_1 : List (S68)) (a0_2 : Int) (a0_3 : Bool) (a1 : Int) : Option (Int) := (laws_heldByteSS.f k l0_0 a1).bind fun t141 => (if t141 < 0 then (some (-1)) else ((laws_heldWriteS.f k l0_1 t141).bind fun t142 => (if t142 < 0 then (some (-1)) else (some t142))))
theorem laws_heldDisk.mono : ∀ a0 a1 a2 a3 a4 k, LeO (laws_heldDisk.f k a0 a1 a2 a3 a4) (laws_heldDisk.f (k + 1) a0 a1 a2 a3 a4) := by
  intro a0 a1 a2 a3 a4 k
  unfold laws_heldDisk.f
  repeat' first
      | (with_reducible exact laws_heldByteSS.mono _ _ _)
      | (with_reducible exact laws_heldWriteS.mono _ _ _)
      | (with_reducible exact LeO.refl _)
      | (with_reducible exact LeO.none _)
      | (with_reducible refine LeO.ite ?_ ?_)
      | (with_reducible refine LeO.bind ?_ (fun _ => ?_))
      | exact laws_heldByteSS.mono _ _ _
      | exact laws_heldWriteS.mono _ _ _
      | exact LeO.none _
      | refine LeO.ite ?_ ?_
      | refine LeO.bind ?_ (fun _ => ?_)
set_option maxHeartbeats 8000000 in
set_option maxRecDepth 100000 in
theorem laws_heldDisk.calls (k : Nat) (A0_0 : Option Addr) (c0_0 : Nat) (l0_0 : List (List Int)) (A0_1 : Option Addr) (c0_1 : Nat) (l0_1 : List (S68)) (a0_2 : Int) (a0_3 : Bool) (a1 : Int) (r : Int) (w : World) (hr0_0 : Kd.C (Kd.slice 5 (Kd.int .u8)) w A0_0 l0_0.length l0_0) (hc0_0 : l0_0.length ≤ c0_0) (hr0_1 : Kd.C k68 w A0_1 l0_1.length l0_1) (hc0_1 : l0_1.length ≤ c0_1) (h : laws_heldDisk.f k l0_0 l0_1 a0_2 a0_3 a1 = some r) :
    Calls Try.prog 13 #[.agg #[.slice A0_0 l0_0.length c0_0, .slice A0_1 l0_1.length c0_1, .int .i64 a0_2, .bool a0_3], .int .i64 a1] w fun e w' => e = .returned (.int .i64 r) ∧ Below w.heap.size w w' := by
  have hu25 := Try.underlying25
  have HR0_0 := Aside0.mk hr0_0
  have HC0_0 := Aside0.mk hc0_0
  clear hr0_0 hc0_0
  have HR0_1 := Aside0.mk hr0_1
  have HC0_1 := Aside0.mk hc0_1
  clear hr0_1 hc0_1
  have HB := Aside0.mk (Below.refl w.heap.size w)
  have H : ((laws_heldByteSS.f k l0_0 a1).bind fun t141 => (if t141 < 0 then (some (-1)) else ((laws_heldWriteS.f k l0_1 t141).bind fun t142 => (if t142 < 0 then (some (-1)) else (some t142))))) = some r := h
  clear h
  replace H := Option.bind_eq_some_iff.mp H
  obtain ⟨t141, A30, H⟩ := H
  replace H : (if t141 < 0 then (some (-1)) else ((laws_heldWriteS.f k l0_1 t141).bind fun t142 => (if t142 < 0 then (some (-1)) else (some t142)))) = some r := H
  have A3 := Aside0.mk A30
  clear A30
  by_cases c4 : t141 < 0
  · rw [if_pos c4] at H
    have c4b0 : decide (t141 < 0) = true := decide_eq_true c4
    clear c4
    obtain rfl := Option.some.inj H
    go_enter Try.func13, Try.ntmps13
    go_wp2_with (first | ((with_reducible refine gate_dst (N := 2) rfl ?_); refine box_event ?hg (N := 2) ?hd (cs := #[.slice A0_0 l0_0.length c0_0, .slice A0_1 l0_1.length c0_1, .int .i64 a0_2, .bool a0_3]) (t := 25) ?hr ?_; (case hd => rfl); (case hg => rfl); (case hr => first | (go_simp; done) | (go_simp; rfl)); intro gb140 hg w5 hbox hb; have n0_ := Aside0.mk (below_step (by repeat (first | (with_reducible first | exact HB.out | apply below_alloc | apply pw_below_drewN | apply below_drew1) | exact HB.out)) hb); have n1_ := Aside0.mk (hbox); have n2_ := Aside0.mk ((by rw [hg]; exact (below_size (by repeat (first | (with_reducible first | exact HB.out | apply below_alloc | apply pw_below_drewN | apply below_drew1) | exact HB.out))) : w.heap.size ≤ gb140)); have n3_ := Aside0.mk ((by rw [hg]; exact (below_size (by repeat (first | (with_reducible first | exact HB.out | apply below_alloc | apply pw_below_drewN | apply below_drew1) | exact HB.out))) : w.heap.size ≤ gb140)); clear HB; have HB := n0_; have BK140 := n1_; have GW140 := n2_; have GE140 := n3_; clear n0_ n1_ n2_ n3_; clear hb hbox hg; have hcz6_0 : w5.cell? ⟨gb140, 0, none⟩ = some (.slice A0_0 l0_0.length c0_0) := (blk_cell BK140.out 0).trans rfl; have hcz6_1 : w5.cell? ⟨gb140, 1, none⟩ = some (.slice A0_1 l0_1.length c0_1) := (blk_cell BK140.out 1).trans rfl; have hcz6_2 : w5.cell? ⟨gb140, 2, none⟩ = some (.int .i64 a0_2) := (blk_cell BK140.out 2).trans rfl; have hcz6_3 : w5.cell? ⟨gb140, 3, none⟩ = some (.bool a0_3) := (blk_cell BK140.out 3).trans rfl; have hfz6_0 := blk_frozen BK140.out 0; have hfz6_1 := blk_frozen BK140.out 1; have hfz6_2 := blk_frozen BK140.out 2; have hfz6_3 := blk_frozen BK140.out 3) | ((with_reducible refine gate_callee (f := 40) rfl ?_); refine goesL_ (some 8) rfl rfl Try.func40 (by kernel_rfl) rfl #[.slice A0_0 l0_0.length c0_0, .int .i64 a1] rfl (by (try simp only [List.map_toArray, List.map_cons, List.map_nil]); first | done | rfl | (simp only [List.length_drop, List.length_take]; rfl)) ?_; (with_reducible refine (laws_heldByteSS.calls k _ _ l0_0 a1 t141 _ ?side1 ?side2 A3.out).mono ?_); (case side1 => repeat (first | exact (Kd.C_below HR0_0.out HB.out) | (with_reducible refine Kd.C_alloc ?_ _) | (with_reducible refine Kd.C_drewN ?_ _) | (with_reducible refine Kd.C_drew ?_))); (case side2 => exact HC0_0.out); rintro e w' ⟨rfl, ⟨nd, rfl⟩⟩; refine ⟨_, rfl, ?_⟩))
    go_ret
    exact ⟨by first | rfl | (simp [errW_none, errW_some] <;> rfl) | (simp [*, errW_none, errW_some] <;> rfl), by repeat (first | (with_reducible first | exact HB.out | apply below_alloc | apply pw_below_drewN | apply below_drew1 | refine below_set ?_ GE140.out) | exact HB.out)⟩
  · rw [if_neg c4] at H
    have c4b0 : decide (t141 < 0) = false := decide_eq_false c4
    clear c4
    replace H := Option.bind_eq_some_iff.mp H
    obtain ⟨t142, A70, H⟩ := H
    replace H : (if t142 < 0 then (some (-1)) else (some t142)) = some r := H
    have A7 := Aside0.mk A70
    clear A70
    by_cases c8 : t142 < 0
    · rw [if_pos c8] at H
      have c8b0 : decide (t142 < 0) = true := decide_eq_true c8
      clear c8
      obtain rfl := Option.some.inj H
      go_enter Try.func13, Try.ntmps13
      go_wp2_with (first | ((with_reducible refine gate_dst (N := 2) rfl ?_); refine box_event ?hg (N := 2) ?hd (cs := #[.slice A0_0 l0_0.length c0_0, .slice A0_1 l0_1.length c0_1, .int .i64 a0_2, .bool a0_3]) (t := 25) ?hr ?_; (case hd => rfl); (case hg => rfl); (case hr => first | (go_simp; done) | (go_simp; rfl)); intro gb140 hg w9 hbox hb; have n0_ := Aside0.mk (below_step (by repeat (first | (with_reducible first | exact HB.out | apply below_alloc | apply pw_below_drewN | apply below_drew1) | exact HB.out)) hb); have n1_ := Aside0.mk (hbox); have n2_ := Aside0.mk ((by rw [hg]; exact (below_size (by repeat (first | (with_reducible first | exact HB.out | apply below_alloc | apply pw_below_drewN | apply below_drew1) | exact HB.out))) : w.heap.size ≤ gb140)); have n3_ := Aside0.mk ((by rw [hg]; exact (below_size (by repeat (first | (with_reducible first | exact HB.out | apply below_alloc | apply pw_below_drewN | apply below_drew1) | exact HB.out))) : w.heap.size ≤ gb140)); clear HB; have HB := n0_; have BK140 := n1_; have GW140 := n2_; have GE140 := n3_; clear n0_ n1_ n2_ n3_; clear hb hbox hg; have hcz10_0 : w9.cell? ⟨gb140, 0, none⟩ = some (.slice A0_0 l0_0.length c0_0) := (blk_cell BK140.out 0).trans rfl; have hcz10_1 : w9.cell? ⟨gb140, 1, none⟩ = some (.slice A0_1 l0_1.length c0_1) := (blk_cell BK140.out 1).trans rfl; have hcz10_2 : w9.cell? ⟨gb140, 2, none⟩ = some (.int .i64 a0_2) := (blk_cell BK140.out 2).trans rfl; have hcz10_3 : w9.cell? ⟨gb140, 3, none⟩ = some (.bool a0_3) := (blk_cell BK140.out 3).trans rfl; have hfz10_0 := blk_frozen BK140.out 0; have hfz10_1 := blk_frozen BK140.out 1; have hfz10_2 := blk_frozen BK140.out 2; have hfz10_3 := blk_frozen BK140.out 3) | ((with_reducible refine gate_callee (f := 40) rfl ?_); refine goesL_ (some 8) rfl rfl Try.func40 (by kernel_rfl) rfl #[.slice A0_0 l0_0.length c0_0, .int .i64 a1] rfl (by (try simp only [List.map_toArray, List.map_cons, List.map_nil]); first | done | rfl | (simp only [List.length_drop, List.length_take]; rfl)) ?_; (with_reducible refine (laws_heldByteSS.calls k _ _ l0_0 a1 t141 _ ?side1 ?side2 A3.out).mono ?_); (case side1 => repeat (first | exact (Kd.C_below HR0_0.out HB.out) | (with_reducible refine Kd.C_alloc ?_ _) | (with_reducible refine Kd.C_drewN ?_ _) | (with_reducible refine Kd.C_drew ?_))); (case side2 => exact HC0_0.out); rintro e w' ⟨rfl, ⟨nd, rfl⟩⟩; refine ⟨_, rfl, ?_⟩) | ((with_reducible refine gate_callee (f := 41) rfl ?_); refine goesL_ (some 14) rfl rfl Try.func41 (by kernel_rfl) rfl #[.slice A0_1 l0_1.length c0_1, .int .i64 t141] rfl (by (try simp only [List.map_toArray, List.map_cons, List.map_nil]); first | done | rfl | (simp only [List.length_drop, List.length_take]; rfl)) ?_; (with_reducible refine (laws_heldWriteS.calls k _ _ l0_1 t141 t142 _ ?side1 ?side2 A7.out).mono ?_); (case side1 => repeat (first | exact (Kd.C_below HR0_1.out (by repeat (first | (with_reducible first | exact HB.out | apply below_alloc | apply pw_below_drewN | apply below_drew1 | refine below_set ?_ GE140.out) | exact HB.out))) | (with_reducible refine Kd.C_alloc ?_ _) | (with_reducible refine Kd.C_drewN ?_ _) | (with_reducible refine Kd.C_drew ?_))); (case side2 => exact HC0_1.out); rintro e w' ⟨rfl, ⟨nd, rfl⟩⟩; refine ⟨_, rfl, ?_⟩))
      go_ret
      exact ⟨by first | rfl | (simp [errW_none, errW_some] <;> rfl) | (simp [*, errW_none, errW_some] <;> rfl), by repeat (first | (with_reducible first | exact HB.out | apply below_alloc | apply pw_below_drewN | apply below_drew1 | refine below_set ?_ GE140.out) | exact HB.out)⟩
    · rw [if_neg c8] at H
      have c8b0 : decide (t142 < 0) = false := decide_eq_false c8
      clear c8
      obtain rfl := Option.some.inj H
      go_enter Try.func13, Try.ntmps13
      go_wp2_with (first | ((with_reducible refine gate_dst (N := 2) rfl ?_); refine box_event ?hg (N := 2) ?hd (cs := #[.slice A0_0 l0_0.length c0_0, .slice A0_1 l0_1.length c0_1, .int .i64 a0_2, .bool a0_3]) (t := 25) ?hr ?_; (case hd => rfl); (case hg => rfl); (case hr => first | (go_simp; done) | (go_simp; rfl)); intro gb140 hg w11 hbox hb; have n0_ := Aside0.mk (below_step (by repeat (first | (with_reducible first | exact HB.out | apply below_alloc | apply pw_below_drewN | apply below_drew1) | exact HB.out)) hb); have n1_ := Aside0.mk (hbox); have n2_ := Aside0.mk ((by rw [hg]; exact (below_size (by repeat (first | (with_reducible first | exact HB.out | apply below_alloc | apply pw_below_drewN | apply below_drew1) | exact HB.out))) : w.heap.size ≤ gb140)); have n3_ := Aside0.mk ((by rw [hg]; exact (below_size (by repeat (first | (with_reducible first | exact HB.out | apply below_alloc | apply pw_below_drewN | apply below_drew1) | exact HB.out))) : w.heap.size ≤ gb140)); clear HB; have HB := n0_; have BK140 := n1_; have GW140 := n2_; have GE140 := n3_; clear n0_ n1_ n2_ n3_; clear hb hbox hg; have hcz12_0 : w11.cell? ⟨gb140, 0, none⟩ = some (.slice A0_0 l0_0.length c0_0) := (blk_cell BK140.out 0).trans rfl; have hcz12_1 : w11.cell? ⟨gb140, 1, none⟩ = some (.slice A0_1 l0_1.length c0_1) := (blk_cell BK140.out 1).trans rfl; have hcz12_2 : w11.cell? ⟨gb140, 2, none⟩ = some (.int .i64 a0_2) := (blk_cell BK140.out 2).trans rfl; have hcz12_3 : w11.cell? ⟨gb140, 3, none⟩ = some (.bool a0_3) := (blk_cell BK140.out 3).trans rfl; have hfz12_0 := blk_frozen BK140.out 0; have hfz12_1 := blk_frozen BK140.out 1; have hfz12_2 := blk_frozen BK140.out 2; have hfz12_3 := blk_frozen BK140.out 3) | ((with_reducible refine gate_callee (f := 40) rfl ?_); refine goesL_ (some 8) rfl rfl Try.func40 (by kernel_rfl) rfl #[.slice A0_0 l0_0.length c0_0, .int .i64 a1] rfl (by (try simp only [List.map_toArray, List.map_cons, List.map_nil]); first | done | rfl | (simp only [List.length_drop, List.length_take]; rfl)) ?_; (with_reducible refine (laws_heldByteSS.calls k _ _ l0_0 a1 t141 _ ?side1 ?side2 A3.out).mono ?_); (case side1 => repeat (first | exact (Kd.C_below HR0_0.out HB.out) | (with_reducible refine Kd.C_alloc ?_ _) | (with_reducible refine Kd.C_drewN ?_ _) | (with_reducible refine Kd.C_drew ?_))); (case side2 => exact HC0_0.out); rintro e w' ⟨rfl, ⟨nd, rfl⟩⟩; refine ⟨_, rfl, ?_⟩) | ((with_reducible refine gate_callee (f := 41) rfl ?_); refine goesL_ (some 14) rfl rfl Try.func41 (by kernel_rfl) rfl #[.slice A0_1 l0_1.length c0_1, .int .i64 t141] rfl (by (try simp only [List.map_toArray, List.map_cons, List.map_nil]); first | done | rfl | (simp only [List.length_drop, List.length_take]; rfl)) ?_; (with_reducible refine (laws_heldWriteS.calls k _ _ l0_1 t141 t142 _ ?side1 ?side2 A7.out).mono ?_); (case side1 => repeat (first | exact (Kd.C_below HR0_1.out (by repeat (first | (with_reducible first | exact HB.out | apply below_alloc | apply pw_below_drewN | apply below_drew1 | refine below_set ?_ GE140.out) | exact HB.out))) | (with_reducible refine Kd.C_alloc ?_ _) | (with_reducible refine Kd.C_drewN ?_ _) | (with_reducible refine Kd.C_drew ?_))); (case side2 => exact HC0_1.out); rintro e w' ⟨rfl, ⟨nd, rfl⟩⟩; refine ⟨_, rfl, ?_⟩))
      go_ret
      exact ⟨by first | rfl | (simp [errW_none, errW_some] <;> rfl) | (simp [*, errW_none, errW_some] <;> rfl), by repeat (first | (with_reducible first | exact HB.out | apply below_alloc | apply pw_below_drewN | apply below_drew1 | refine below_set ?_ GE140.out) | exact HB.out)⟩

/-! ### laws_FnExactDiskNew: function 3 -/
def laws_FnExactDiskNew.H (a0 : Int) : Prop := ∃ (k2 : Nat) (t4 : List (List Int)) (t5 : Int) (t6 : Bool), spec_DiskNew.f k2 a0 = some (t4, ([] : List S68), t5, t6) ∧ ∃ (k39 : Nat), impl_DiskNew.f k39 a0 = some (t4, ([] : List S68), t5, t6) ∧ ∃ (k85 : Nat), laws_eqDisk.f k85 t4 ([] : List S68) t5 t6 t4 ([] : List S68) t5 t6 = some true ∧ ∃ (k96 : Nat) (t98 : Int) (t99 : List (List Int)), laws_markDisk0.f k96 t4 ([] : List S68) t5 t6 1 = some (t98, t99) ∧ 0 ≤ t98 ∧ ∃ (k112 : Nat), laws_heldDisk.f k112 t99 ([] : List S68) t5 t6 1 = some t98 ∧ ∃ (k123 : Nat), impl_DiskNew.f k123 a0 = some (t4, ([] : List S68), t5, t6) ∧ ∃ (k181 : Nat), laws_eqDisk.f k181 t4 ([] : List S68) t5 t6 t4 ([] : List S68) t5 t6 = some true ∧ ∃ (k192 : Nat), laws_heldDisk.f k192 t99 ([] : List S68) t5 t6 1 = some t98 ∧ True
set_option maxHeartbeats 16000000 in
set_option maxRecDepth 100000 in
theorem laws_FnExactDiskNew.calls (a0 : Int) (w : World)  (h : laws_FnExactDiskNew.H a0) :
    Calls Try.prog 3 #[.int .i64 a0] w fun e w' => e = .returned (.bool true) ∧ Below w.heap.size w w' := by
  have hu25 := Try.underlying25
  have HB := Aside0.mk (Below.refl w.heap.size w)
  have TOP := Aside0.mk (Nat.le_refl w.heap.size)
  have OW := Aside0.mk (Nat.le_refl w.heap.size)
  have H : ∃ (k2 : Nat) (t4 : List (List Int)) (t5 : Int) (t6 : Bool), spec_DiskNew.f k2 a0 = some (t4, ([] : List S68), t5, t6) ∧ ∃ (k39 : Nat), impl_DiskNew.f k39 a0 = some (t4, ([] : List S68), t5, t6) ∧ ∃ (k85 : Nat), laws_eqDisk.f k85 t4 ([] : List S68) t5 t6 t4 ([] : List S68) t5 t6 = some true ∧ ∃ (k96 : Nat) (t98 : Int) (t99 : List (List Int)), laws_markDisk0.f k96 t4 ([] : List S68) t5 t6 1 = some (t98, t99) ∧ 0 ≤ t98 ∧ ∃ (k112 : Nat), laws_heldDisk.f k112 t99 ([] : List S68) t5 t6 1 = some t98 ∧ ∃ (k123 : Nat), impl_DiskNew.f k123 a0 = some (t4, ([] : List S68), t5, t6) ∧ ∃ (k181 : Nat), laws_eqDisk.f k181 t4 ([] : List S68) t5 t6 t4 ([] : List S68) t5 t6 = some true ∧ ∃ (k192 : Nat), laws_heldDisk.f k192 t99 ([] : List S68) t5 t6 1 = some t98 ∧ True := h
  clear h
  obtain ⟨k2, t4, t5, t6, A3_, H⟩ := H
  have A3 := Aside0.mk A3_
  clear A3_
  obtain ⟨k39, A40_, H⟩ := H
  have A40 := Aside0.mk A40_
  clear A40_
  obtain ⟨k85, A86_, H⟩ := H
  have A86 := Aside0.mk A86_
  clear A86_
  obtain ⟨k96, t98, t99, A97_, H⟩ := H
  have A97 := Aside0.mk A97_
  clear A97_
  obtain ⟨c110, H⟩ := H
  have c110b0 : decide (t98 < 0) = false := decide_eq_false (by omega)
  clear c110
  obtain ⟨k112, A113_, H⟩ := H
  have A113 := Aside0.mk A113_
  clear A113_
  obtain ⟨k123, A124_, H⟩ := H
  have A124 := Aside0.mk A124_
  clear A124_
  obtain ⟨k181, A182_, H⟩ := H
  have A182 := Aside0.mk A182_
  clear A182_
  obtain ⟨k192, A193_, H⟩ := H
  have A193 := Aside0.mk A193_
  clear A193_
  clear H
  go_enter Try.func3, Try.ntmps3
  try go_wp2_with (first | ((with_reducible refine gate_callee (f := 9) rfl ?_); refine goesL_ (some 9) rfl rfl Try.func9 (by kernel_rfl) rfl #[.int .i64 a0] rfl (by (try simp only [List.map_toArray, List.map_cons, List.map_nil]); first | done | rfl | (simp only [List.length_drop, List.length_take]; rfl)) ?_; (with_reducible refine (spec_DiskNew.calls k2 a0 t4 ([] : List S68) t5 t6 _ A3.out).mono ?_); rintro e w1 ⟨v0_, v1_, rfl, ho7, ho8, hb⟩; refine ⟨_, rfl, ?_⟩; obtain ⟨Ao9, co10, eo11⟩ := Kd.S_slice ho8; rw [List.length_nil] at eo11; subst eo11; clear ho8; obtain ⟨lo12, hi13, OD14_, OD15_, tp_, F16_⟩ := Kd.S_born (base := w.heap.size) ho7 (below_size (by repeat (first | exact HB.out | apply pw_below_drewN | apply below_drew1))) TOP.out hb.size; clear ho7; have OD14 := Aside0.mk OD14_; have OD15 := Aside0.mk OD15_; clear OD14_ OD15_; have F16 := Aside0.mk F16_; clear F16_; have n0_ := Aside0.mk (show Below w.heap.size w w1 from below_step (by repeat (first | exact HB.out | apply pw_below_drewN | apply below_drew1)) hb); have n1_ := Aside0.mk (show hi13 ≤ w1.heap.size from tp_); (try clear HB); (try clear TOP); have HB := n0_; have TOP := n1_; clear n0_ n1_; clear hb tp_; obtain ⟨Ao17, co18, eo19⟩ := Kd.S_slice F16.out; subst eo19) | ((with_reducible refine gate_dst (N := 3) rfl ?_); refine box_event ?hg (N := 3) ?hd (cs := #[.slice none 0 0, .slice none 0 0, .int .i64 0, .bool false]) (t := 25) ?hr ?_; (case hd => rfl); (case hg => rfl); (case hr => first | (go_simp; done) | (go_simp; rfl)); intro g21 hg w20 hbox hb; have OD23 := Aside0.mk (show hi13 ≤ g21 from by rw [hg]; exact TOP.out); have n0_ := Aside0.mk (show Kd.S (Kd.slice 5 (Kd.int .u8)) 37 w20 w.heap.size (iv lo12 hi13) (.slice Ao17 t4.length co18) t4 from Kd.S_below (by (with_reducible repeat (first | exact F16.out | apply Kd.S_drewN | apply Kd.S_drew))) hb); have n1_ := Aside0.mk (show Below w.heap.size w w20 from below_step (by repeat (first | exact HB.out | apply pw_below_drewN | apply below_drew1)) hb); have n2_ := Aside0.mk (show g21 + 1 ≤ w20.heap.size from blk_lt hbox); (try clear F16); (try clear HB); (try clear TOP); have F16 := n0_; have HB := n1_; have TOP := n2_; clear n0_ n1_ n2_; have BK22 := Aside0.mk (show w20.heap[g21]? = some (.cells #[.slice none 0 0, .slice none 0 0, .int .i64 0, .bool false] 25 (0, 0)) from hbox); clear hg hb hbox; have hz24 : w20.cell? ⟨g21, 0, none⟩ = some (.slice none 0 0) := (blk_cell BK22.out 0).trans rfl; have hy25 := blk_frozen BK22.out 0; have hz26 : w20.cell? ⟨g21, 1, none⟩ = some (.slice none 0 0) := (blk_cell BK22.out 1).trans rfl; have hy27 := blk_frozen BK22.out 1; have hz28 : w20.cell? ⟨g21, 2, none⟩ = some (.int .i64 0) := (blk_cell BK22.out 2).trans rfl; have hy29 := blk_frozen BK22.out 2; have hz30 : w20.cell? ⟨g21, 3, none⟩ = some (.bool false) := (blk_cell BK22.out 3).trans rfl; have hy31 := blk_frozen BK22.out 3) | ((with_reducible refine gate_store (t := 25) (p := 3) rfl ?_); refine store_event (t := 25) (p := 3) (v := ?vo33) (w1 := ((((w20.setCell ⟨g21, 0, none⟩ (.slice Ao17 t4.length co18)).setCell ⟨g21, 1, none⟩ (.slice Ao9 0 co10)).setCell ⟨g21, 2, none⟩ (.int .i64 t5)).setCell ⟨g21, 3, none⟩ (.bool t6))) ?hg ?ho ?hn ?hr ?_; (case ho => rfl); (case hg => rfl); (case hn => rfl); (case hr => first | (go_simp; done) | (go_simp; rfl)); intro w32 hw; have n0_ := Aside0.mk (show w32.heap[g21]? = some (.cells #[.slice Ao17 t4.length co18, .slice Ao9 0 co10, .int .i64 t5, .bool t6] 25 (0, 0)) from by rw [hw]; exact blk_put (cs := #[.slice Ao17 t4.length co18, .slice Ao9 0 co10, .int .i64 t5, .bool false]) (blk_put (cs := #[.slice Ao17 t4.length co18, .slice Ao9 0 co10, .int .i64 0, .bool false]) (blk_put (cs := #[.slice Ao17 t4.length co18, .slice none 0 0, .int .i64 0, .bool false]) (blk_put (cs := #[.slice none 0 0, .slice none 0 0, .int .i64 0, .bool false]) (BK22.out) 0 _ rfl) 1 _ rfl) 2 _ rfl) 3 _ rfl); have n1_ := Aside0.mk (show Kd.S (Kd.slice 5 (Kd.int .u8)) 37 w32 w.heap.size (iv lo12 hi13) (.slice Ao17 t4.length co18) t4 from by rw [hw]; have ne_ : g21 < lo12 ∨ hi13 ≤ g21 := (by have q0 := OW.out; have q1 := OD14.out; have q2 := OD15.out; have q3 := OD23.out; omega); exact Kd.S_ivset (Kd.S_ivset (Kd.S_ivset (Kd.S_ivset (F16.out) ne_ 0 _) ne_ 1 _) ne_ 2 _) ne_ 3 _); have n2_ := Aside0.mk (show Below w.heap.size w w32 from by rw [hw]; have ge_ : w.heap.size ≤ g21 := (by have q0 := OW.out; have q1 := OD14.out; have q2 := OD15.out; have q3 := OD23.out; omega); exact below_set (below_set (below_set (below_set (HB.out) ge_) ge_) ge_) ge_); have n3_ := Aside0.mk (show g21 + 1 ≤ w32.heap.size from by rw [hw]; simp only [size_set]; exact TOP.out); (try clear BK22); (try clear F16); (try clear HB); (try clear TOP); have BK22 := n0_; have F16 := n1_; have HB := n2_; have TOP := n3_; clear n0_ n1_ n2_ n3_; clear hw; (try clear hz24); (try clear hy25); (try clear hz26); (try clear hy27); (try clear hz28); (try clear hy29); (try clear hz30); (try clear hy31); have hz34 : w32.cell? ⟨g21, 0, none⟩ = some (.slice Ao17 t4.length co18) := (blk_cell BK22.out 0).trans rfl; have hz35 : w32.cell? ⟨g21, 1, none⟩ = some (.slice Ao9 0 co10) := (blk_cell BK22.out 1).trans rfl; have hz36 : w32.cell? ⟨g21, 2, none⟩ = some (.int .i64 t5) := (blk_cell BK22.out 2).trans rfl; have hz37 : w32.cell? ⟨g21, 3, none⟩ = some (.bool t6) := (blk_cell BK22.out 3).trans rfl) | ((with_reducible refine gate_callee (f := 10) rfl ?_); refine goesL_ (some 11) rfl rfl Try.func10 (by kernel_rfl) rfl #[.int .i64 a0] rfl (by (try simp only [List.map_toArray, List.map_cons, List.map_nil]); first | done | rfl | (simp only [List.length_drop, List.length_take]; rfl)) ?_; (with_reducible refine (impl_DiskNew.calls k39 a0 t4 ([] : List S68) t5 t6 _ A40.out).mono ?_); rintro e w38 ⟨v0_, v1_, rfl, ho41, ho42, hb⟩; refine ⟨_, rfl, ?_⟩; obtain ⟨Ao43, co44, eo45⟩ := Kd.S_slice ho42; rw [List.length_nil] at eo45; subst eo45; clear ho42; obtain ⟨lo46, hi47, OD48_, OD49_, tp_, F50_⟩ := Kd.S_born (base := w.heap.size) ho41 (below_size (by repeat (first | exact HB.out | apply pw_below_drewN | apply below_drew1))) TOP.out hb.size; clear ho41; have OD48 := Aside0.mk OD48_; have OD49 := Aside0.mk OD49_; clear OD48_ OD49_; have F50 := Aside0.mk F50_; clear F50_; have n0_ := Aside0.mk (show w38.heap[g21]? = some (.cells #[.slice Ao17 t4.length co18, .slice Ao9 0 co10, .int .i64 t5, .bool t6] 25 (0, 0)) from blk_below (by (with_reducible repeat (first | exact BK22.out | refine blk_drewN ?_ _ | refine blk_drew ?_))) hb); have n1_ := Aside0.mk (show Kd.S (Kd.slice 5 (Kd.int .u8)) 37 w38 w.heap.size (iv lo12 hi13) (.slice Ao17 t4.length co18) t4 from Kd.S_below (by (with_reducible repeat (first | exact F16.out | apply Kd.S_drewN | apply Kd.S_drew))) hb); have n2_ := Aside0.mk (show Below w.heap.size w w38 from below_step (by repeat (first | exact HB.out | apply pw_below_drewN | apply below_drew1)) hb); have n3_ := Aside0.mk (show hi47 ≤ w38.heap.size from tp_); (try clear BK22); (try clear F16); (try clear HB); (try clear TOP); have BK22 := n0_; have F16 := n1_; have HB := n2_; have TOP := n3_; clear n0_ n1_ n2_ n3_; clear hb tp_; obtain ⟨Ao51, co52, eo53⟩ := Kd.S_slice F50.out; subst eo53; (try clear hz34); (try clear hz35); (try clear hz36); (try clear hz37); have hz54 : w38.cell? ⟨g21, 0, none⟩ = some (.slice Ao17 t4.length co18) := (blk_cell BK22.out 0).trans rfl; have hz55 : w38.cell? ⟨g21, 1, none⟩ = some (.slice Ao9 0 co10) := (blk_cell BK22.out 1).trans rfl; have hz56 : w38.cell? ⟨g21, 2, none⟩ = some (.int .i64 t5) := (blk_cell BK22.out 2).trans rfl; have hz57 : w38.cell? ⟨g21, 3, none⟩ = some (.bool t6) := (blk_cell BK22.out 3).trans rfl) | ((with_reducible refine gate_dst (N := 4) rfl ?_); refine box_event ?hg (N := 4) ?hd (cs := #[.slice none 0 0, .slice none 0 0, .int .i64 0, .bool false]) (t := 25) ?hr ?_; (case hd => rfl); (case hg => rfl); (case hr => first | (go_simp; done) | (go_simp; rfl)); intro g59 hg w58 hbox hb; have OD61 := Aside0.mk (show hi47 ≤ g59 from by rw [hg]; exact TOP.out); have n0_ := Aside0.mk (show w58.heap[g21]? = some (.cells #[.slice Ao17 t4.length co18, .slice Ao9 0 co10, .int .i64 t5, .bool t6] 25 (0, 0)) from blk_below (by (with_reducible repeat (first | exact BK22.out | refine blk_drewN ?_ _ | refine blk_drew ?_))) hb); have n1_ := Aside0.mk (show Kd.S (Kd.slice 5 (Kd.int .u8)) 37 w58 w.heap.size (iv lo12 hi13) (.slice Ao17 t4.length co18) t4 from Kd.S_below (by (with_reducible repeat (first | exact F16.out | apply Kd.S_drewN | apply Kd.S_drew))) hb); have n2_ := Aside0.mk (show Kd.S (Kd.slice 5 (Kd.int .u8)) 37 w58 w.heap.size (iv lo46 hi47) (.slice Ao51 t4.length co52) t4 from Kd.S_below (by (with_reducible repeat (first | exact F50.out | apply Kd.S_drewN | apply Kd.S_drew))) hb); have n3_ := Aside0.mk (show Below w.heap.size w w58 from below_step (by repeat (first | exact HB.out | apply pw_below_drewN | apply below_drew1)) hb); have n4_ := Aside0.mk (show g59 + 1 ≤ w58.heap.size from blk_lt hbox); (try clear BK22); (try clear F16); (try clear F50); (try clear HB); (try clear TOP); have BK22 := n0_; have F16 := n1_; have F50 := n2_; have HB := n3_; have TOP := n4_; clear n0_ n1_ n2_ n3_ n4_; have BK60 := Aside0.mk (show w58.heap[g59]? = some (.cells #[.slice none 0 0, .slice none 0 0, .int .i64 0, .bool false] 25 (0, 0)) from hbox); clear hg hb hbox; (try clear hz54); (try clear hz55); (try clear hz56); (try clear hz57); have hz62 : w58.cell? ⟨g21, 0, none⟩ = some (.slice Ao17 t4.length co18) := (blk_cell BK22.out 0).trans rfl; have hz63 : w58.cell? ⟨g21, 1, none⟩ = some (.slice Ao9 0 co10) := (blk_cell BK22.out 1).trans rfl; have hz64 : w58.cell? ⟨g21, 2, none⟩ = some (.int .i64 t5) := (blk_cell BK22.out 2).trans rfl; have hz65 : w58.cell? ⟨g21, 3, none⟩ = some (.bool t6) := (blk_cell BK22.out 3).trans rfl; have hz66 : w58.cell? ⟨g59, 0, none⟩ = some (.slice none 0 0) := (blk_cell BK60.out 0).trans rfl; have hy67 := blk_frozen BK60.out 0; have hz68 : w58.cell? ⟨g59, 1, none⟩ = some (.slice none 0 0) := (blk_cell BK60.out 1).trans rfl; have hy69 := blk_frozen BK60.out 1; have hz70 : w58.cell? ⟨g59, 2, none⟩ = some (.int .i64 0) := (blk_cell BK60.out 2).trans rfl; have hy71 := blk_frozen BK60.out 2; have hz72 : w58.cell? ⟨g59, 3, none⟩ = some (.bool false) := (blk_cell BK60.out 3).trans rfl; have hy73 := blk_frozen BK60.out 3) | ((with_reducible refine gate_store (t := 25) (p := 4) rfl ?_); refine store_event (t := 25) (p := 4) (v := ?vo75) (w1 := ((((w58.setCell ⟨g59, 0, none⟩ (.slice Ao51 t4.length co52)).setCell ⟨g59, 1, none⟩ (.slice Ao43 0 co44)).setCell ⟨g59, 2, none⟩ (.int .i64 t5)).setCell ⟨g59, 3, none⟩ (.bool t6))) ?hg ?ho ?hn ?hr ?_; (case ho => rfl); (case hg => rfl); (case hn => rfl); (case hr => first | (go_simp; done) | (go_simp; rfl)); intro w74 hw; have n0_ := Aside0.mk (show w74.heap[g21]? = some (.cells #[.slice Ao17 t4.length co18, .slice Ao9 0 co10, .int .i64 t5, .bool t6] 25 (0, 0)) from by rw [hw]; have ne_ : g21 ≠ g59 := (by have q0 := OW.out; have q1 := OD14.out; have q2 := OD15.out; have q3 := OD23.out; have q4 := OD48.out; have q5 := OD49.out; have q6 := OD61.out; omega); exact blk_far (blk_far (blk_far (blk_far (BK22.out) ne_ _) ne_ _) ne_ _) ne_ _); have n1_ := Aside0.mk (show w74.heap[g59]? = some (.cells #[.slice Ao51 t4.length co52, .slice Ao43 0 co44, .int .i64 t5, .bool t6] 25 (0, 0)) from by rw [hw]; exact blk_put (cs := #[.slice Ao51 t4.length co52, .slice Ao43 0 co44, .int .i64 t5, .bool false]) (blk_put (cs := #[.slice Ao51 t4.length co52, .slice Ao43 0 co44, .int .i64 0, .bool false]) (blk_put (cs := #[.slice Ao51 t4.length co52, .slice none 0 0, .int .i64 0, .bool false]) (blk_put (cs := #[.slice none 0 0, .slice none 0 0, .int .i64 0, .bool false]) (BK60.out) 0 _ rfl) 1 _ rfl) 2 _ rfl) 3 _ rfl); have n2_ := Aside0.mk (show Kd.S (Kd.slice 5 (Kd.int .u8)) 37 w74 w.heap.size (iv lo12 hi13) (.slice Ao17 t4.length co18) t4 from by rw [hw]; have ne_ : g59 < lo12 ∨ hi13 ≤ g59 := (by have q0 := OW.out; have q1 := OD14.out; have q2 := OD15.out; have q3 := OD23.out; have q4 := OD48.out; have q5 := OD49.out; have q6 := OD61.out; omega); exact Kd.S_ivset (Kd.S_ivset (Kd.S_ivset (Kd.S_ivset (F16.out) ne_ 0 _) ne_ 1 _) ne_ 2 _) ne_ 3 _); have n3_ := Aside0.mk (show Kd.S (Kd.slice 5 (Kd.int .u8)) 37 w74 w.heap.size (iv lo46 hi47) (.slice Ao51 t4.length co52) t4 from by rw [hw]; have ne_ : g59 < lo46 ∨ hi47 ≤ g59 := (by have q0 := OW.out; have q1 := OD14.out; have q2 := OD15.out; have q3 := OD23.out; have q4 := OD48.out; have q5 := OD49.out; have q6 := OD61.out; omega); exact Kd.S_ivset (Kd.S_ivset (Kd.S_ivset (Kd.S_ivset (F50.out) ne_ 0 _) ne_ 1 _) ne_ 2 _) ne_ 3 _); have n4_ := Aside0.mk (show Below w.heap.size w w74 from by rw [hw]; have ge_ : w.heap.size ≤ g59 := (by have q0 := OW.out; have q1 := OD14.out; have q2 := OD15.out; have q3 := OD23.out; have q4 := OD48.out; have q5 := OD49.out; have q6 := OD61.out; omega); exact below_set (below_set (below_set (below_set (HB.out) ge_) ge_) ge_) ge_); have n5_ := Aside0.mk (show g59 + 1 ≤ w74.heap.size from by rw [hw]; simp only [size_set]; exact TOP.out); (try clear BK22); (try clear BK60); (try clear F16); (try clear F50); (try clear HB); (try clear TOP); have BK22 := n0_; have BK60 := n1_; have F16 := n2_; have F50 := n3_; have HB := n4_; have TOP := n5_; clear n0_ n1_ n2_ n3_ n4_ n5_; clear hw; (try clear hz62); (try clear hz63); (try clear hz64); (try clear hz65); (try clear hz66); (try clear hy67); (try clear hz68); (try clear hy69); (try clear hz70); (try clear hy71); (try clear hz72); (try clear hy73); have hz76 : w74.cell? ⟨g21, 0, none⟩ = some (.slice Ao17 t4.length co18) := (blk_cell BK22.out 0).trans rfl; have hz77 : w74.cell? ⟨g21, 1, none⟩ = some (.slice Ao9 0 co10) := (blk_cell BK22.out 1).trans rfl; have hz78 : w74.cell? ⟨g21, 2, none⟩ = some (.int .i64 t5) := (blk_cell BK22.out 2).trans rfl; have hz79 : w74.cell? ⟨g21, 3, none⟩ = some (.bool t6) := (blk_cell BK22.out 3).trans rfl; have hz80 : w74.cell? ⟨g59, 0, none⟩ = some (.slice Ao51 t4.length co52) := (blk_cell BK60.out 0).trans rfl; have hz81 : w74.cell? ⟨g59, 1, none⟩ = some (.slice Ao43 0 co44) := (blk_cell BK60.out 1).trans rfl; have hz82 : w74.cell? ⟨g59, 2, none⟩ = some (.int .i64 t5) := (blk_cell BK60.out 2).trans rfl; have hz83 : w74.cell? ⟨g59, 3, none⟩ = some (.bool t6) := (blk_cell BK60.out 3).trans rfl) | ((with_reducible refine gate_callee (f := 11) rfl ?_); refine goesL_ (some 14) rfl rfl Try.func11 (by kernel_rfl) rfl #[.agg #[.slice Ao51 t4.length co52, .slice Ao43 0 co44, .int .i64 t5, .bool t6], .agg #[.slice Ao17 t4.length co18, .slice Ao9 0 co10, .int .i64 t5, .bool t6]] rfl (by (try simp only [List.map_toArray, List.map_cons, List.map_nil]); first | done | rfl | (simp only [List.length_drop, List.length_take]; rfl)) ?_; (with_reducible refine (calls_args (a' := #[.agg #[.slice Ao51 t4.length co52, .slice Ao43 ([] : List S68).length co44, .int .i64 t5, .bool t6], .agg #[.slice Ao17 t4.length co18, .slice Ao9 ([] : List S68).length co10, .int .i64 t5, .bool t6]]) (by simp only [List.length_nil]) (laws_eqDisk.calls k85 _ _ t4 _ _ ([] : List S68) t5 t6 _ _ t4 _ _ ([] : List S68) t5 t6 true _ ?s1 ?s2 ?s3 ?s4 ?s5 ?s6 ?s7 ?s8 A86.out)).mono ?_); (case s1 => exact (Kd.S_reads' (by (with_reducible repeat (first | exact F50.out | apply Kd.S_drewN | apply Kd.S_drew)))).2.2); (case s2 => exact (Kd.S_reads' (by (with_reducible repeat (first | exact F50.out | apply Kd.S_drewN | apply Kd.S_drew)))).2.1); (case s3 => exact Kd.C_empty _ _ _); (case s4 => exact Nat.zero_le _); (case s5 => exact (Kd.S_reads' (by (with_reducible repeat (first | exact F16.out | apply Kd.S_drewN | apply Kd.S_drew)))).2.2); (case s6 => exact (Kd.S_reads' (by (with_reducible repeat (first | exact F16.out | apply Kd.S_drewN | apply Kd.S_drew)))).2.1); (case s7 => exact Kd.C_empty _ _ _); (case s8 => exact Nat.zero_le _); rintro e w84 ⟨rfl, hb⟩; refine ⟨_, rfl, ?_⟩; have n0_ := Aside0.mk (show w84.heap[g21]? = some (.cells #[.slice Ao17 t4.length co18, .slice Ao9 0 co10, .int .i64 t5, .bool t6] 25 (0, 0)) from blk_below (by (with_reducible repeat (first | exact BK22.out | refine blk_drewN ?_ _ | refine blk_drew ?_))) hb); have n1_ := Aside0.mk (show w84.heap[g59]? = some (.cells #[.slice Ao51 t4.length co52, .slice Ao43 0 co44, .int .i64 t5, .bool t6] 25 (0, 0)) from blk_below (by (with_reducible repeat (first | exact BK60.out | refine blk_drewN ?_ _ | refine blk_drew ?_))) hb); have n2_ := Aside0.mk (show Kd.S (Kd.slice 5 (Kd.int .u8)) 37 w84 w.heap.size (iv lo12 hi13) (.slice Ao17 t4.length co18) t4 from Kd.S_below (by (with_reducible repeat (first | exact F16.out | apply Kd.S_drewN | apply Kd.S_drew))) hb); have n3_ := Aside0.mk (show Kd.S (Kd.slice 5 (Kd.int .u8)) 37 w84 w.heap.size (iv lo46 hi47) (.slice Ao51 t4.length co52) t4 from Kd.S_below (by (with_reducible repeat (first | exact F50.out | apply Kd.S_drewN | apply Kd.S_drew))) hb); have n4_ := Aside0.mk (show Below w.heap.size w w84 from below_step (by repeat (first | exact HB.out | apply pw_below_drewN | apply below_drew1)) hb); have n5_ := Aside0.mk (show g59 + 1 ≤ w84.heap.size from Nat.le_trans TOP.out hb.size); (try clear BK22); (try clear BK60); (try clear F16); (try clear F50); (try clear HB); (try clear TOP); have BK22 := n0_; have BK60 := n1_; have F16 := n2_; have F50 := n3_; have HB := n4_; have TOP := n5_; clear n0_ n1_ n2_ n3_ n4_ n5_; clear hb; (try clear hz76); (try clear hz77); (try clear hz78); (try clear hz79); (try clear hz80); (try clear hz81); (try clear hz82); (try clear hz83); have hz87 : w84.cell? ⟨g21, 0, none⟩ = some (.slice Ao17 t4.length co18) := (blk_cell BK22.out 0).trans rfl; have hz88 : w84.cell? ⟨g21, 1, none⟩ = some (.slice Ao9 0 co10) := (blk_cell BK22.out 1).trans rfl; have hz89 : w84.cell? ⟨g21, 2, none⟩ = some (.int .i64 t5) := (blk_cell BK22.out 2).trans rfl; have hz90 : w84.cell? ⟨g21, 3, none⟩ = some (.bool t6) := (blk_cell BK22.out 3).trans rfl; have hz91 : w84.cell? ⟨g59, 0, none⟩ = some (.slice Ao51 t4.length co52) := (blk_cell BK60.out 0).trans rfl; have hz92 : w84.cell? ⟨g59, 1, none⟩ = some (.slice Ao43 0 co44) := (blk_cell BK60.out 1).trans rfl; have hz93 : w84.cell? ⟨g59, 2, none⟩ = some (.int .i64 t5) := (blk_cell BK60.out 2).trans rfl; have hz94 : w84.cell? ⟨g59, 3, none⟩ = some (.bool t6) := (blk_cell BK60.out 3).trans rfl) | ((with_reducible refine gate_callee (f := 12) rfl ?_); refine goesL_ (some 18) rfl rfl Try.func12 (by kernel_rfl) rfl #[.agg #[.slice Ao51 t4.length co52, .slice Ao43 0 co44, .int .i64 t5, .bool t6], .int .i64 1] rfl (by (try simp only [List.map_toArray, List.map_cons, List.map_nil]); first | done | rfl | (simp only [List.length_drop, List.length_take]; rfl)) ?_; (with_reducible refine (calls_args (a' := #[.agg #[.slice Ao51 t4.length co52, .slice Ao43 ([] : List S68).length co44, .int .i64 t5, .bool t6], .int .i64 1]) (by simp only [List.length_nil]) (laws_markDisk0.calls k96 (iv lo46 hi47) _ _ t4 _ _ ([] : List S68) t5 t6 1 t98 t99 w _ ?s1 ?s2 A97.out)).mono ?_); (case s1 => exact (by repeat (first | exact HB.out | apply pw_below_drewN | apply below_drew1))); (case s2 => exact (by (with_reducible repeat (first | exact F50.out | apply Kd.S_drewN | apply Kd.S_drew)))); rintro e w95 ⟨rfl, ho100, hB2, hk⟩; refine ⟨_, rfl, ?_⟩; have LN101 := Aside0.mk (show t4.length = t99.length from (Kd.S_reads' ho100).1); have n0_ := Aside0.mk (show w95.heap[g21]? = some (.cells #[.slice Ao17 t4.length co18, .slice Ao9 0 co10, .int .i64 t5, .bool t6] 25 (0, 0)) from blk_kept (by (with_reducible repeat (first | exact BK22.out | refine blk_drewN ?_ _ | refine blk_drew ?_))) hk (Kd.iv_out (by have q0 := OW.out; have q1 := OD14.out; have q2 := OD15.out; have q3 := OD23.out; have q4 := OD48.out; have q5 := OD49.out; have q6 := OD61.out; omega))); have n1_ := Aside0.mk (show w95.heap[g59]? = some (.cells #[.slice Ao51 t4.length co52, .slice Ao43 0 co44, .int .i64 t5, .bool t6] 25 (0, 0)) from blk_kept (by (with_reducible repeat (first | exact BK60.out | refine blk_drewN ?_ _ | refine blk_drew ?_))) hk (Kd.iv_out (by have q0 := OW.out; have q1 := OD14.out; have q2 := OD15.out; have q3 := OD23.out; have q4 := OD48.out; have q5 := OD49.out; have q6 := OD61.out; omega))); have n2_ := Aside0.mk (show Kd.S (Kd.slice 5 (Kd.int .u8)) 37 w95 w.heap.size (iv lo12 hi13) (.slice Ao17 t4.length co18) t4 from Kd.S_kept (by (with_reducible repeat (first | exact F16.out | apply Kd.S_drewN | apply Kd.S_drew))) hk (Kd.iv_apart (by have q0 := OW.out; have q1 := OD14.out; have q2 := OD15.out; have q3 := OD23.out; have q4 := OD48.out; have q5 := OD49.out; have q6 := OD61.out; omega))); have n3_ := Aside0.mk (show Kd.S (Kd.slice 5 (Kd.int .u8)) 37 w95 w.heap.size (iv lo46 hi47) (.slice Ao51 t4.length co52) t99 from ho100); have n4_ := Aside0.mk (show Below w.heap.size w w95 from hB2); have n5_ := Aside0.mk (show g59 + 1 ≤ w95.heap.size from Nat.le_trans TOP.out hk.1); (try clear BK22); (try clear BK60); (try clear F16); (try clear F50); (try clear HB); (try clear TOP); have BK22 := n0_; have BK60 := n1_; have F16 := n2_; have F50 := n3_; have HB := n4_; have TOP := n5_; clear n0_ n1_ n2_ n3_ n4_ n5_; clear ho100 hB2 hk; (try clear hz87); (try clear hz88); (try clear hz89); (try clear hz90); (try clear hz91); (try clear hz92); (try clear hz93); (try clear hz94); have hz102 : w95.cell? ⟨g21, 0, none⟩ = some (.slice Ao17 t4.length co18) := (blk_cell BK22.out 0).trans rfl; have hz103 : w95.cell? ⟨g21, 1, none⟩ = some (.slice Ao9 0 co10) := (blk_cell BK22.out 1).trans rfl; have hz104 : w95.cell? ⟨g21, 2, none⟩ = some (.int .i64 t5) := (blk_cell BK22.out 2).trans rfl; have hz105 : w95.cell? ⟨g21, 3, none⟩ = some (.bool t6) := (blk_cell BK22.out 3).trans rfl; have hz106 : w95.cell? ⟨g59, 0, none⟩ = some (.slice Ao51 t4.length co52) := (blk_cell BK60.out 0).trans rfl; have hz107 : w95.cell? ⟨g59, 1, none⟩ = some (.slice Ao43 0 co44) := (blk_cell BK60.out 1).trans rfl; have hz108 : w95.cell? ⟨g59, 2, none⟩ = some (.int .i64 t5) := (blk_cell BK60.out 2).trans rfl; have hz109 : w95.cell? ⟨g59, 3, none⟩ = some (.bool t6) := (blk_cell BK60.out 3).trans rfl) | ((with_reducible refine gate_callee (f := 13) rfl ?_); refine goesL_ (some 21) rfl rfl Try.func13 (by kernel_rfl) rfl #[.agg #[.slice Ao51 t4.length co52, .slice Ao43 0 co44, .int .i64 t5, .bool t6], .int .i64 1] rfl (by (try simp only [List.map_toArray, List.map_cons, List.map_nil]); first | done | rfl | (simp only [List.length_drop, List.length_take]; rfl)) ?_; (with_reducible refine (calls_args (a' := #[.agg #[.slice Ao51 t99.length co52, .slice Ao43 ([] : List S68).length co44, .int .i64 t5, .bool t6], .int .i64 1]) (by rw [LN101.out]; simp only [List.length_nil]) (laws_heldDisk.calls k112 _ _ t99 _ _ ([] : List S68) t5 t6 1 t98 _ ?s1 ?s2 ?s3 ?s4 A113.out)).mono ?_); (case s1 => exact (Kd.S_reads' (by (with_reducible repeat (first | exact F50.out | apply Kd.S_drewN | apply Kd.S_drew)))).2.2); (case s2 => have q_ := (Kd.S_reads' (by (with_reducible repeat (first | exact F50.out | apply Kd.S_drewN | apply Kd.S_drew)))).2.1; rw [LN101.out] at q_; exact q_); (case s3 => exact Kd.C_empty _ _ _); (case s4 => exact Nat.zero_le _); rintro e w111 ⟨rfl, hb⟩; refine ⟨_, rfl, ?_⟩; have n0_ := Aside0.mk (show w111.heap[g21]? = some (.cells #[.slice Ao17 t4.length co18, .slice Ao9 0 co10, .int .i64 t5, .bool t6] 25 (0, 0)) from blk_below (by (with_reducible repeat (first | exact BK22.out | refine blk_drewN ?_ _ | refine blk_drew ?_))) hb); have n1_ := Aside0.mk (show w111.heap[g59]? = some (.cells #[.slice Ao51 t4.length co52, .slice Ao43 0 co44, .int .i64 t5, .bool t6] 25 (0, 0)) from blk_below (by (with_reducible repeat (first | exact BK60.out | refine blk_drewN ?_ _ | refine blk_drew ?_))) hb); have n2_ := Aside0.mk (show Kd.S (Kd.slice 5 (Kd.int .u8)) 37 w111 w.heap.size (iv lo12 hi13) (.slice Ao17 t4.length co18) t4 from Kd.S_below (by (with_reducible repeat (first | exact F16.out | apply Kd.S_drewN | apply Kd.S_drew))) hb); have n3_ := Aside0.mk (show Kd.S (Kd.slice 5 (Kd.int .u8)) 37 w111 w.heap.size (iv lo46 hi47) (.slice Ao51 t4.length co52) t99 from Kd.S_below (by (with_reducible repeat (first | exact F50.out | apply Kd.S_drewN | apply Kd.S_drew))) hb); have n4_ := Aside0.mk (show Below w.heap.size w w111 from below_step (by repeat (first | exact HB.out | apply pw_below_drewN | apply below_drew1)) hb); have n5_ := Aside0.mk (show g59 + 1 ≤ w111.heap.size from Nat.le_trans TOP.out hb.size); (try clear BK22); (try clear BK60); (try clear F16); (try clear F50); (try clear HB); (try clear TOP); have BK22 := n0_; have BK60 := n1_; have F16 := n2_; have F50 := n3_; have HB := n4_; have TOP := n5_; clear n0_ n1_ n2_ n3_ n4_ n5_; clear hb; (try clear hz102); (try clear hz103); (try clear hz104); (try clear hz105); (try clear hz106); (try clear hz107); (try clear hz108); (try clear hz109); have hz114 : w111.cell? ⟨g21, 0, none⟩ = some (.slice Ao17 t4.length co18) := (blk_cell BK22.out 0).trans rfl; have hz115 : w111.cell? ⟨g21, 1, none⟩ = some (.slice Ao9 0 co10) := (blk_cell BK22.out 1).trans rfl; have hz116 : w111.cell? ⟨g21, 2, none⟩ = some (.int .i64 t5) := (blk_cell BK22.out 2).trans rfl; have hz117 : w111.cell? ⟨g21, 3, none⟩ = some (.bool t6) := (blk_cell BK22.out 3).trans rfl; have hz118 : w111.cell? ⟨g59, 0, none⟩ = some (.slice Ao51 t4.length co52) := (blk_cell BK60.out 0).trans rfl; have hz119 : w111.cell? ⟨g59, 1, none⟩ = some (.slice Ao43 0 co44) := (blk_cell BK60.out 1).trans rfl; have hz120 : w111.cell? ⟨g59, 2, none⟩ = some (.int .i64 t5) := (blk_cell BK60.out 2).trans rfl; have hz121 : w111.cell? ⟨g59, 3, none⟩ = some (.bool t6) := (blk_cell BK60.out 3).trans rfl) | ((with_reducible refine gate_callee (f := 10) rfl ?_); refine goesL_ (some 28) rfl rfl Try.func10 (by kernel_rfl) rfl #[.int .i64 a0] rfl (by (try simp only [List.map_toArray, List.map_cons, List.map_nil]); first | done | rfl | (simp only [List.length_drop, List.length_take]; rfl)) ?_; (with_reducible refine (impl_DiskNew.calls k123 a0 t4 ([] : List S68) t5 t6 _ A124.out).mono ?_); rintro e w122 ⟨v0_, v1_, rfl, ho125, ho126, hb⟩; refine ⟨_, rfl, ?_⟩; obtain ⟨Ao127, co128, eo129⟩ := Kd.S_slice ho126; rw [List.length_nil] at eo129; subst eo129; clear ho126; obtain ⟨lo130, hi131, OD132_, OD133_, tp_, F134_⟩ := Kd.S_born (base := w.heap.size) ho125 (below_size (by repeat (first | exact HB.out | apply pw_below_drewN | apply below_drew1))) TOP.out hb.size; clear ho125; have OD132 := Aside0.mk OD132_; have OD133 := Aside0.mk OD133_; clear OD132_ OD133_; have F134 := Aside0.mk F134_; clear F134_; have n0_ := Aside0.mk (show w122.heap[g21]? = some (.cells #[.slice Ao17 t4.length co18, .slice Ao9 0 co10, .int .i64 t5, .bool t6] 25 (0, 0)) from blk_below (by (with_reducible repeat (first | exact BK22.out | refine blk_drewN ?_ _ | refine blk_drew ?_))) hb); have n1_ := Aside0.mk (show w122.heap[g59]? = some (.cells #[.slice Ao51 t4.length co52, .slice Ao43 0 co44, .int .i64 t5, .bool t6] 25 (0, 0)) from blk_below (by (with_reducible repeat (first | exact BK60.out | refine blk_drewN ?_ _ | refine blk_drew ?_))) hb); have n2_ := Aside0.mk (show Kd.S (Kd.slice 5 (Kd.int .u8)) 37 w122 w.heap.size (iv lo12 hi13) (.slice Ao17 t4.length co18) t4 from Kd.S_below (by (with_reducible repeat (first | exact F16.out | apply Kd.S_drewN | apply Kd.S_drew))) hb); have n3_ := Aside0.mk (show Kd.S (Kd.slice 5 (Kd.int .u8)) 37 w122 w.heap.size (iv lo46 hi47) (.slice Ao51 t4.length co52) t99 from Kd.S_below (by (with_reducible repeat (first | exact F50.out | apply Kd.S_drewN | apply Kd.S_drew))) hb); have n4_ := Aside0.mk (show Below w.heap.size w w122 from below_step (by repeat (first | exact HB.out | apply pw_below_drewN | apply below_drew1)) hb); have n5_ := Aside0.mk (show hi131 ≤ w122.heap.size from tp_); (try clear BK22); (try clear BK60); (try clear F16); (try clear F50); (try clear HB); (try clear TOP); have BK22 := n0_; have BK60 := n1_; have F16 := n2_; have F50 := n3_; have HB := n4_; have TOP := n5_; clear n0_ n1_ n2_ n3_ n4_ n5_; clear hb tp_; obtain ⟨Ao135, co136, eo137⟩ := Kd.S_slice F134.out; subst eo137; (try clear hz114); (try clear hz115); (try clear hz116); (try clear hz117); (try clear hz118); (try clear hz119); (try clear hz120); (try clear hz121); have hz138 : w122.cell? ⟨g21, 0, none⟩ = some (.slice Ao17 t4.length co18) := (blk_cell BK22.out 0).trans rfl; have hz139 : w122.cell? ⟨g21, 1, none⟩ = some (.slice Ao9 0 co10) := (blk_cell BK22.out 1).trans rfl; have hz140 : w122.cell? ⟨g21, 2, none⟩ = some (.int .i64 t5) := (blk_cell BK22.out 2).trans rfl; have hz141 : w122.cell? ⟨g21, 3, none⟩ = some (.bool t6) := (blk_cell BK22.out 3).trans rfl; have hz142 : w122.cell? ⟨g59, 0, none⟩ = some (.slice Ao51 t4.length co52) := (blk_cell BK60.out 0).trans rfl; have hz143 : w122.cell? ⟨g59, 1, none⟩ = some (.slice Ao43 0 co44) := (blk_cell BK60.out 1).trans rfl; have hz144 : w122.cell? ⟨g59, 2, none⟩ = some (.int .i64 t5) := (blk_cell BK60.out 2).trans rfl; have hz145 : w122.cell? ⟨g59, 3, none⟩ = some (.bool t6) := (blk_cell BK60.out 3).trans rfl) | ((with_reducible refine gate_dst (N := 7) rfl ?_); refine box_event ?hg (N := 7) ?hd (cs := #[.slice none 0 0, .slice none 0 0, .int .i64 0, .bool false]) (t := 25) ?hr ?_; (case hd => rfl); (case hg => rfl); (case hr => first | (go_simp; done) | (go_simp; rfl)); intro g147 hg w146 hbox hb; have OD149 := Aside0.mk (show hi131 ≤ g147 from by rw [hg]; exact TOP.out); have n0_ := Aside0.mk (show w146.heap[g21]? = some (.cells #[.slice Ao17 t4.length co18, .slice Ao9 0 co10, .int .i64 t5, .bool t6] 25 (0, 0)) from blk_below (by (with_reducible repeat (first | exact BK22.out | refine blk_drewN ?_ _ | refine blk_drew ?_))) hb); have n1_ := Aside0.mk (show w146.heap[g59]? = some (.cells #[.slice Ao51 t4.length co52, .slice Ao43 0 co44, .int .i64 t5, .bool t6] 25 (0, 0)) from blk_below (by (with_reducible repeat (first | exact BK60.out | refine blk_drewN ?_ _ | refine blk_drew ?_))) hb); have n2_ := Aside0.mk (show Kd.S (Kd.slice 5 (Kd.int .u8)) 37 w146 w.heap.size (iv lo12 hi13) (.slice Ao17 t4.length co18) t4 from Kd.S_below (by (with_reducible repeat (first | exact F16.out | apply Kd.S_drewN | apply Kd.S_drew))) hb); have n3_ := Aside0.mk (show Kd.S (Kd.slice 5 (Kd.int .u8)) 37 w146 w.heap.size (iv lo46 hi47) (.slice Ao51 t4.length co52) t99 from Kd.S_below (by (with_reducible repeat (first | exact F50.out | apply Kd.S_drewN | apply Kd.S_drew))) hb); have n4_ := Aside0.mk (show Kd.S (Kd.slice 5 (Kd.int .u8)) 37 w146 w.heap.size (iv lo130 hi131) (.slice Ao135 t4.length co136) t4 from Kd.S_below (by (with_reducible repeat (first | exact F134.out | apply Kd.S_drewN | apply Kd.S_drew))) hb); have n5_ := Aside0.mk (show Below w.heap.size w w146 from below_step (by repeat (first | exact HB.out | apply pw_below_drewN | apply below_drew1)) hb); have n6_ := Aside0.mk (show g147 + 1 ≤ w146.heap.size from blk_lt hbox); (try clear BK22); (try clear BK60); (try clear F16); (try clear F50); (try clear F134); (try clear HB); (try clear TOP); have BK22 := n0_; have BK60 := n1_; have F16 := n2_; have F50 := n3_; have F134 := n4_; have HB := n5_; have TOP := n6_; clear n0_ n1_ n2_ n3_ n4_ n5_ n6_; have BK148 := Aside0.mk (show w146.heap[g147]? = some (.cells #[.slice none 0 0, .slice none 0 0, .int .i64 0, .bool false] 25 (0, 0)) from hbox); clear hg hb hbox; (try clear hz138); (try clear hz139); (try clear hz140); (try clear hz141); (try clear hz142); (try clear hz143); (try clear hz144); (try clear hz145); have hz150 : w146.cell? ⟨g21, 0, none⟩ = some (.slice Ao17 t4.length co18) := (blk_cell BK22.out 0).trans rfl; have hz151 : w146.cell? ⟨g21, 1, none⟩ = some (.slice Ao9 0 co10) := (blk_cell BK22.out 1).trans rfl; have hz152 : w146.cell? ⟨g21, 2, none⟩ = some (.int .i64 t5) := (blk_cell BK22.out 2).trans rfl; have hz153 : w146.cell? ⟨g21, 3, none⟩ = some (.bool t6) := (blk_cell BK22.out 3).trans rfl; have hz154 : w146.cell? ⟨g59, 0, none⟩ = some (.slice Ao51 t4.length co52) := (blk_cell BK60.out 0).trans rfl; have hz155 : w146.cell? ⟨g59, 1, none⟩ = some (.slice Ao43 0 co44) := (blk_cell BK60.out 1).trans rfl; have hz156 : w146.cell? ⟨g59, 2, none⟩ = some (.int .i64 t5) := (blk_cell BK60.out 2).trans rfl; have hz157 : w146.cell? ⟨g59, 3, none⟩ = some (.bool t6) := (blk_cell BK60.out 3).trans rfl; have hz158 : w146.cell? ⟨g147, 0, none⟩ = some (.slice none 0 0) := (blk_cell BK148.out 0).trans rfl; have hy159 := blk_frozen BK148.out 0; have hz160 : w146.cell? ⟨g147, 1, none⟩ = some (.slice none 0 0) := (blk_cell BK148.out 1).trans rfl; have hy161 := blk_frozen BK148.out 1; have hz162 : w146.cell? ⟨g147, 2, none⟩ = some (.int .i64 0) := (blk_cell BK148.out 2).trans rfl; have hy163 := blk_frozen BK148.out 2; have hz164 : w146.cell? ⟨g147, 3, none⟩ = some (.bool false) := (blk_cell BK148.out 3).trans rfl; have hy165 := blk_frozen BK148.out 3) | ((with_reducible refine gate_store (t := 25) (p := 7) rfl ?_); refine store_event (t := 25) (p := 7) (v := ?vo167) (w1 := ((((w146.setCell ⟨g147, 0, none⟩ (.slice Ao135 t4.length co136)).setCell ⟨g147, 1, none⟩ (.slice Ao127 0 co128)).setCell ⟨g147, 2, none⟩ (.int .i64 t5)).setCell ⟨g147, 3, none⟩ (.bool t6))) ?hg ?ho ?hn ?hr ?_; (case ho => rfl); (case hg => rfl); (case hn => rfl); (case hr => first | (go_simp; done) | (go_simp; rfl)); intro w166 hw; have n0_ := Aside0.mk (show w166.heap[g21]? = some (.cells #[.slice Ao17 t4.length co18, .slice Ao9 0 co10, .int .i64 t5, .bool t6] 25 (0, 0)) from by rw [hw]; have ne_ : g21 ≠ g147 := (by have q0 := OW.out; have q1 := OD14.out; have q2 := OD15.out; have q3 := OD23.out; have q4 := OD48.out; have q5 := OD49.out; have q6 := OD61.out; have q7 := OD132.out; have q8 := OD133.out; have q9 := OD149.out; omega); exact blk_far (blk_far (blk_far (blk_far (BK22.out) ne_ _) ne_ _) ne_ _) ne_ _); have n1_ := Aside0.mk (show w166.heap[g59]? = some (.cells #[.slice Ao51 t4.length co52, .slice Ao43 0 co44, .int .i64 t5, .bool t6] 25 (0, 0)) from by rw [hw]; have ne_ : g59 ≠ g147 := (by have q0 := OW.out; have q1 := OD14.out; have q2 := OD15.out; have q3 := OD23.out; have q4 := OD48.out; have q5 := OD49.out; have q6 := OD61.out; have q7 := OD132.out; have q8 := OD133.out; have q9 := OD149.out; omega); exact blk_far (blk_far (blk_far (blk_far (BK60.out) ne_ _) ne_ _) ne_ _) ne_ _); have n2_ := Aside0.mk (show w166.heap[g147]? = some (.cells #[.slice Ao135 t4.length co136, .slice Ao127 0 co128, .int .i64 t5, .bool t6] 25 (0, 0)) from by rw [hw]; exact blk_put (cs := #[.slice Ao135 t4.length co136, .slice Ao127 0 co128, .int .i64 t5, .bool false]) (blk_put (cs := #[.slice Ao135 t4.length co136, .slice Ao127 0 co128, .int .i64 0, .bool false]) (blk_put (cs := #[.slice Ao135 t4.length co136, .slice none 0 0, .int .i64 0, .bool false]) (blk_put (cs := #[.slice none 0 0, .slice none 0 0, .int .i64 0, .bool false]) (BK148.out) 0 _ rfl) 1 _ rfl) 2 _ rfl) 3 _ rfl); have n3_ := Aside0.mk (show Kd.S (Kd.slice 5 (Kd.int .u8)) 37 w166 w.heap.size (iv lo12 hi13) (.slice Ao17 t4.length co18) t4 from by rw [hw]; have ne_ : g147 < lo12 ∨ hi13 ≤ g147 := (by have q0 := OW.out; have q1 := OD14.out; have q2 := OD15.out; have q3 := OD23.out; have q4 := OD48.out; have q5 := OD49.out; have q6 := OD61.out; have q7 := OD132.out; have q8 := OD133.out; have q9 := OD149.out; omega); exact Kd.S_ivset (Kd.S_ivset (Kd.S_ivset (Kd.S_ivset (F16.out) ne_ 0 _) ne_ 1 _) ne_ 2 _) ne_ 3 _); have n4_ := Aside0.mk (show Kd.S (Kd.slice 5 (Kd.int .u8)) 37 w166 w.heap.size (iv lo46 hi47) (.slice Ao51 t4.length co52) t99 from by rw [hw]; have ne_ : g147 < lo46 ∨ hi47 ≤ g147 := (by have q0 := OW.out; have q1 := OD14.out; have q2 := OD15.out; have q3 := OD23.out; have q4 := OD48.out; have q5 := OD49.out; have q6 := OD61.out; have q7 := OD132.out; have q8 := OD133.out; have q9 := OD149.out; omega); exact Kd.S_ivset (Kd.S_ivset (Kd.S_ivset (Kd.S_ivset (F50.out) ne_ 0 _) ne_ 1 _) ne_ 2 _) ne_ 3 _); have n5_ := Aside0.mk (show Kd.S (Kd.slice 5 (Kd.int .u8)) 37 w166 w.heap.size (iv lo130 hi131) (.slice Ao135 t4.length co136) t4 from by rw [hw]; have ne_ : g147 < lo130 ∨ hi131 ≤ g147 := (by have q0 := OW.out; have q1 := OD14.out; have q2 := OD15.out; have q3 := OD23.out; have q4 := OD48.out; have q5 := OD49.out; have q6 := OD61.out; have q7 := OD132.out; have q8 := OD133.out; have q9 := OD149.out; omega); exact Kd.S_ivset (Kd.S_ivset (Kd.S_ivset (Kd.S_ivset (F134.out) ne_ 0 _) ne_ 1 _) ne_ 2 _) ne_ 3 _); have n6_ := Aside0.mk (show Below w.heap.size w w166 from by rw [hw]; have ge_ : w.heap.size ≤ g147 := (by have q0 := OW.out; have q1 := OD14.out; have q2 := OD15.out; have q3 := OD23.out; have q4 := OD48.out; have q5 := OD49.out; have q6 := OD61.out; have q7 := OD132.out; have q8 := OD133.out; have q9 := OD149.out; omega); exact below_set (below_set (below_set (below_set (HB.out) ge_) ge_) ge_) ge_); have n7_ := Aside0.mk (show g147 + 1 ≤ w166.heap.size from by rw [hw]; simp only [size_set]; exact TOP.out); (try clear BK22); (try clear BK60); (try clear BK148); (try clear F16); (try clear F50); (try clear F134); (try clear HB); (try clear TOP); have BK22 := n0_; have BK60 := n1_; have BK148 := n2_; have F16 := n3_; have F50 := n4_; have F134 := n5_; have HB := n6_; have TOP := n7_; clear n0_ n1_ n2_ n3_ n4_ n5_ n6_ n7_; clear hw; (try clear hz150); (try clear hz151); (try clear hz152); (try clear hz153); (try clear hz154); (try clear hz155); (try clear hz156); (try clear hz157); (try clear hz158); (try clear hy159); (try clear hz160); (try clear hy161); (try clear hz162); (try clear hy163); (try clear hz164); (try clear hy165); have hz168 : w166.cell? ⟨g21, 0, none⟩ = some (.slice Ao17 t4.length co18) := (blk_cell BK22.out 0).trans rfl; have hz169 : w166.cell? ⟨g21, 1, none⟩ = some (.slice Ao9 0 co10) := (blk_cell BK22.out 1).trans rfl; have hz170 : w166.cell? ⟨g21, 2, none⟩ = some (.int .i64 t5) := (blk_cell BK22.out 2).trans rfl; have hz171 : w166.cell? ⟨g21, 3, none⟩ = some (.bool t6) := (blk_cell BK22.out 3).trans rfl; have hz172 : w166.cell? ⟨g59, 0, none⟩ = some (.slice Ao51 t4.length co52) := (blk_cell BK60.out 0).trans rfl; have hz173 : w166.cell? ⟨g59, 1, none⟩ = some (.slice Ao43 0 co44) := (blk_cell BK60.out 1).trans rfl; have hz174 : w166.cell? ⟨g59, 2, none⟩ = some (.int .i64 t5) := (blk_cell BK60.out 2).trans rfl; have hz175 : w166.cell? ⟨g59, 3, none⟩ = some (.bool t6) := (blk_cell BK60.out 3).trans rfl; have hz176 : w166.cell? ⟨g147, 0, none⟩ = some (.slice Ao135 t4.length co136) := (blk_cell BK148.out 0).trans rfl; have hz177 : w166.cell? ⟨g147, 1, none⟩ = some (.slice Ao127 0 co128) := (blk_cell BK148.out 1).trans rfl; have hz178 : w166.cell? ⟨g147, 2, none⟩ = some (.int .i64 t5) := (blk_cell BK148.out 2).trans rfl; have hz179 : w166.cell? ⟨g147, 3, none⟩ = some (.bool t6) := (blk_cell BK148.out 3).trans rfl) | ((with_reducible refine gate_callee (f := 11) rfl ?_); refine goesL_ (some 31) rfl rfl Try.func11 (by kernel_rfl) rfl #[.agg #[.slice Ao135 t4.length co136, .slice Ao127 0 co128, .int .i64 t5, .bool t6], .agg #[.slice Ao17 t4.length co18, .slice Ao9 0 co10, .int .i64 t5, .bool t6]] rfl (by (try simp only [List.map_toArray, List.map_cons, List.map_nil]); first | done | rfl | (simp only [List.length_drop, List.length_take]; rfl)) ?_; (with_reducible refine (calls_args (a' := #[.agg #[.slice Ao135 t4.length co136, .slice Ao127 ([] : List S68).length co128, .int .i64 t5, .bool t6], .agg #[.slice Ao17 t4.length co18, .slice Ao9 ([] : List S68).length co10, .int .i64 t5, .bool t6]]) (by simp only [List.length_nil]) (laws_eqDisk.calls k181 _ _ t4 _ _ ([] : List S68) t5 t6 _ _ t4 _ _ ([] : List S68) t5 t6 true _ ?s1 ?s2 ?s3 ?s4 ?s5 ?s6 ?s7 ?s8 A182.out)).mono ?_); (case s1 => exact (Kd.S_reads' (by (with_reducible repeat (first | exact F134.out | apply Kd.S_drewN | apply Kd.S_drew)))).2.2); (case s2 => exact (Kd.S_reads' (by (with_reducible repeat (first | exact F134.out | apply Kd.S_drewN | apply Kd.S_drew)))).2.1); (case s3 => exact Kd.C_empty _ _ _); (case s4 => exact Nat.zero_le _); (case s5 => exact (Kd.S_reads' (by (with_reducible repeat (first | exact F16.out | apply Kd.S_drewN | apply Kd.S_drew)))).2.2); (case s6 => exact (Kd.S_reads' (by (with_reducible repeat (first | exact F16.out | apply Kd.S_drewN | apply Kd.S_drew)))).2.1); (case s7 => exact Kd.C_empty _ _ _); (case s8 => exact Nat.zero_le _); rintro e w180 ⟨rfl, hb⟩; refine ⟨_, rfl, ?_⟩; have n0_ := Aside0.mk (show w180.heap[g21]? = some (.cells #[.slice Ao17 t4.length co18, .slice Ao9 0 co10, .int .i64 t5, .bool t6] 25 (0, 0)) from blk_below (by (with_reducible repeat (first | exact BK22.out | refine blk_drewN ?_ _ | refine blk_drew ?_))) hb); have n1_ := Aside0.mk (show w180.heap[g59]? = some (.cells #[.slice Ao51 t4.length co52, .slice Ao43 0 co44, .int .i64 t5, .bool t6] 25 (0, 0)) from blk_below (by (with_reducible repeat (first | exact BK60.out | refine blk_drewN ?_ _ | refine blk_drew ?_))) hb); have n2_ := Aside0.mk (show w180.heap[g147]? = some (.cells #[.slice Ao135 t4.length co136, .slice Ao127 0 co128, .int .i64 t5, .bool t6] 25 (0, 0)) from blk_below (by (with_reducible repeat (first | exact BK148.out | refine blk_drewN ?_ _ | refine blk_drew ?_))) hb); have n3_ := Aside0.mk (show Kd.S (Kd.slice 5 (Kd.int .u8)) 37 w180 w.heap.size (iv lo12 hi13) (.slice Ao17 t4.length co18) t4 from Kd.S_below (by (with_reducible repeat (first | exact F16.out | apply Kd.S_drewN | apply Kd.S_drew))) hb); have n4_ := Aside0.mk (show Kd.S (Kd.slice 5 (Kd.int .u8)) 37 w180 w.heap.size (iv lo46 hi47) (.slice Ao51 t4.length co52) t99 from Kd.S_below (by (with_reducible repeat (first | exact F50.out | apply Kd.S_drewN | apply Kd.S_drew))) hb); have n5_ := Aside0.mk (show Kd.S (Kd.slice 5 (Kd.int .u8)) 37 w180 w.heap.size (iv lo130 hi131) (.slice Ao135 t4.length co136) t4 from Kd.S_below (by (with_reducible repeat (first | exact F134.out | apply Kd.S_drewN | apply Kd.S_drew))) hb); have n6_ := Aside0.mk (show Below w.heap.size w w180 from below_step (by repeat (first | exact HB.out | apply pw_below_drewN | apply below_drew1)) hb); have n7_ := Aside0.mk (show g147 + 1 ≤ w180.heap.size from Nat.le_trans TOP.out hb.size); (try clear BK22); (try clear BK60); (try clear BK148); (try clear F16); (try clear F50); (try clear F134); (try clear HB); (try clear TOP); have BK22 := n0_; have BK60 := n1_; have BK148 := n2_; have F16 := n3_; have F50 := n4_; have F134 := n5_; have HB := n6_; have TOP := n7_; clear n0_ n1_ n2_ n3_ n4_ n5_ n6_ n7_; clear hb; (try clear hz168); (try clear hz169); (try clear hz170); (try clear hz171); (try clear hz172); (try clear hz173); (try clear hz174); (try clear hz175); (try clear hz176); (try clear hz177); (try clear hz178); (try clear hz179); have hz183 : w180.cell? ⟨g21, 0, none⟩ = some (.slice Ao17 t4.length co18) := (blk_cell BK22.out 0).trans rfl; have hz184 : w180.cell? ⟨g21, 1, none⟩ = some (.slice Ao9 0 co10) := (blk_cell BK22.out 1).trans rfl; have hz185 : w180.cell? ⟨g21, 2, none⟩ = some (.int .i64 t5) := (blk_cell BK22.out 2).trans rfl; have hz186 : w180.cell? ⟨g21, 3, none⟩ = some (.bool t6) := (blk_cell BK22.out 3).trans rfl; have hz187 : w180.cell? ⟨g59, 0, none⟩ = some (.slice Ao51 t4.length co52) := (blk_cell BK60.out 0).trans rfl; have hz188 : w180.cell? ⟨g59, 1, none⟩ = some (.slice Ao43 0 co44) := (blk_cell BK60.out 1).trans rfl; have hz189 : w180.cell? ⟨g59, 2, none⟩ = some (.int .i64 t5) := (blk_cell BK60.out 2).trans rfl; have hz190 : w180.cell? ⟨g59, 3, none⟩ = some (.bool t6) := (blk_cell BK60.out 3).trans rfl) | ((with_reducible refine gate_callee (f := 13) rfl ?_); refine goesL_ (some 35) rfl rfl Try.func13 (by kernel_rfl) rfl #[.agg #[.slice Ao51 t4.length co52, .slice Ao43 0 co44, .int .i64 t5, .bool t6], .int .i64 1] rfl (by (try simp only [List.map_toArray, List.map_cons, List.map_nil]); first | done | rfl | (simp only [List.length_drop, List.length_take]; rfl)) ?_; (with_reducible refine (calls_args (a' := #[.agg #[.slice Ao51 t99.length co52, .slice Ao43 ([] : List S68).length co44, .int .i64 t5, .bool t6], .int .i64 1]) (by rw [LN101.out]; simp only [List.length_nil]) (laws_heldDisk.calls k192 _ _ t99 _ _ ([] : List S68) t5 t6 1 t98 _ ?s1 ?s2 ?s3 ?s4 A193.out)).mono ?_); (case s1 => exact (Kd.S_reads' (by (with_reducible repeat (first | exact F50.out | apply Kd.S_drewN | apply Kd.S_drew)))).2.2); (case s2 => have q_ := (Kd.S_reads' (by (with_reducible repeat (first | exact F50.out | apply Kd.S_drewN | apply Kd.S_drew)))).2.1; rw [LN101.out] at q_; exact q_); (case s3 => exact Kd.C_empty _ _ _); (case s4 => exact Nat.zero_le _); rintro e w191 ⟨rfl, hb⟩; refine ⟨_, rfl, ?_⟩; have n0_ := Aside0.mk (show w191.heap[g21]? = some (.cells #[.slice Ao17 t4.length co18, .slice Ao9 0 co10, .int .i64 t5, .bool t6] 25 (0, 0)) from blk_below (by (with_reducible repeat (first | exact BK22.out | refine blk_drewN ?_ _ | refine blk_drew ?_))) hb); have n1_ := Aside0.mk (show w191.heap[g59]? = some (.cells #[.slice Ao51 t4.length co52, .slice Ao43 0 co44, .int .i64 t5, .bool t6] 25 (0, 0)) from blk_below (by (with_reducible repeat (first | exact BK60.out | refine blk_drewN ?_ _ | refine blk_drew ?_))) hb); have n2_ := Aside0.mk (show w191.heap[g147]? = some (.cells #[.slice Ao135 t4.length co136, .slice Ao127 0 co128, .int .i64 t5, .bool t6] 25 (0, 0)) from blk_below (by (with_reducible repeat (first | exact BK148.out | refine blk_drewN ?_ _ | refine blk_drew ?_))) hb); have n3_ := Aside0.mk (show Kd.S (Kd.slice 5 (Kd.int .u8)) 37 w191 w.heap.size (iv lo12 hi13) (.slice Ao17 t4.length co18) t4 from Kd.S_below (by (with_reducible repeat (first | exact F16.out | apply Kd.S_drewN | apply Kd.S_drew))) hb); have n4_ := Aside0.mk (show Kd.S (Kd.slice 5 (Kd.int .u8)) 37 w191 w.heap.size (iv lo46 hi47) (.slice Ao51 t4.length co52) t99 from Kd.S_below (by (with_reducible repeat (first | exact F50.out | apply Kd.S_drewN | apply Kd.S_drew))) hb); have n5_ := Aside0.mk (show Kd.S (Kd.slice 5 (Kd.int .u8)) 37 w191 w.heap.size (iv lo130 hi131) (.slice Ao135 t4.length co136) t4 from Kd.S_below (by (with_reducible repeat (first | exact F134.out | apply Kd.S_drewN | apply Kd.S_drew))) hb); have n6_ := Aside0.mk (show Below w.heap.size w w191 from below_step (by repeat (first | exact HB.out | apply pw_below_drewN | apply below_drew1)) hb); have n7_ := Aside0.mk (show g147 + 1 ≤ w191.heap.size from Nat.le_trans TOP.out hb.size); (try clear BK22); (try clear BK60); (try clear BK148); (try clear F16); (try clear F50); (try clear F134); (try clear HB); (try clear TOP); have BK22 := n0_; have BK60 := n1_; have BK148 := n2_; have F16 := n3_; have F50 := n4_; have F134 := n5_; have HB := n6_; have TOP := n7_; clear n0_ n1_ n2_ n3_ n4_ n5_ n6_ n7_; clear hb; (try clear hz183); (try clear hz184); (try clear hz185); (try clear hz186); (try clear hz187); (try clear hz188); (try clear hz189); (try clear hz190); have hz194 : w191.cell? ⟨g21, 0, none⟩ = some (.slice Ao17 t4.length co18) := (blk_cell BK22.out 0).trans rfl; have hz195 : w191.cell? ⟨g21, 1, none⟩ = some (.slice Ao9 0 co10) := (blk_cell BK22.out 1).trans rfl; have hz196 : w191.cell? ⟨g21, 2, none⟩ = some (.int .i64 t5) := (blk_cell BK22.out 2).trans rfl; have hz197 : w191.cell? ⟨g21, 3, none⟩ = some (.bool t6) := (blk_cell BK22.out 3).trans rfl; have hz198 : w191.cell? ⟨g59, 0, none⟩ = some (.slice Ao51 t4.length co52) := (blk_cell BK60.out 0).trans rfl; have hz199 : w191.cell? ⟨g59, 1, none⟩ = some (.slice Ao43 0 co44) := (blk_cell BK60.out 1).trans rfl; have hz200 : w191.cell? ⟨g59, 2, none⟩ = some (.int .i64 t5) := (blk_cell BK60.out 2).trans rfl; have hz201 : w191.cell? ⟨g59, 3, none⟩ = some (.bool t6) := (blk_cell BK60.out 3).trans rfl))
  go_ret
  exact ⟨rfl, HB.out⟩

end Go.Proofs.Ytipfcppghbijgaa.PFnExactDiskNew

/-
Proofs that the claim says often, each with a name.
-/
import Derived.Test.YtokpniagnbaflaaZFnPlaces16
namespace Go.Proofs.YtokpniagnbaflaaW.PrintWords
open Go.RowKit
theorem ZA {p : Prop} (h : p) : Aside0 p := ⟨h⟩
theorem Z0 {p : Prop} (h : p := by repeat (first | (with_reducible first | exact HK.out | apply KeepBut.set_ | apply keep_drewN | apply keep_drew | apply keep_alloc | refine keep_far ?_ GW560.out _ | refine keep_far ?_ GW561.out _ | refine keep_far ?_ GW566.out _ | refine keep_far ?_ GW567.out _) | exact HK.out)) : p := h
theorem Z1 {p : Prop} (h : p := by (try simp only [List.map_toArray, List.map_cons, List.map_nil]); first | done | rfl) : p := h
theorem Z2 {p : Prop} (h : p := by repeat (first | (with_reducible first | exact HK.out | apply KeepBut.set_ | apply keep_drewN | apply keep_drew | apply keep_alloc | refine keep_far ?_ GW491.out _ | refine keep_far ?_ GW495.out _) | exact HK.out)) : p := h
theorem Z3 {p : Prop} (h : p := by repeat (first | (with_reducible first | exact HK.out | apply KeepBut.set_ | apply keep_drewN | apply keep_drew | apply keep_alloc) | exact HK.out)) : p := h
theorem Z4 {p : Prop} (h : p := by repeat (first | (with_reducible first | exact HI0.out | apply IsS82.alloc | apply IsS82.drewN | apply IsS82.drew | apply IsS82.set_1 | apply IsS82.set_2) | exact HI0.out)) : p := h
theorem Z5 {p : Prop} (h : p := by repeat (first | (with_reducible first | exact HI0.out | apply IsS82.alloc | apply IsS82.drewN | apply IsS82.drew | apply IsS82.set_1 | apply IsS82.set_2 | refine IsS82.far ?_ NB0_560.out _ | refine IsS82.far ?_ NB0_561.out _ | refine IsS82.far ?_ NB0_566.out _ | refine IsS82.far ?_ NB0_567.out _) | exact HI0.out)) : p := h
theorem Z6 {p : Prop} (h : p := by repeat (first | (with_reducible first | exact HK.out | apply KeepBut.set_ | apply keep_drewN | apply keep_drew | apply keep_alloc | refine keep_far ?_ GW491.out _ | refine keep_far ?_ GW495.out _ | refine keep_far ?_ GW541.out _) | exact HK.out)) : p := h
theorem Z7 {p : Prop} (h : p := by first | rfl | (simp; done) | (simp [*]; done)) : p := h
theorem Z8 {p : Prop} (h : p := by omega) : p := h
theorem Z9 {p : Prop} (h : p := by repeat (first | (with_reducible first | exact HI0.out | apply IsS82.alloc | apply IsS82.drewN | apply IsS82.drew | apply IsS82.set_1 | apply IsS82.set_2 | refine IsS82.far ?_ NB0_491.out _ | refine IsS82.far ?_ NB0_495.out _) | exact HI0.out)) : p := h
theorem Z10 {p : Prop} (h : p := by first | (with_reducible assumption) | assumption) : p := h
theorem Z11 {p : Prop} (h : p := by repeat (first | (with_reducible first | exact HK.out | apply KeepBut.set_ | apply keep_drewN | apply keep_drew | apply keep_alloc | refine keep_far ?_ GW560.out _ | refine keep_far ?_ GW561.out _ | refine keep_far ?_ GW566.out _) | exact HK.out)) : p := h
theorem Z12 {p : Prop} (h : p := by kernel_rfl) : p := h
theorem Z13 {p : Prop} (h : p := by repeat (first | (with_reducible first | exact HK.out | apply KeepBut.set_ | apply keep_drewN | apply keep_drew | apply keep_alloc) | exact HK.out)) : p := h
theorem Z14 {p : Prop} (h : p := by repeat (first | (with_reducible first | exact HK.out | apply KeepBut.set_ | apply keep_drewN | apply keep_drew | apply keep_alloc | refine keep_far ?_ GW560.out _ | refine keep_far ?_ GW561.out _) | exact HK.out)) : p := h
theorem Z15 {p : Prop} (h : p := by repeat (first | (with_reducible first | exact HB.out | apply h1 | apply h2 | apply h3 | refine h4 ?_ (IsS82.ge HI0.out)) | exact HB.out)) : p := h
theorem Z16 {p : Prop} (h : p := by repeat (first | (with_reducible first | exact HI0.out | apply IsS82.alloc | apply IsS82.drewN | apply IsS82.drew | apply IsS82.set_1 | apply IsS82.set_2 | refine IsS82.far ?_ NB0_491.out _ | refine IsS82.far ?_ NB0_495.out _ | refine IsS82.far ?_ NB0_541.out _) | exact HI0.out)) : p := h
theorem Z17 {p : Prop} (h : p := by repeat (first | (with_reducible first | exact HB.out | apply h1 | apply h2 | apply h3 | refine h4 ?_ (IsS82.ge HI0.out) | refine h4 ?_ GE560.out | refine h4 ?_ GE561.out | refine h4 ?_ GE566.out | refine h4 ?_ GE567.out) | exact HB.out)) : p := h
theorem Z18 {p : Prop} (h : p := by repeat (first | (with_reducible first | exact HK.out | apply KeepBut.set_ | apply keep_drewN | apply keep_drew | apply keep_alloc | refine keep_far ?_ GW369.out _) | exact HK.out)) : p := h
theorem Z19 {p : Prop} (h : p := by repeat (first | (with_reducible first | exact HI0.out | apply IsS82.alloc | apply IsS82.drewN | apply IsS82.drew | apply IsS82.set_1 | apply IsS82.set_2 | refine IsS82.far ?_ NB0_560.out _ | refine IsS82.far ?_ NB0_561.out _ | refine IsS82.far ?_ NB0_566.out _) | exact HI0.out)) : p := h
theorem Z20 {p : Prop} (h : p := by (with_reducible repeat (first | apply Kd.N_alloc | apply Kd.N_drewN | apply Kd.N_drew)); exact HO_496001.out) : p := h
theorem Z21 {p : Prop} (h : p := by (with_reducible repeat (first | apply Kd.N_alloc | apply Kd.N_drewN | apply Kd.N_drew)); exact HO565.out) : p := h
theorem Z22 {p : Prop} (h : p := by repeat (first | (with_reducible first | exact HI0.out | apply IsS82.alloc | apply IsS82.drewN | apply IsS82.drew | apply IsS82.set_1 | apply IsS82.set_2 | refine IsS82.far ?_ NB0_560.out _ | refine IsS82.far ?_ NB0_561.out _) | exact HI0.out)) : p := h
theorem Z23 {p : Prop} (h : p := by repeat (first | (with_reducible first | exact HI0.out | apply IsS82.alloc | apply IsS82.drewN | apply IsS82.drew | apply IsS82.set_1 | apply IsS82.set_2 | refine IsS82.far ?_ NB0_560.out _ | refine IsS82.far ?_ NB0_561.out _ | refine IsS82.far ?_ NB0_566.out _ | refine IsS82.far ?_ NB0_567.out _) | exact HI0.out)) : p := h
theorem Z24 {p : Prop} (h : p := by repeat (first | exact Drawn0.refl _ | apply Drawn0.step)) : p := h
theorem Z25 {p : Prop} (h : p := by decide) : p := h
theorem Z26 {p : Prop} (h : p := by repeat (first | (with_reducible first | exact HK.out | apply KeepBut.set_ | apply keep_drewN | apply keep_drew | apply keep_alloc | refine keep_far ?_ GW560.out _ | refine keep_far ?_ GW561.out _ | refine keep_far ?_ GW566.out _ | refine keep_far ?_ GW567.out _) | exact HK.out)) : p := h
theorem Z27 {p : Prop} (h : p := by repeat (first | (with_reducible first | exact HI0.out | apply IsS82.alloc | apply IsS82.drewN | apply IsS82.drew | apply IsS82.set_1 | apply IsS82.set_2 | refine IsS82.far ?_ NB0_491.out _ | refine IsS82.far ?_ NB0_495.out _ | refine IsS82.far ?_ NB0_541.out _) | exact HI0.out)) : p := h
theorem Z28 {p : Prop} (h : p := by rw [hg]; exact (below_size (hup HB.out))) : p := h
theorem Z29 {p : Prop} (h : p := by (with_reducible repeat (first | apply Kd.N_alloc | apply Kd.N_drewN | apply Kd.N_drew)); exact HO_648001.out) : p := h
theorem Z30 {p : Prop} (h : p := by repeat (first | (with_reducible first | exact HB.out | apply h1 | apply h2 | apply h3 | refine h4 ?_ (IsS82.ge HI0.out) | refine h4 ?_ GE491.out | refine h4 ?_ GE495.out | refine h4 ?_ GE541.out) | exact HB.out)) : p := h
theorem Z31 {p : Prop} (h : p := by repeat (first | (with_reducible first | exact HB.out | apply h1 | apply h2 | apply h3 | refine h4 ?_ (IsS82.ge HI0.out) | refine h4 ?_ GE560.out | refine h4 ?_ GE561.out | refine h4 ?_ GE566.out | refine h4 ?_ GE567.out) | exact HB.out)) : p := h
theorem Z32 {p : Prop} (h : p := by repeat (first | (with_reducible first | exact HK.out | apply KeepBut.set_ | apply keep_drewN | apply keep_drew | apply keep_alloc | refine keep_far ?_ GW435.out _) | exact HK.out)) : p := h
theorem Z33 {p : Prop} (h : p := by repeat (first | (with_reducible first | exact HB.out | apply h1 | apply h2 | apply h3 | refine h4 ?_ (IsS82.ge HI0.out) | refine h4 ?_ GE491.out | refine h4 ?_ GE495.out) | exact HB.out)) : p := h
theorem Z34 {p : Prop} (h : p := by rw [hg]; exact (below_size (hset HB.out))) : p := h
theorem Z35 {p : Prop} (h : p := by repeat (first | (with_reducible first | exact HK.out | apply KeepBut.set_ | apply keep_drewN | apply keep_drew | apply keep_alloc | refine keep_far ?_ GW464.out _) | exact HK.out)) : p := h
theorem Z36 {p : Prop} (h : p := by repeat (first | (with_reducible first | exact HI0.out | apply IsS82.alloc | apply IsS82.drewN | apply IsS82.drew | apply IsS82.set_1 | apply IsS82.set_2 | refine IsS82.far ?_ NB0_369.out _) | exact HI0.out)) : p := h
theorem Z37 {p : Prop} (h : p := by repeat (first | (with_reducible first | exact HK.out | apply KeepBut.set_ | apply keep_drewN | apply keep_drew | apply keep_alloc | refine keep_far ?_ GW491.out _ | refine keep_far ?_ GW495.out _ | refine keep_far ?_ GW541.out _) | exact HK.out)) : p := h
theorem Z38 {p : Prop} (h : p := by repeat (first | (with_reducible first | exact HI0.out | apply IsS82.alloc | apply IsS82.drewN | apply IsS82.drew | apply IsS82.set_1 | apply IsS82.set_2 | refine IsS82.far ?_ NB0_464.out _ | refine IsS82.far ?_ NB0_484.out _) | exact HI0.out)) : p := h
theorem Z39 {p : Prop} (h : p := by rw [hg]; exact Nat.ne_of_lt (blk_lt (g := gb561) (o := .cells #[y0_, y1_] 27 (0, 0)) (bup BK561.out))) : p := h
theorem Z40 {p : Prop} (h : p := by rw [hg]; exact Nat.ne_of_lt (blk_lt (g := gb560) (o := .cells #[x0_, x1_] 27 (0, 0)) (bup BK560.out))) : p := h
theorem Z41 {p : Prop} (h : p := by rw [hg]; exact Nat.ne_of_gt (blk_lt (g := gb561) (o := .cells #[y0_, y1_] 27 (0, 0)) (bup BK561.out))) : p := h
theorem Z42 {p : Prop} (h : p := by rw [hg]; exact Nat.ne_of_gt (blk_lt (g := gb560) (o := .cells #[x0_, x1_] 27 (0, 0)) (bup BK560.out))) : p := h
theorem Z43 {p : Prop} (h : p := by repeat (first | (with_reducible first | exact HK.out | apply KeepBut.set_ | apply keep_drewN | apply keep_drew | apply keep_alloc | refine keep_far ?_ GW369.out _) | exact HK.out)) : p := h
theorem Z44 {p : Prop} (h : p := by simp) : p := h
theorem Z45 {p : Prop} (h : p := by with_reducible repeat (first | exact HB.out | apply h1 | apply h2 | apply h3)) : p := h
theorem Z46 {p : Prop} (h : p := by repeat (first | (with_reducible first | exact HB.out | apply h1 | apply h2 | apply h3 | refine h4 ?_ (IsS82.ge HI0.out) | refine h4 ?_ GE560.out | refine h4 ?_ GE561.out | refine h4 ?_ GE566.out) | exact HB.out)) : p := h
theorem Z47 {p : Prop} (h : p := by repeat (first | (with_reducible first | exact HB.out | apply h1 | apply h2 | apply h3 | refine h4 ?_ (IsS82.ge HI0.out) | refine h4 ?_ GE491.out | refine h4 ?_ GE495.out | refine h4 ?_ GE541.out) | exact HB.out)) : p := h
theorem Z48 {p : Prop} (h : p := by repeat (first | (with_reducible first | exact HI0.out | apply IsS82.alloc | apply IsS82.drewN | apply IsS82.drew | apply IsS82.set_1 | apply IsS82.set_2 | refine IsS82.far ?_ NB0_435.out _) | exact HI0.out)) : p := h
theorem Z49 {p : Prop} (h : p := by repeat (first | (with_reducible first | exact HB.out | apply h1 | apply h2 | apply h3 | refine h4 ?_ (IsS82.ge HI0.out) | refine h4 ?_ GE369.out) | exact HB.out)) : p := h
theorem Z50 {p : Prop} (h : p := by repeat (first | (with_reducible first | exact HB.out | apply h1 | apply h2 | apply h3 | refine h4 ?_ (IsS82.ge HI0.out) | refine h4 ?_ GE560.out | refine h4 ?_ GE561.out) | exact HB.out)) : p := h
theorem Z51 {p : Prop} (h : p := by repeat (first | (with_reducible first | exact HK.out | apply KeepBut.set_ | apply keep_drewN | apply keep_drew | apply keep_alloc | refine keep_far ?_ GW435.out _) | exact HK.out)) : p := h
theorem Z52 {p : Prop} (h : p := by first | exact ⟨⟨by first | rfl | decide, by decide⟩⟩ | exact ⟨⟨rfl, fquo_lt (by assumption)⟩⟩) : p := h
theorem Z53 {p : Prop} (h : p := by (with_reducible repeat (first | apply Kd.N_alloc | apply Kd.N_drewN | apply Kd.N_drew)); exact (Kd.N_mono (Kd.N_far (p := ⟨gb193, 0, none⟩) (Kd.N_mono HO_194001.out (fun k_ hk => (⟨hk, hk.2.2.2⟩ : _ ∧ k_ ≠ gb193))) (fun _ hk => hk.2) (.int .i64 a3)) (fun _ h_ => h_.1))) : p := h
theorem Z54 {p : Prop} (h : p := by repeat (first | (with_reducible first | exact HB.out | apply h1 | apply h2 | apply h3 | refine h4 ?_ (IsS82.ge HI0.out) | refine h4 ?_ GE435.out) | exact HB.out)) : p := h
theorem Z55 {p : Prop} (h : p := by rw [hg]; exact (keep_size (w := w) (g := g) (row := none) Z14)) : p := h
theorem Z56 {p : Prop} (h : p := by rw [hg]; exact (keep_size (w := w) (g := g) (row := none) Z11)) : p := h
theorem Z57 {p : Prop} (h : p := by repeat (first | (with_reducible first | exact HB.out | apply h1 | apply h2 | apply h3 | refine h4 ?_ (IsS82.ge HI614.out) | refine h4 ?_ GE610.out) | exact HB.out)) : p := h
theorem Z58 {p : Prop} (h : p := by repeat (first | (with_reducible first | exact HK.out | apply KeepBut.set_ | apply keep_drewN | apply keep_drew | apply keep_alloc | refine keep_far ?_ GW491.out _ | refine keep_far ?_ GW495.out _) | exact HK.out)) : p := h
theorem Z59 {p : Prop} (h : p := by repeat (first | (with_reducible first | exact HB.out | apply h1 | apply h2 | apply h3 | refine h4 ?_ (IsS82.ge HI614.out) | refine h4 ?_ GE610.out | refine h4 ?_ GE621.out) | exact HB.out)) : p := h
theorem Z60 {p : Prop} (h : p := by repeat (first | (with_reducible first | exact HB.out | apply h1 | apply h2 | apply h3 | refine h4 ?_ (IsS82.ge HI0.out) | refine h4 ?_ GE491.out | refine h4 ?_ GE495.out) | exact HB.out)) : p := h
theorem Z61 {p : Prop} (h : p := by rw [hg]; exact (keep_size (w := w) (g := g) (row := none) Z3)) : p := h
theorem Z62 {p : Prop} (h : p := by rw [hg]; exact Nat.ne_of_lt (blk_lt (g := gb647) (o := .cells #[.int .i64 t642, .slice Ao10 t643.length co10] 27 (0, 0)) (bup BK647.out))) : p := h
theorem Z63 {p : Prop} (h : p := by rw [hg]; exact Nat.ne_of_gt (blk_lt (g := gb647) (o := .cells #[.int .i64 t642, .slice Ao10 t643.length co10] 27 (0, 0)) (bup BK647.out))) : p := h
theorem Z64 {p : Prop} (h : p := by repeat (first | (with_reducible first | exact HK.out | apply KeepBut.set_ | apply keep_drewN | apply keep_drew | apply keep_alloc | refine keep_far ?_ GW491.out _) | exact HK.out)) : p := h
theorem Z65 {p : Prop} (h : p := by have h_ : (a1 : Int) < ((x194001_2.length : Int) : Int) := of_decide_eq_true Z10; first | exact h_ | (have e_ := (Kd.N_reads' HO_194001.out).1; omega) | simpa using h_) : p := h
theorem Z66 {p : Prop} (h : p := by have h_ : (a1 : Int) < ((x141001_2.length : Int) : Int) := of_decide_eq_true Z10; first | exact h_ | (have e_ := (Kd.S_reads' HO_141001.out).1; omega) | simpa using h_) : p := h
theorem Z67 {p : Prop} (h : p := by rw [hg]; exact Nat.ne_of_lt (blk_lt (g := gb491) (o := .cells #[.int .i64 0, .slice none 0 0] 27 (0, 0)) (bup BK491.out))) : p := h
theorem Z68 {p : Prop} (h : p := by rw [hg]; exact Nat.ne_of_gt (blk_lt (g := gb491) (o := .cells #[.int .i64 0, .slice none 0 0] 27 (0, 0)) (bup BK491.out))) : p := h
theorem Z69 {p : Prop} (h : p := by simp only [putAll, Act.put, List.setIfInBounds_toArray, List.set_cons_zero, List.set_cons_succ]) : p := h
theorem Z70 {p : Prop} (h : p := by (with_reducible repeat (first | apply Kd.N_alloc | apply Kd.N_drewN | apply Kd.N_drew)); exact Kd.N_mono HO_496001.out (fun _ hk => ⟨hk.1.1.1, ⟨hk.2, ⟨hk.1.1.2.1, ⟨hk.1.1.2.2.2.2, ⟨hk.1.1.2.2.1, ⟨hk.1.1.2.2.2.1, hk.1.2⟩⟩⟩⟩⟩⟩)) : p := h
theorem Z71 {p : Prop} (h : p := by first | exact ⟨⟨rfl, LTb470.out⟩⟩ | exact ⟨⟨rfl, LTb478.out⟩⟩ | exact ⟨⟨by first | rfl | decide, by decide⟩⟩ | exact ⟨⟨rfl, fquo_lt (by assumption)⟩⟩) : p := h
theorem Z72 {p : Prop} (h : p := by first | exact Kd.N_base ho0 | exact Kd.S_base ho0) : p := h
theorem Z73 {p : Prop} (h : p := by (with_reducible repeat (first | apply Kd.N_alloc | apply Kd.N_drewN | apply Kd.N_drew)); exact Kd.N_mono HO539.out (fun _ hk => ⟨hk.1, ⟨hk.2.2.1, ⟨hk.2.1, ⟨hk.2.2.2.2.2.2, ⟨hk.2.2.2.1, ⟨hk.2.2.2.2.1, hk.2.2.2.2.2.1⟩⟩⟩⟩⟩⟩)) : p := h
theorem Z74 {p : Prop} (h : p := by rw [hg]; exact Nat.ne_of_lt (blk_lt (g := gb495) (o := .cells #[.int .i64 x496000_1, .slice Ao33 x496001_1.length co33] 27 (0, 0)) (bup BK495.out))) : p := h
theorem Z75 {p : Prop} (h : p := by rw [hg]; exact Nat.ne_of_gt (blk_lt (g := gb495) (o := .cells #[.int .i64 x496000_1, .slice Ao33 x496001_1.length co33] 27 (0, 0)) (bup BK495.out))) : p := h
theorem Z76 {p : Prop} (h : p := by (with_reducible repeat (first | apply Kd.N_alloc | apply Kd.N_drewN | apply Kd.N_drew)); exact HO_194001.out) : p := h
theorem Z77 {p : Prop} (h : p := by rw [hg]; exact (keep_size (w := w) (g := g) (row := none) Z2)) : p := h
theorem Z78 {p : Prop} (h : p := by rw [hg]; exact (below_size (by repeat (first | (with_reducible first | exact HBW.out | apply h1 | apply h2 | apply h3) | exact HBW.out)))) : p := h
theorem Z79 {p : Prop} (h : p := by repeat (first | (with_reducible first | exact HI0.out | apply IsS82.alloc | apply IsS82.drewN | apply IsS82.drew | apply IsS82.set_1 | apply IsS82.set_2 | refine IsS82.far ?_ NB0_464.out _) | exact HI0.out)) : p := h
theorem Z80 {p : Prop} (h : p := by rw [hg]; exact Nat.ne_of_lt (IsS82.lt (show IsS82 w0 _ g s0_0 s0_1 s0_2 from Z22))) : p := h
theorem Z81 {p : Prop} (h : p := by rw [hg]; exact Nat.ne_of_lt (IsS82.lt (show IsS82 w0 _ g s0_0 s0_1 s0_2 from Z19))) : p := h
theorem Z82 {p : Prop} (h : p := by rw [hg]; exact Nat.ne_of_gt (IsS82.lt (show IsS82 w0 _ g s0_0 s0_1 s0_2 from Z22))) : p := h
theorem Z83 {p : Prop} (h : p := by rw [hg]; exact Nat.ne_of_gt (IsS82.lt (show IsS82 w0 _ g s0_0 s0_1 s0_2 from Z19))) : p := h
theorem Z84 {p : Prop} (h : p := by rw [hg]; exact Nat.ne_of_lt (blk_lt (g := gb318) (o := .cells #[.int .i64 a0_0, .int .i64 a0_1, .float .f64 a0_2, .slice A0_3 l0_3.length c0_3] 72 (0, 0)) (bup BK318.out))) : p := h
theorem Z85 {p : Prop} (h : p := by rw [hg]; exact Nat.ne_of_gt (blk_lt (g := gb318) (o := .cells #[.int .i64 a0_0, .int .i64 a0_1, .float .f64 a0_2, .slice A0_3 l0_3.length c0_3] 72 (0, 0)) (bup BK318.out))) : p := h
theorem Z86 {p : Prop} (h : p := by (with_reducible repeat (first | apply Kd.S_alloc | apply Kd.S_drewN | apply Kd.S_drew)); exact HO_141001.out) : p := h
theorem Z87 {p : Prop} (h : p := by (with_reducible repeat (first | apply Kd.N_alloc | apply Kd.N_drewN | apply Kd.N_drew)); exact HO_622001.out) : p := h
theorem Z88 {p : Prop} (h : p := by rw [hg]; exact Nat.ne_of_lt (IsS82.lt (show IsS82 w0 _ g s0_0 s0_1 s0_2 from Z4))) : p := h
theorem Z89 {p : Prop} (h : p := by rw [hg]; exact Nat.ne_of_gt (IsS82.lt (show IsS82 w0 _ g s0_0 s0_1 s0_2 from Z4))) : p := h
theorem Z90 {p : Prop} (h : p := by (with_reducible repeat (first | apply Kd.N_alloc | apply Kd.N_drewN | apply Kd.N_drew)); exact HO645.out) : p := h
theorem Z91 {p : Prop} (h : p := by have q_ := OW.out; omega) : p := h
theorem Z92 {p : Prop} (h : p := by first | exact bput BK561.out | exact bup BK561.out) : p := h
theorem Z93 {p : Prop} (h : p := by first | exact bput BK560.out | exact bup BK560.out) : p := h
theorem Z94 {p : Prop} (h : p := by rfl) : p := h
theorem Z95 {p : Prop} (h : p := by first | rfl | (simp; done) | (simp [*]; done) | (exfalso; simp_all; done)) : p := h
theorem Z96 {p : Prop} (h : p := by (with_reducible repeat (first | apply Kd.N_alloc | apply Kd.N_drewN | apply Kd.N_drew)); exact HO_567001.out) : p := h
theorem Z97 {p : Prop} (h : p := by (with_reducible repeat (first | apply Kd.N_alloc | apply Kd.N_drewN | apply Kd.N_drew)); exact HO663.out) : p := h
end Go.Proofs.YtokpniagnbaflaaW.PrintWords

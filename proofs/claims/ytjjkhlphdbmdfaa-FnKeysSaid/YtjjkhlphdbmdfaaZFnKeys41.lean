import Derived.Test.YtjjkhlphdbmdfaaZFnKeys29
import Derived.Test.YtjjkhlphdbmdfaaZFnKeys30
import Derived.Test.YtjjkhlphdbmdfaaZFnKeys31
import Derived.Test.YtjjkhlphdbmdfaaZFnKeys32
import Derived.Test.YtjjkhlphdbmdfaaZFnKeys33
import Derived.Test.YtjjkhlphdbmdfaaZFnKeys37
import Derived.Test.YtjjkhlphdbmdfaaZFnKeys38
import Derived.Test.YtjjkhlphdbmdfaaZFnKeys39
import Derived.Test.YtjjkhlphdbmdfaaZFnKeys40
namespace Go.Proofs.Ytjjkhlphdbmdfaa.PFnKeys
open Go.RowKit Go.Proofs.YtjjkhlphdbmdfaaW.PrintWords Go.Proofs.YtjjkhlphdbmdfaaW.PrintLast Go.Proofs.YtjjkhlphdbmdfaaW.PrintMore
attribute [local go_sem] max2_int min2_int max_two min_two max_three min_three max_four min_four   -- for this text's walks alone
attribute [local go_sem high] fl_eql fl_neq fl_lss fl_leq fl_gtr fl_geq fl_add fl_sub fl_mul fl_quo fl_neg fl_ofInt fl_toInt fl_store sub_sign ext_bits ext_from fl_nan_quo fl_nan_add fl_nan_mul fl_nan_sub
open Go.Proofs.YtjjkhlphdbmdfaaW.PrintWords renaming below_alloc → h1, pw_below_drewN → h2, below_drew1 → h3, below_set → h4, blk_drewN → b1, blk_drew → b2, blk_alloc → b3
set_option linter.unusedVariables false
set_option linter.unusedSimpArgs false
theorem laws_FnKeys.str_le : ∀ (a b : List UInt8), (Op.bytesLess a b || a == b) = !Op.bytesLess b a
  | [], [] => rfl
  | [], y :: b => by simp [Op.bytesLess]
  | x :: a, [] => by simp [Op.bytesLess]
  | x :: a, y :: b => by
    have ih := laws_FnKeys.str_le a b
    simp only [Op.bytesLess]
    by_cases h1 : x < y
    · have h2 : ¬ y < x := by rw [UInt8.lt_iff_toNat_lt] at h1 ⊢; omega
      have h3 : ¬ y = x := by rintro rfl; rw [UInt8.lt_iff_toNat_lt] at h1; omega
      simp [h1, h2, h3]
    · by_cases h2 : y < x
      · have h3 : ¬ x = y := by rintro rfl; rw [UInt8.lt_iff_toNat_lt] at h2; omega
        simp [h1, h2, h3]
      · have e : x = y := by rw [UInt8.lt_iff_toNat_lt] at h1 h2; exact UInt8.toNat_inj.mp (by omega)
        subst e
        simp [h1, ← ih]
attribute [local go_sem high] laws_FnKeys.str_le
mutual
def laws_FnKeys.j0 : Nat → List Int → Bool → Int → Int → Nat → List Int → Int → Int → Nat → List Int → Option (Bool)
 | 0, _, _, _, _, _, _, _, _, _, _ => none
 | k + 1, x0, x34, x559000, x559001, x559002, x559003, x560000, x560001, x560002, x560003 => if x34 = true then ((impl_KeyOk.f x559000 x559001 x559002 x559003).bind fun t574 => ((spec_KeyOk.f k x559000 x559001 x559002 x559003).bind fun t575 => (some (t574 == t575)))) else ((impl_KeyBytes.f k x559000 x559001 x559002 x559003).bind fun t576 => ((impl_KeyBytes.f k x560000 x560001 x560002 x560003).bind fun t579 => ((impl_KeyRead.f k t576).bind fun bt582 => (if bt582.2.2.2.2 = true then ((laws_sameItem.f k bt582.1 bt582.2.1 bt582.2.2.1 bt582.2.2.2.1 x559000 x559001 x559002 x559003).bind fun t590 => (laws_FnKeys.j1 k x0 t576 t579 (!t590) x559000 x559001 x559002 x559003 x560000 x560001 x560002 x560003)) else (laws_FnKeys.j1 k x0 t576 t579 true x559000 x559001 x559002 x559003 x560000 x560001 x560002 x560003)))))
def laws_FnKeys.j1 : Nat → List Int → List Int → List Int → Bool → Int → Int → Nat → List Int → Int → Int → Nat → List Int → Option (Bool)
 | 0, _, _, _, _, _, _, _, _, _, _, _, _ => none
 | k + 1, x0, x5, x6, x56, x559000, x559001, x559002, x559003, x560000, x560001, x560002, x560003 => if x56 = true then (some false) else (if (Op.bytesLess ((strOfNums x5).toList) ((strOfNums x6).toList)) = true then (laws_FnKeys.j2 k x0 x5 x6 (-1) x559000 x559001 x559002 x559003 x560000 x560001 x560002 x560003) else (laws_FnKeys.j2 k x0 x5 x6 0 x559000 x559001 x559002 x559003 x560000 x560001 x560002 x560003))
def laws_FnKeys.j2 : Nat → List Int → List Int → List Int → Int → Int → Int → Nat → List Int → Int → Int → Nat → List Int → Option (Bool)
 | 0, _, _, _, _, _, _, _, _, _, _, _, _ => none
 | k + 1, x0, x5, x6, x9, x559000, x559001, x559002, x559003, x560000, x560001, x560002, x560003 => if (Op.bytesLess ((strOfNums x6).toList) ((strOfNums x5).toList)) = true then (laws_FnKeys.j3 k x0 1 x559000 x559001 x559002 x559003 x560000 x560001 x560002 x560003) else (laws_FnKeys.j3 k x0 x9 x559000 x559001 x559002 x559003 x560000 x560001 x560002 x560003)
def laws_FnKeys.j3 : Nat → List Int → Int → Int → Int → Nat → List Int → Int → Int → Nat → List Int → Option (Bool)
 | 0, _, _, _, _, _, _, _, _, _, _ => none
 | k + 1, x0, x9, x559000, x559001, x559002, x559003, x560000, x560001, x560002, x560003 => (spec_DrawValueBytes.f k x0).bind fun bt591 => ((spec_ItemOk.f k bt591.1 bt591.2.1 bt591.2.2.1 bt591.2.2.2).bind fun t598 => (if t598 = true then (laws_FnKeys.j4 k x9 (bt591.1 == 0) x559000 x559001 x559002 x559003 x560000 x560001 x560002 x560003 bt591.1 bt591.2.1 bt591.2.2.1 bt591.2.2.2) else (laws_FnKeys.j4 k x9 true x559000 x559001 x559002 x559003 x560000 x560001 x560002 x560003 bt591.1 bt591.2.1 bt591.2.2.1 bt591.2.2.2)))
def laws_FnKeys.j4 : Nat → Int → Bool → Int → Int → Nat → List Int → Int → Int → Nat → List Int → Int → Int → Nat → List Int → Option (Bool)
 | 0, _, _, _, _, _, _, _, _, _, _, _, _, _, _ => none
 | k + 1, x9, x76, x559000, x559001, x559002, x559003, x560000, x560001, x560002, x560003, x598000, x598001, x598002, x598003 => if x76 = true then ((impl_ItemCompare.f k x559000 x559001 x559002 x559003 x560000 x560001 x560002 x560003).bind fun t599 => (some (t599 == x9))) else ((impl_ValueBytes.f k x598000 x598001 x598002 x598003).bind fun t600 => ((impl_ValueRead.f k t600).bind fun bt603 => ((impl_ValueBytes.f k 2 0 (fneg 0) ([] : List Int)).bind fun t611 => ((impl_ValueRead.f k t611).bind fun bt614 => ((impl_ItemCompare.f k x559000 x559001 x559002 x559003 x560000 x560001 x560002 x560003).bind fun t622 => (if t622 = x9 then (if bt603.2.2.2.2 = true then ((laws_sameItem.f k bt603.1 bt603.2.1 bt603.2.2.1 bt603.2.2.2.1 x598000 x598001 x598002 x598003).bind fun t623 => (if t623 = true then (if bt614.2.2.2.2 = true then ((spec_FloatBits.f k bt614.2.2.1).bind fun t624 => (some (t624 == 9223372036854775808))) else (some false)) else (some false))) else (some false)) else (some false)))))))
end
def laws_FnKeys.f (k : Nat) (l0 : List Int) : Option (Bool) := (laws_big.f l0).bind fun t545 => (if t545 = true then (some true) else ((spec_DrawItemCompare.f k l0).bind fun bt546 => ((spec_ItemClean.f k bt546.1 bt546.2.1 bt546.2.2.1 bt546.2.2.2.1).bind fun bt560 => ((spec_ItemClean.f k bt546.2.2.2.2.1 bt546.2.2.2.2.2.1 bt546.2.2.2.2.2.2.1 bt546.2.2.2.2.2.2.2).bind fun bt566 => ((spec_KeyOk.f k bt560.1 bt560.2.1 bt560.2.2.1 bt560.2.2.2).bind fun t572 => (if t572 = true then ((spec_KeyOk.f k bt566.1 bt566.2.1 bt566.2.2.1 bt566.2.2.2).bind fun t573 => (laws_FnKeys.j0 k l0 (!t573) bt560.1 bt560.2.1 bt560.2.2.1 bt560.2.2.2 bt566.1 bt566.2.1 bt566.2.2.1 bt566.2.2.2)) else (laws_FnKeys.j0 k l0 true bt560.1 bt560.2.1 bt560.2.2.1 bt560.2.2.2 bt566.1 bt566.2.1 bt566.2.2.1 bt566.2.2.2)))))))
theorem laws_FnKeys.mono_l : ∀ k, (∀ y0 y1 y2 y3 y4 y5 y6 y7 y8 y9, LeO (laws_FnKeys.j0 k y0 y1 y2 y3 y4 y5 y6 y7 y8 y9) (laws_FnKeys.j0 (k + 1) y0 y1 y2 y3 y4 y5 y6 y7 y8 y9)) ∧ (∀ y0 y1 y2 y3 y4 y5 y6 y7 y8 y9 y10 y11, LeO (laws_FnKeys.j1 k y0 y1 y2 y3 y4 y5 y6 y7 y8 y9 y10 y11) (laws_FnKeys.j1 (k + 1) y0 y1 y2 y3 y4 y5 y6 y7 y8 y9 y10 y11)) ∧ (∀ y0 y1 y2 y3 y4 y5 y6 y7 y8 y9 y10 y11, LeO (laws_FnKeys.j2 k y0 y1 y2 y3 y4 y5 y6 y7 y8 y9 y10 y11) (laws_FnKeys.j2 (k + 1) y0 y1 y2 y3 y4 y5 y6 y7 y8 y9 y10 y11)) ∧ (∀ y0 y1 y2 y3 y4 y5 y6 y7 y8 y9, LeO (laws_FnKeys.j3 k y0 y1 y2 y3 y4 y5 y6 y7 y8 y9) (laws_FnKeys.j3 (k + 1) y0 y1 y2 y3 y4 y5 y6 y7 y8 y9)) ∧ (∀ y0 y1 y2 y3 y4 y5 y6 y7 y8 y9 y10 y11 y12 y13, LeO (laws_FnKeys.j4 k y0 y1 y2 y3 y4 y5 y6 y7 y8 y9 y10 y11 y12 y13) (laws_FnKeys.j4 (k + 1) y0 y1 y2 y3 y4 y5 y6 y7 y8 y9 y10 y11 y12 y13))
 | 0 => ⟨fun _ _ _ _ _ _ _ _ _ _ r h => by simp [laws_FnKeys.j0] at h, fun _ _ _ _ _ _ _ _ _ _ _ _ r h => by simp [laws_FnKeys.j1] at h, fun _ _ _ _ _ _ _ _ _ _ _ _ r h => by simp [laws_FnKeys.j2] at h, fun _ _ _ _ _ _ _ _ _ _ r h => by simp [laws_FnKeys.j3] at h, fun _ _ _ _ _ _ _ _ _ _ _ _ _ _ r h => by simp [laws_FnKeys.j4] at h⟩
 | k + 1 => by
  obtain ⟨ih0, ih1, ih2, ih3, ih4⟩ := laws_FnKeys.mono_l k
  refine ⟨?_, ?_, ?_, ?_, ?_⟩
  ·intro y0 y1 y2 y3 y4 y5 y6 y7 y8 y9
   unfold laws_FnKeys.j0
   repeat' with_reducible first | exact ih0 _ _ _ _ _ _ _ _ _ _ | exact ih1 _ _ _ _ _ _ _ _ _ _ _ _ | exact ih2 _ _ _ _ _ _ _ _ _ _ _ _ | exact ih3 _ _ _ _ _ _ _ _ _ _ | exact ih4 _ _ _ _ _ _ _ _ _ _ _ _ _ _ | exact impl_ItemCompare.mono _ _ _ _ _ _ _ _ _ | exact impl_KeyBytes.mono _ _ _ _ _ | exact impl_KeyRead.mono _ _ | exact impl_ValueBytes.mono _ _ _ _ _ | exact impl_ValueRead.mono _ _ | exact laws_sameItem.mono _ _ _ _ _ _ _ _ _ | exact spec_DrawItemCompare.mono _ _ | exact spec_DrawValueBytes.mono _ _ | exact spec_FloatBits.mono _ _ | exact spec_ItemClean.mono _ _ _ _ _ | exact spec_ItemOk.mono _ _ _ _ _ | exact spec_KeyOk.mono _ _ _ _ _ | exact LeO.refl _ | exact LeO.none _ | refine LeO.ite ?_ ?_ | refine LeO.bind ?_ (fun _ => ?_)
  ·intro y0 y1 y2 y3 y4 y5 y6 y7 y8 y9 y10 y11
   unfold laws_FnKeys.j1
   repeat' with_reducible first | exact ih0 _ _ _ _ _ _ _ _ _ _ | exact ih1 _ _ _ _ _ _ _ _ _ _ _ _ | exact ih2 _ _ _ _ _ _ _ _ _ _ _ _ | exact ih3 _ _ _ _ _ _ _ _ _ _ | exact ih4 _ _ _ _ _ _ _ _ _ _ _ _ _ _ | exact impl_ItemCompare.mono _ _ _ _ _ _ _ _ _ | exact impl_KeyBytes.mono _ _ _ _ _ | exact impl_KeyRead.mono _ _ | exact impl_ValueBytes.mono _ _ _ _ _ | exact impl_ValueRead.mono _ _ | exact laws_sameItem.mono _ _ _ _ _ _ _ _ _ | exact spec_DrawItemCompare.mono _ _ | exact spec_DrawValueBytes.mono _ _ | exact spec_FloatBits.mono _ _ | exact spec_ItemClean.mono _ _ _ _ _ | exact spec_ItemOk.mono _ _ _ _ _ | exact spec_KeyOk.mono _ _ _ _ _ | exact LeO.refl _ | exact LeO.none _ | refine LeO.ite ?_ ?_ | refine LeO.bind ?_ (fun _ => ?_)
  ·intro y0 y1 y2 y3 y4 y5 y6 y7 y8 y9 y10 y11
   unfold laws_FnKeys.j2
   repeat' with_reducible first | exact ih0 _ _ _ _ _ _ _ _ _ _ | exact ih1 _ _ _ _ _ _ _ _ _ _ _ _ | exact ih2 _ _ _ _ _ _ _ _ _ _ _ _ | exact ih3 _ _ _ _ _ _ _ _ _ _ | exact ih4 _ _ _ _ _ _ _ _ _ _ _ _ _ _ | exact impl_ItemCompare.mono _ _ _ _ _ _ _ _ _ | exact impl_KeyBytes.mono _ _ _ _ _ | exact impl_KeyRead.mono _ _ | exact impl_ValueBytes.mono _ _ _ _ _ | exact impl_ValueRead.mono _ _ | exact laws_sameItem.mono _ _ _ _ _ _ _ _ _ | exact spec_DrawItemCompare.mono _ _ | exact spec_DrawValueBytes.mono _ _ | exact spec_FloatBits.mono _ _ | exact spec_ItemClean.mono _ _ _ _ _ | exact spec_ItemOk.mono _ _ _ _ _ | exact spec_KeyOk.mono _ _ _ _ _ | exact LeO.refl _ | exact LeO.none _ | refine LeO.ite ?_ ?_ | refine LeO.bind ?_ (fun _ => ?_)
  ·intro y0 y1 y2 y3 y4 y5 y6 y7 y8 y9
   unfold laws_FnKeys.j3
   repeat' with_reducible first | exact ih0 _ _ _ _ _ _ _ _ _ _ | exact ih1 _ _ _ _ _ _ _ _ _ _ _ _ | exact ih2 _ _ _ _ _ _ _ _ _ _ _ _ | exact ih3 _ _ _ _ _ _ _ _ _ _ | exact ih4 _ _ _ _ _ _ _ _ _ _ _ _ _ _ | exact impl_ItemCompare.mono _ _ _ _ _ _ _ _ _ | exact impl_KeyBytes.mono _ _ _ _ _ | exact impl_KeyRead.mono _ _ | exact impl_ValueBytes.mono _ _ _ _ _ | exact impl_ValueRead.mono _ _ | exact laws_sameItem.mono _ _ _ _ _ _ _ _ _ | exact spec_DrawItemCompare.mono _ _ | exact spec_DrawValueBytes.mono _ _ | exact spec_FloatBits.mono _ _ | exact spec_ItemClean.mono _ _ _ _ _ | exact spec_ItemOk.mono _ _ _ _ _ | exact spec_KeyOk.mono _ _ _ _ _ | exact LeO.refl _ | exact LeO.none _ | refine LeO.ite ?_ ?_ | refine LeO.bind ?_ (fun _ => ?_)
  ·intro y0 y1 y2 y3 y4 y5 y6 y7 y8 y9 y10 y11 y12 y13
   unfold laws_FnKeys.j4
   repeat' with_reducible first | exact ih0 _ _ _ _ _ _ _ _ _ _ | exact ih1 _ _ _ _ _ _ _ _ _ _ _ _ | exact ih2 _ _ _ _ _ _ _ _ _ _ _ _ | exact ih3 _ _ _ _ _ _ _ _ _ _ | exact ih4 _ _ _ _ _ _ _ _ _ _ _ _ _ _ | exact impl_ItemCompare.mono _ _ _ _ _ _ _ _ _ | exact impl_KeyBytes.mono _ _ _ _ _ | exact impl_KeyRead.mono _ _ | exact impl_ValueBytes.mono _ _ _ _ _ | exact impl_ValueRead.mono _ _ | exact laws_sameItem.mono _ _ _ _ _ _ _ _ _ | exact spec_DrawItemCompare.mono _ _ | exact spec_DrawValueBytes.mono _ _ | exact spec_FloatBits.mono _ _ | exact spec_ItemClean.mono _ _ _ _ _ | exact spec_ItemOk.mono _ _ _ _ _ | exact spec_KeyOk.mono _ _ _ _ _ | exact LeO.refl _ | exact LeO.none _ | refine LeO.ite ?_ ?_ | refine LeO.bind ?_ (fun _ => ?_)
theorem laws_FnKeys.mono : ∀ a0 k, LeO (laws_FnKeys.f k a0) (laws_FnKeys.f (k + 1) a0) := by
 intro a0 k
 obtain ⟨ih0, ih1, ih2, ih3, ih4⟩ := laws_FnKeys.mono_l k
 unfold laws_FnKeys.f
 repeat' with_reducible first | exact ih0 _ _ _ _ _ _ _ _ _ _ | exact ih1 _ _ _ _ _ _ _ _ _ _ _ _ | exact ih2 _ _ _ _ _ _ _ _ _ _ _ _ | exact ih3 _ _ _ _ _ _ _ _ _ _ | exact ih4 _ _ _ _ _ _ _ _ _ _ _ _ _ _ | exact impl_ItemCompare.mono _ _ _ _ _ _ _ _ _ | exact impl_KeyBytes.mono _ _ _ _ _ | exact impl_KeyRead.mono _ _ | exact impl_ValueBytes.mono _ _ _ _ _ | exact impl_ValueRead.mono _ _ | exact laws_sameItem.mono _ _ _ _ _ _ _ _ _ | exact spec_DrawItemCompare.mono _ _ | exact spec_DrawValueBytes.mono _ _ | exact spec_FloatBits.mono _ _ | exact spec_ItemClean.mono _ _ _ _ _ | exact spec_ItemOk.mono _ _ _ _ _ | exact spec_KeyOk.mono _ _ _ _ _ | exact LeO.refl _ | exact LeO.none _ | refine LeO.ite ?_ ?_ | refine LeO.bind ?_ (fun _ => ?_)
set_option maxHeartbeats 8000000 in
set_option maxRecDepth 100000 in
theorem laws_FnKeys.calls (k : Nat) (A0 : Option Addr) (c0 : Nat) (l0 : List Int) (r : Bool) (w : World) (hr0 : Kd.C (Kd.int .u8) w A0 l0.length l0) (hc0 : l0.length ≤ c0) (h : laws_FnKeys.f k l0 = some r) (hT : r = true := by rfl) :
  Calls Try.prog 5 #[.slice A0 l0.length c0] w fun e w' => e = .returned (.bool r) ∧ Below w.heap.size w w' := by
 have hu25 := Try.underlying25
 have HR0 := Aside0.mk hr0
 have HC0 := Aside0.mk hc0
 clear hr0 hc0
 have HB := Aside0.mk (Below.refl w.heap.size w)
 have H := h
 clear h
 unfold laws_FnKeys.f at H
 replace H := Option.bind_eq_some_iff.mp H
 obtain ⟨t545, A20, H⟩ := H
 (try dsimp only at H)
 have A2 := Aside0.mk A20
 clear A20
 by_cases c3 : t545 = true
 ·subst c3
  rw [if_pos rfl] at H
  (try dsimp only at H)
  obtain rfl := Option.some.inj H
  go_enter Try.func5, Try.ntmps5
  go_wp2_with (first | ((with_reducible refine gate_callee (f := 19) rfl ?_); refine goesL_ (some 17) rfl rfl Try.func19 (by kernel_rfl) rfl #[.slice A0 l0.length c0] rfl (by (try simp only [List.map_toArray, List.map_cons, List.map_nil]); first | done | rfl) ?_; (with_reducible refine (laws_big.calls _ _ l0 true _ ?side1 ?side2 A2.out).mono ?_); (case side1 => repeat (first | exact HR0.out | (with_reducible refine Kd.C_alloc ?_ _) | (with_reducible refine Kd.C_drewN ?_ _) | (with_reducible refine Kd.C_drew ?_))); (case side2 => exact HC0.out); rintro e w' ⟨rfl, ⟨nd, rfl⟩⟩; refine ⟨_, rfl, ?_⟩))
  go_ret
  exact ⟨by first | rfl | (simp [errW_none, errW_some] <;> rfl) | (simp [*, errW_none, errW_some] <;> rfl), by with_reducible repeat (first | exact HB.out | apply h1 | apply h2 | apply h3)⟩
 ·replace c3 := Bool.eq_false_iff.mpr c3
  subst c3
  rw [if_neg (show ¬ (false = true) by decide)] at H
  (try dsimp only at H)
  replace H := Option.bind_eq_some_iff.mp H
  obtain ⟨⟨t546, t547, t548, t549, t552, t553, t554, t555⟩, A40, H⟩ := H
  (try dsimp only at H)
  have A4 := Aside0.mk A40
  clear A40
  replace H := Option.bind_eq_some_iff.mp H
  obtain ⟨⟨t560, t561, t562, t563⟩, A50, H⟩ := H
  (try dsimp only at H)
  have A5 := Aside0.mk A50
  clear A50
  replace H := Option.bind_eq_some_iff.mp H
  obtain ⟨⟨t566, t567, t568, t569⟩, A60, H⟩ := H
  (try dsimp only at H)
  have A6 := Aside0.mk A60
  clear A60
  have HC7 := Aside0.mk H
  clear H
  go_enter Try.func5, Try.ntmps5
  go_upto_region 6 with (first | ((with_reducible refine gate_callee (f := 19) rfl ?_); refine goesL_ (some 17) rfl rfl Try.func19 (by kernel_rfl) rfl #[.slice A0 l0.length c0] rfl (by (try simp only [List.map_toArray, List.map_cons, List.map_nil]); first | done | rfl) ?_; (with_reducible refine (laws_big.calls _ _ l0 false _ ?side1 ?side2 A2.out).mono ?_); (case side1 => repeat (first | exact HR0.out | (with_reducible refine Kd.C_alloc ?_ _) | (with_reducible refine Kd.C_drewN ?_ _) | (with_reducible refine Kd.C_drew ?_))); (case side2 => exact HC0.out); rintro e w' ⟨rfl, ⟨nd, rfl⟩⟩; refine ⟨_, rfl, ?_⟩) | ((with_reducible refine gate_callee (f := 20) rfl ?_); refine goesL_ (some 20) rfl rfl Try.func20 (by kernel_rfl) rfl #[.slice A0 l0.length c0] rfl (by (try simp only [List.map_toArray, List.map_cons, List.map_nil]); first | done | rfl) ?_; (with_reducible refine (spec_DrawItemCompare.callsC k _ _ l0 t546 t547 t548 t549 t552 t553 t554 t555 _ ?side1 ?side2 A4.out).mono ?_); (case side1 => repeat (first | exact HR0.out | (with_reducible refine Kd.C_alloc ?_ _) | (with_reducible refine Kd.C_drewN ?_ _) | (with_reducible refine Kd.C_drew ?_))); (case side2 => exact HC0.out); rintro e w8 ⟨b548, b554, v550, v556, rfl, ho0, ho1, hb, ⟨⟨hcnb548, hltb548⟩⟩, ⟨⟨hcnb554, hltb554⟩⟩⟩; refine ⟨_, rfl, ?_⟩; have LTb548 := Aside0.mk hltb548; clear hltb548; subst hcnb548; have LTb554 := Aside0.mk hltb554; clear hltb554; subst hcnb554; have n0_ := Aside0.mk (Kd.R_lower ho0 (below_size (hup HB.out))); have n1_ := Aside0.mk (Kd.R_lower ho1 (below_size (hup HB.out))); have n2_ := Aside0.mk (below_step (hup HB.out) hb); clear HB; have HO551 := n0_; have HO557 := n1_; have HB := n2_; clear n0_ n1_ n2_; (try clear hb); (try clear hb2); (try clear hk); (try clear hi); (try clear ho0); (try clear ho1)) | ((with_reducible refine gate_dst (N := 3) rfl ?_); refine box_event ?hg (N := 3) ?hd (cs := #[.int .i64 0, .int .i64 0, .float .f64 0, .slice none 0 0]) (t := 25) ?hr ?_; (case hd => rfl); (case hg => rfl); (case hr => first | (go_simp; done) | (go_simp; rfl)); intro gb558 hg w9 hbox hb; have n0_ := Aside0.mk (Kd.R_below (Kd.rup HO551.out) hb); have n1_ := Aside0.mk (Kd.R_below (Kd.rup HO557.out) hb); have n2_ := Aside0.mk (below_step (hup HB.out) hb); have n3_ := Aside0.mk (hbox); have n4_ := Geq.mk ((by rw [hg]; exact (below_size (hup HB.out)) : w.heap.size ≤ gb558)); have n5_ := Geq.mk ((by rw [hg]; exact (below_size (hup HB.out)) : w.heap.size ≤ gb558)); clear HO551; clear HO557; clear HB; have HO551 := n0_; have HO557 := n1_; have HB := n2_; have BK558 := n3_; have GW558 := n4_; have GE558 := n5_; clear n0_ n1_ n2_ n3_ n4_ n5_; clear hb hbox hg) | ((with_reducible refine gate_dst (N := 4) rfl ?_); refine box_event ?hg (N := 4) ?hd (cs := #[.int .i64 0, .int .i64 0, .float .f64 0, .slice none 0 0]) (t := 25) ?hr ?_; (case hd => rfl); (case hg => rfl); (case hr => first | (go_simp; done) | (go_simp; rfl)); intro gb559 hg w10 hbox hb; have n0_ := Aside0.mk (Kd.R_below (Kd.rup HO551.out) hb); have n1_ := Aside0.mk (Kd.R_below (Kd.rup HO557.out) hb); have n2_ := Aside0.mk (blk_below (bup BK558.out) hb); have n3_ := Aside0.mk (below_step (hset HB.out) hb); have n4_ := Aside0.mk (hbox); have n5_ := Geq.mk ((by rw [hg]; exact (below_size (hset HB.out)) : w.heap.size ≤ gb559)); have n6_ := Geq.mk ((by rw [hg]; exact (below_size (hset HB.out)) : w.heap.size ≤ gb559)); have n7_ := Neq.mk ((by rw [hg]; exact Nat.ne_of_lt (blk_lt (g := gb558) (o := .cells #[.int .i64 0, .int .i64 0, .float .f64 0, .slice none 0 0] 25 (0, 0)) (bup BK558.out)) : gb558 ≠ gb559)); have n8_ := Neq.mk ((by rw [hg]; exact Nat.ne_of_gt (blk_lt (g := gb558) (o := .cells #[.int .i64 0, .int .i64 0, .float .f64 0, .slice none 0 0] 25 (0, 0)) (bup BK558.out)) : gb559 ≠ gb558)); clear HO551; clear HO557; clear BK558; clear HB; have HO551 := n0_; have HO557 := n1_; have BK558 := n2_; have HB := n3_; have BK559 := n4_; have GW559 := n5_; have GE559 := n6_; have NB558_559 := n7_; have NB559_558 := n8_; clear n0_ n1_ n2_ n3_ n4_ n5_ n6_ n7_ n8_; clear hb hbox hg; have hnb11 := NB558_559.out; have hnc11 := NB559_558.out; obtain ⟨hcz12_0, hcz12_1, hcz12_2, hcz12_3⟩ := blk_cells4 BK558.out; obtain ⟨hfz12_0, hfz12_1, hfz12_2, hfz12_3⟩ := blk_frozens4 BK558.out; obtain ⟨Ao13, co13, eo13⟩ := Kd.R_slice HO551.out; subst eo13; obtain ⟨hcz14_0, hcz14_1, hcz14_2, hcz14_3⟩ := blk_cells4 BK559.out; obtain ⟨hfz14_0, hfz14_1, hfz14_2, hfz14_3⟩ := blk_frozens4 BK559.out; obtain ⟨Ao15, co15, eo15⟩ := Kd.R_slice HO557.out; subst eo15) | ((with_reducible refine gate_callee (f := 21) rfl ?_); refine goesL_ (some 24) rfl rfl Try.func21 (by kernel_rfl) rfl #[.agg #[.int .i64 t546, .int .i64 t547, .float .f64 b548, .slice Ao13 t549.length co13]] rfl (by (try simp only [List.map_toArray, List.map_cons, List.map_nil]); first | done | rfl) ?_; (with_reducible refine (spec_ItemClean.callsC k t546 t547 b548 _ _ t549 t560 t561 t562 t563 _ ?side1 ?side2 LTb548.out A5.out).mono ?_); (case side1 => refine (Kd.R_reads' (e := 5) (base := w.heap.size) (ok := fun k_ => some k_ ≠ (.slice Ao15 t555.length co15 : Value).ownBlock) (n := t549.length) (c := co13) ?_).2.2; exact (by exact Kd.rup (Kd.R_mono (Kd.R_mono (Kd.R_far (p := ⟨gb559, 3, none⟩) (Kd.R_far (p := ⟨gb559, 2, none⟩) (Kd.R_far (p := ⟨gb559, 1, none⟩) (Kd.R_far (p := ⟨gb559, 0, none⟩) (Kd.R_far (p := ⟨gb558, 3, none⟩) (Kd.R_far (p := ⟨gb558, 2, none⟩) (Kd.R_far (p := ⟨gb558, 1, none⟩) (Kd.R_far (p := ⟨gb558, 0, none⟩) (Kd.R_types (Kd.R_types HO551.out BK558.out (by decide)) BK559.out (by decide)) (fun _ hk => hk.1.2) (.int .i64 t546)) (fun _ hk => hk.1.2) (.int .i64 t547)) (fun _ hk => hk.1.2) (.float .f64 b548)) (fun _ hk => hk.1.2) (.slice Ao13 t549.length co13)) (fun _ hk => hk.2) (.int .i64 t552)) (fun _ hk => hk.2) (.int .i64 t553)) (fun _ hk => hk.2) (.float .f64 b554)) (fun _ hk => hk.2) (.slice Ao15 t555.length co15)) (fun _ h_ => h_.1)) (fun _ h_ => h_.1)))); (case side2 => exact (Kd.R_reads' HO551.out).2.1); rintro e w16 ⟨b562, v564, rfl, ho0, hb, ⟨⟨hcnb562, hltb562⟩⟩⟩; refine ⟨_, rfl, ?_⟩; have LTb562 := Aside0.mk hltb562; clear hltb562; subst hcnb562; have n0_ := Aside0.mk (Kd.R_elder' (by exact Kd.rup (Kd.R_mono (Kd.R_mono (Kd.R_far (p := ⟨gb559, 3, none⟩) (Kd.R_far (p := ⟨gb559, 2, none⟩) (Kd.R_far (p := ⟨gb559, 1, none⟩) (Kd.R_far (p := ⟨gb559, 0, none⟩) (Kd.R_far (p := ⟨gb558, 3, none⟩) (Kd.R_far (p := ⟨gb558, 2, none⟩) (Kd.R_far (p := ⟨gb558, 1, none⟩) (Kd.R_far (p := ⟨gb558, 0, none⟩) (Kd.R_types (Kd.R_types HO551.out BK558.out (by decide)) BK559.out (by decide)) (fun _ hk => hk.1.2) (.int .i64 t546)) (fun _ hk => hk.1.2) (.int .i64 t547)) (fun _ hk => hk.1.2) (.float .f64 b548)) (fun _ hk => hk.1.2) (.slice Ao13 t549.length co13)) (fun _ hk => hk.2) (.int .i64 t552)) (fun _ hk => hk.2) (.int .i64 t553)) (fun _ hk => hk.2) (.float .f64 b554)) (fun _ hk => hk.2) (.slice Ao15 t555.length co15)) (fun _ h_ => h_.1)) (fun _ h_ => h_.1))) (Kd.R_base ho0) hb); have n1_ := Aside0.mk (Kd.R_elder' (by exact Kd.rup (Kd.R_mono (Kd.R_mono (Kd.R_far (p := ⟨gb559, 3, none⟩) (Kd.R_far (p := ⟨gb559, 2, none⟩) (Kd.R_far (p := ⟨gb559, 1, none⟩) (Kd.R_far (p := ⟨gb559, 0, none⟩) (Kd.R_far (p := ⟨gb558, 3, none⟩) (Kd.R_far (p := ⟨gb558, 2, none⟩) (Kd.R_far (p := ⟨gb558, 1, none⟩) (Kd.R_far (p := ⟨gb558, 0, none⟩) (Kd.R_types (Kd.R_types HO557.out BK558.out (by decide)) BK559.out (by decide)) (fun _ hk => hk.1.2) (.int .i64 t546)) (fun _ hk => hk.1.2) (.int .i64 t547)) (fun _ hk => hk.1.2) (.float .f64 b548)) (fun _ hk => hk.1.2) (.slice Ao13 t549.length co13)) (fun _ hk => hk.2) (.int .i64 t552)) (fun _ hk => hk.2) (.int .i64 t553)) (fun _ hk => hk.2) (.float .f64 b554)) (fun _ hk => hk.2) (.slice Ao15 t555.length co15)) (fun _ h_ => h_.1)) (fun _ h_ => h_.1))) (Kd.R_base ho0) hb); have n2_ := Aside0.mk (Kd.R_lower (Kd.R_new' (Kd.R_new' ho0 (Kd.R_lt (by exact Kd.rup (Kd.R_mono (Kd.R_mono (Kd.R_far (p := ⟨gb559, 3, none⟩) (Kd.R_far (p := ⟨gb559, 2, none⟩) (Kd.R_far (p := ⟨gb559, 1, none⟩) (Kd.R_far (p := ⟨gb559, 0, none⟩) (Kd.R_far (p := ⟨gb558, 3, none⟩) (Kd.R_far (p := ⟨gb558, 2, none⟩) (Kd.R_far (p := ⟨gb558, 1, none⟩) (Kd.R_far (p := ⟨gb558, 0, none⟩) (Kd.R_types (Kd.R_types HO551.out BK558.out (by decide)) BK559.out (by decide)) (fun _ hk => hk.1.2) (.int .i64 t546)) (fun _ hk => hk.1.2) (.int .i64 t547)) (fun _ hk => hk.1.2) (.float .f64 b548)) (fun _ hk => hk.1.2) (.slice Ao13 t549.length co13)) (fun _ hk => hk.2) (.int .i64 t552)) (fun _ hk => hk.2) (.int .i64 t553)) (fun _ hk => hk.2) (.float .f64 b554)) (fun _ hk => hk.2) (.slice Ao15 t555.length co15)) (fun _ h_ => h_.1)) (fun _ h_ => h_.1))))) (Kd.R_lt (by exact Kd.rup (Kd.R_mono (Kd.R_mono (Kd.R_far (p := ⟨gb559, 3, none⟩) (Kd.R_far (p := ⟨gb559, 2, none⟩) (Kd.R_far (p := ⟨gb559, 1, none⟩) (Kd.R_far (p := ⟨gb559, 0, none⟩) (Kd.R_far (p := ⟨gb558, 3, none⟩) (Kd.R_far (p := ⟨gb558, 2, none⟩) (Kd.R_far (p := ⟨gb558, 1, none⟩) (Kd.R_far (p := ⟨gb558, 0, none⟩) (Kd.R_types (Kd.R_types HO557.out BK558.out (by decide)) BK559.out (by decide)) (fun _ hk => hk.1.2) (.int .i64 t546)) (fun _ hk => hk.1.2) (.int .i64 t547)) (fun _ hk => hk.1.2) (.float .f64 b548)) (fun _ hk => hk.1.2) (.slice Ao13 t549.length co13)) (fun _ hk => hk.2) (.int .i64 t552)) (fun _ hk => hk.2) (.int .i64 t553)) (fun _ hk => hk.2) (.float .f64 b554)) (fun _ hk => hk.2) (.slice Ao15 t555.length co15)) (fun _ h_ => h_.1)) (fun _ h_ => h_.1))))) (below_size (hset HB.out))); have n3_ := Aside0.mk (blk_below (g := gb558) (o := .cells #[.int .i64 t546, .int .i64 t547, .float .f64 b548, .slice Ao13 t549.length co13] 25 (0, 0)) (bput BK558.out) hb); have n4_ := Aside0.mk (blk_below (g := gb559) (o := .cells #[.int .i64 t552, .int .i64 t553, .float .f64 b554, .slice Ao15 t555.length co15] 25 (0, 0)) (bput BK559.out) hb); have n5_ := Aside0.mk (below_step (hset HB.out) hb); clear HO551; clear HO557; clear BK558; clear BK559; clear HB; have HO551 := n0_; have HO557 := n1_; have HO565 := n2_; have BK558 := n3_; have BK559 := n4_; have HB := n5_; clear n0_ n1_ n2_ n3_ n4_ n5_; (try clear hb); (try clear hb2); (try clear hk); (try clear hi); (try clear ho0); obtain ⟨hcz17_0, hcz17_1, hcz17_2, hcz17_3⟩ := blk_cells4 BK558.out; obtain ⟨hfz17_0, hfz17_1, hfz17_2, hfz17_3⟩ := blk_frozens4 BK558.out; obtain ⟨Ao18, co18, eo18⟩ := Kd.R_slice HO565.out; subst eo18; obtain ⟨hcz19_0, hcz19_1, hcz19_2, hcz19_3⟩ := blk_cells4 BK559.out; obtain ⟨hfz19_0, hfz19_1, hfz19_2, hfz19_3⟩ := blk_frozens4 BK559.out) | ((with_reducible refine gate_callee (f := 21) rfl ?_); refine goesL_ (some 26) rfl rfl Try.func21 (by kernel_rfl) rfl #[.agg #[.int .i64 t552, .int .i64 t553, .float .f64 b554, .slice Ao15 t555.length co15]] rfl (by (try simp only [List.map_toArray, List.map_cons, List.map_nil]); first | done | rfl) ?_; (with_reducible refine (spec_ItemClean.callsC k t552 t553 b554 _ _ t555 t566 t567 t568 t569 _ ?side1 ?side2 LTb554.out A6.out).mono ?_); (case side1 => refine (Kd.R_reads' (e := 5) (base := w.heap.size) (ok := fun k_ => (some k_ ≠ (.slice Ao13 t549.length co13 : Value).ownBlock ∧ some k_ ≠ (.slice Ao18 t563.length co18 : Value).ownBlock)) (n := t555.length) (c := co15) ?_).2.2; exact ((Kd.roff1 HO557.out BK558.out (by decide)))); (case side2 => exact (Kd.R_reads' HO557.out).2.1); rintro e w20 ⟨b568, v570, rfl, ho0, hb, ⟨⟨hcnb568, hltb568⟩⟩⟩; refine ⟨_, rfl, ?_⟩; have LTb568 := Aside0.mk hltb568; clear hltb568; subst hcnb568; have n0_ := Aside0.mk (Kd.R_elder' ((Kd.roff1 HO551.out BK558.out (by decide))) (Kd.R_base ho0) hb); have n1_ := Aside0.mk (Kd.R_elder' ((Kd.roff1 HO557.out BK558.out (by decide))) (Kd.R_base ho0) hb); have n2_ := Aside0.mk (Kd.R_elder' ((Kd.roff1 HO565.out BK558.out (by decide))) (Kd.R_base ho0) hb); have n3_ := Aside0.mk (Kd.R_lower (Kd.R_new' (Kd.R_new' (Kd.R_new' ho0 (Kd.R_lt ((Kd.roff1 HO551.out BK558.out (by decide))))) (Kd.R_lt ((Kd.roff1 HO557.out BK558.out (by decide))))) (Kd.R_lt ((Kd.roff1 HO565.out BK558.out (by decide))))) (below_size (hset HB.out))); have n4_ := Aside0.mk (blk_below (g := gb558) (o := .cells #[.int .i64 t560, .int .i64 t561, .float .f64 b562, .slice Ao18 t563.length co18] 25 (0, 0)) (bput BK558.out) hb); have n5_ := Aside0.mk (blk_below (g := gb559) (o := .cells #[.int .i64 t552, .int .i64 t553, .float .f64 b554, .slice Ao15 t555.length co15] 25 (0, 0)) (bput BK559.out) hb); have n6_ := Aside0.mk (below_step (hset HB.out) hb); clear HO551; clear HO557; clear HO565; clear BK558; clear BK559; clear HB; have HO551 := n0_; have HO557 := n1_; have HO565 := n2_; have HO571 := n3_; have BK558 := n4_; have BK559 := n5_; have HB := n6_; clear n0_ n1_ n2_ n3_ n4_ n5_ n6_; (try clear hb); (try clear hb2); (try clear hk); (try clear hi); (try clear ho0); obtain ⟨hcz21_0, hcz21_1, hcz21_2, hcz21_3⟩ := blk_cells4 BK559.out; obtain ⟨hfz21_0, hfz21_1, hfz21_2, hfz21_3⟩ := blk_frozens4 BK559.out; obtain ⟨Ao22, co22, eo22⟩ := Kd.R_slice HO571.out; subst eo22))
  (try simp only [Act.put, List.setIfInBounds_toArray, List.set_cons_zero, List.set_cons_succ])
  go_cut [34] (fun v34 wc => ∃ (kq : Nat) (x34_6 : Bool), v34 = .bool x34_6 ∧ Aside0 (laws_FnKeys.j0 kq l0 x34_6 t560 t561 (cn b562) t563 t566 t567 (cn b568) t569 = some r) ∧ Aside0 (kq ≤ k) ∧ Aside0 (Kd.R (Kd.int .u8) 5 wc w.heap.size (fun k_ => some k_ ≠ ((.slice Ao22 t569.length co22) : Value).ownBlock) (.slice Ao18 t563.length co18) t563) ∧ Aside0 (Kd.R (Kd.int .u8) 5 wc w.heap.size (fun k_ => some k_ ≠ ((.slice Ao18 t563.length co18) : Value).ownBlock) (.slice Ao22 t569.length co22) t569) ∧ Aside0 (wc.heap[gb558]? = some (.cells #[.int .i64 t560, .int .i64 t561, .float .f64 b562, (.slice Ao18 t563.length co18)] 25 (0, 0))) ∧ Aside0 (wc.heap[gb559]? = some (.cells #[.int .i64 t566, .int .i64 t567, .float .f64 b568, (.slice Ao22 t569.length co22)] 25 (0, 0))) ∧ Aside0 (Below w.heap.size w wc))
  case first =>
   have H := HC7.out
   clear HC7
   replace H := Option.bind_eq_some_iff.mp H
   obtain ⟨t572, A230, H⟩ := H
   (try dsimp only at H)
   have A23 := Aside0.mk A230
   clear A230
   by_cases c24 : t572 = true
   ·subst c24
    rw [if_pos rfl] at H
    (try dsimp only at H)
    replace H := Option.bind_eq_some_iff.mp H
    obtain ⟨t573, A250, H⟩ := H
    (try dsimp only at H)
    have A25 := Aside0.mk A250
    clear A250
    have H' := Aside0.mk H
    clear H
    have hnb26 := NB558_559.out
    have hnc26 := NB559_558.out
    obtain ⟨hcz27_0, hcz27_1, hcz27_2, hcz27_3⟩ := blk_cells4 BK558.out
    obtain ⟨hfz27_0, hfz27_1, hfz27_2, hfz27_3⟩ := blk_frozens4 BK558.out
    go_wp2_with (first | ((with_reducible refine gate_callee (f := 22) rfl ?_); refine goesL_ (some 28) rfl rfl Try.func22 (by kernel_rfl) rfl #[.agg #[.int .i64 t560, .int .i64 t561, .float .f64 b562, .slice Ao18 t563.length co18]] rfl (by (try simp only [List.map_toArray, List.map_cons, List.map_nil]); first | done | rfl) ?_; (with_reducible refine (spec_KeyOk.calls k t560 t561 b562 _ _ t563 true _ ?side1 ?side2 ((spec_KeyOk.inv0 _ _ _ _ _).symm.trans A23.out)).mono ?_); (case side1 => refine (Kd.R_reads' (e := 5) (base := w.heap.size) (ok := fun k_ => (((True ∧ some k_ ≠ (.slice Ao13 t549.length co13 : Value).ownBlock) ∧ some k_ ≠ (.slice Ao15 t555.length co15 : Value).ownBlock) ∧ some k_ ≠ (.slice Ao22 t569.length co22 : Value).ownBlock)) (n := t563.length) (c := co18) ?_).2.2; exact ((Kd.roff1 HO565.out BK559.out (by decide)))); (case side2 => exact (Kd.R_reads' HO565.out).2.1); rintro e w28 ⟨rfl, hb⟩; refine ⟨_, rfl, ?_⟩; have n0_ := Aside0.mk (Kd.R_below ((Kd.roff1 HO551.out BK559.out (by decide))) hb); have n1_ := Aside0.mk (Kd.R_below ((Kd.roff1 HO557.out BK559.out (by decide))) hb); have n2_ := Aside0.mk (Kd.R_below ((Kd.roff1 HO565.out BK559.out (by decide))) hb); have n3_ := Aside0.mk (Kd.R_below ((Kd.roff1 HO571.out BK559.out (by decide))) hb); have n4_ := Aside0.mk (blk_below (g := gb558) (o := .cells #[.int .i64 t560, .int .i64 t561, .float .f64 b562, .slice Ao18 t563.length co18] 25 (0, 0)) (bput BK558.out) hb); have n5_ := Aside0.mk (blk_below (g := gb559) (o := .cells #[.int .i64 t566, .int .i64 t567, .float .f64 b568, .slice Ao22 t569.length co22] 25 (0, 0)) (bput BK559.out) hb); have n6_ := Aside0.mk (below_step (hset HB.out) hb); clear HO551; clear HO557; clear HO565; clear HO571; clear BK558; clear BK559; clear HB; have HO551 := n0_; have HO557 := n1_; have HO565 := n2_; have HO571 := n3_; have BK558 := n4_; have BK559 := n5_; have HB := n6_; clear n0_ n1_ n2_ n3_ n4_ n5_ n6_; (try clear hb); (try clear hb2); (try clear hk); (try clear hi); obtain ⟨hcz29_0, hcz29_1, hcz29_2, hcz29_3⟩ := blk_cells4 BK559.out; obtain ⟨hfz29_0, hfz29_1, hfz29_2, hfz29_3⟩ := blk_frozens4 BK559.out) | (go_at_call 22; (with_reducible refine (spec_KeyOk.calls k t566 t567 b568 _ _ t569 t573 _ ?side1 ?side2 ((spec_KeyOk.inv0 _ _ _ _ _).symm.trans A25.out)).mono ?_); (case side1 => repeat (first | exact (Kd.R_reads' HO571.out).2.2 | (with_reducible refine Kd.C_alloc ?_ _) | (with_reducible refine Kd.C_drewN ?_ _) | (with_reducible refine Kd.C_drew ?_))); (case side2 => exact (Kd.R_reads' HO571.out).2.1); rintro e w30 ⟨rfl, hb⟩; have n0_ := Aside0.mk (Kd.R_below (Kd.rup HO551.out) hb); have n1_ := Aside0.mk (Kd.R_below (Kd.rup HO557.out) hb); have n2_ := Aside0.mk (Kd.R_below (Kd.rup HO565.out) hb); have n3_ := Aside0.mk (Kd.R_below (Kd.rup HO571.out) hb); have n4_ := Aside0.mk (blk_below (bup BK558.out) hb); have n5_ := Aside0.mk (blk_below (bup BK559.out) hb); have n6_ := Aside0.mk (below_step (hset HB.out) hb); clear HO551; clear HO557; clear HO565; clear HO571; clear BK558; clear BK559; clear HB; have HO551 := n0_; have HO557 := n1_; have HO565 := n2_; have HO571 := n3_; have BK558 := n4_; have BK559 := n5_; have HB := n6_; clear n0_ n1_ n2_ n3_ n4_ n5_ n6_; (try clear hb); (try clear hb2); (try clear hk); (try clear hi)))
    go_meet
    case rel => exact ⟨_, (!t573), (by first | rfl | (simp; done) | (simp [*]; done) | (exfalso; simp_all; done)), H', ⟨by first | omega | exact Nat.le_refl _⟩, ⟨by exact Kd.rup (Kd.R_mono HO565.out (fun _ hk => hk.2))⟩, ⟨by exact Kd.rup (Kd.R_mono HO571.out (fun _ hk => hk.2))⟩, ⟨by exact bup BK558.out⟩, ⟨by exact bup BK559.out⟩, ⟨hset HB.out⟩⟩
   ·replace c24 := Bool.eq_false_iff.mpr c24
    subst c24
    rw [if_neg (show ¬ (false = true) by decide)] at H
    (try dsimp only at H)
    have H' := Aside0.mk H
    clear H
    have hnb31 := NB558_559.out
    have hnc31 := NB559_558.out
    obtain ⟨hcz32_0, hcz32_1, hcz32_2, hcz32_3⟩ := blk_cells4 BK558.out
    obtain ⟨hfz32_0, hfz32_1, hfz32_2, hfz32_3⟩ := blk_frozens4 BK558.out
    go_wp2_with (first | ((with_reducible refine gate_callee (f := 22) rfl ?_); refine goesL_ (some 28) rfl rfl Try.func22 (by kernel_rfl) rfl #[.agg #[.int .i64 t560, .int .i64 t561, .float .f64 b562, .slice Ao18 t563.length co18]] rfl (by (try simp only [List.map_toArray, List.map_cons, List.map_nil]); first | done | rfl) ?_; (with_reducible refine (spec_KeyOk.calls k t560 t561 b562 _ _ t563 false _ ?side1 ?side2 ((spec_KeyOk.inv0 _ _ _ _ _).symm.trans A23.out)).mono ?_); (case side1 => refine (Kd.R_reads' (e := 5) (base := w.heap.size) (ok := fun k_ => (((True ∧ some k_ ≠ (.slice Ao13 t549.length co13 : Value).ownBlock) ∧ some k_ ≠ (.slice Ao15 t555.length co15 : Value).ownBlock) ∧ some k_ ≠ (.slice Ao22 t569.length co22 : Value).ownBlock)) (n := t563.length) (c := co18) ?_).2.2; exact ((Kd.roff1 HO565.out BK559.out (by decide)))); (case side2 => exact (Kd.R_reads' HO565.out).2.1); rintro e w33 ⟨rfl, hb⟩; refine ⟨_, rfl, ?_⟩; have n0_ := Aside0.mk (Kd.R_below ((Kd.roff1 HO551.out BK559.out (by decide))) hb); have n1_ := Aside0.mk (Kd.R_below ((Kd.roff1 HO557.out BK559.out (by decide))) hb); have n2_ := Aside0.mk (Kd.R_below ((Kd.roff1 HO565.out BK559.out (by decide))) hb); have n3_ := Aside0.mk (Kd.R_below ((Kd.roff1 HO571.out BK559.out (by decide))) hb); have n4_ := Aside0.mk (blk_below (g := gb558) (o := .cells #[.int .i64 t560, .int .i64 t561, .float .f64 b562, .slice Ao18 t563.length co18] 25 (0, 0)) (bput BK558.out) hb); have n5_ := Aside0.mk (blk_below (g := gb559) (o := .cells #[.int .i64 t566, .int .i64 t567, .float .f64 b568, .slice Ao22 t569.length co22] 25 (0, 0)) (bput BK559.out) hb); have n6_ := Aside0.mk (below_step (hset HB.out) hb); clear HO551; clear HO557; clear HO565; clear HO571; clear BK558; clear BK559; clear HB; have HO551 := n0_; have HO557 := n1_; have HO565 := n2_; have HO571 := n3_; have BK558 := n4_; have BK559 := n5_; have HB := n6_; clear n0_ n1_ n2_ n3_ n4_ n5_ n6_; (try clear hb); (try clear hb2); (try clear hk); (try clear hi)))
    go_meet
    case rel => exact ⟨_, (true), (by first | rfl | (simp; done) | (simp [*]; done) | (exfalso; simp_all; done)), H', ⟨by first | omega | exact Nat.le_refl _⟩, ⟨by exact Kd.rup (Kd.R_mono HO565.out (fun _ hk => hk.2))⟩, ⟨by exact Kd.rup (Kd.R_mono HO571.out (fun _ hk => hk.2))⟩, ⟨by exact bup BK558.out⟩, ⟨by exact bup BK559.out⟩, ⟨hset HB.out⟩⟩
  case rest =>
   clear HC7
   try clear c1
   try clear c2
   try clear p2
   try clear c3
   try clear c5
   try clear c11
   try clear c19
   try clear c20
   try clear c21
   try clear c22
   try clear c24
   try clear c26
   try clear c31
   try clear hcz12_0
   try clear hcz12_1
   try clear hcz12_2
   try clear hcz12_3
   try clear hcz14_0
   try clear hcz14_1
   try clear hcz14_2
   try clear hcz14_3
   try clear hcz17_0
   try clear hcz17_1
   try clear hcz17_2
   try clear hcz17_3
   try clear hcz19_0
   try clear hcz19_1
   try clear hcz19_2
   try clear hcz19_3
   try clear hcz21_0
   try clear hcz21_1
   try clear hcz21_2
   try clear hcz21_3
   try clear hcz27_0
   try clear hcz27_1
   try clear hcz27_2
   try clear hcz27_3
   try clear hcz29_0
   try clear hcz29_1
   try clear hcz29_2
   try clear hcz29_3
   try clear hcz32_0
   try clear hcz32_1
   try clear hcz32_2
   try clear hcz32_3
   try clear hfz12_0
   try clear hfz12_1
   try clear hfz12_2
   try clear hfz12_3
   try clear hfz14_0
   try clear hfz14_1
   try clear hfz14_2
   try clear hfz14_3
   try clear hfz17_0
   try clear hfz17_1
   try clear hfz17_2
   try clear hfz17_3
   try clear hfz19_0
   try clear hfz19_1
   try clear hfz19_2
   try clear hfz19_3
   try clear hfz21_0
   try clear hfz21_1
   try clear hfz21_2
   try clear hfz21_3
   try clear hfz27_0
   try clear hfz27_1
   try clear hfz27_2
   try clear hfz27_3
   try clear hfz29_0
   try clear hfz29_1
   try clear hfz29_2
   try clear hfz29_3
   try clear hfz32_0
   try clear hfz32_1
   try clear hfz32_2
   try clear hfz32_3
   obtain ⟨kq, x34_6, rfl, HA, HJ6, HO_559003, HO_560003, BK558, BK559, HB⟩ := hcut
   cases kq with
   | zero => exact absurd HA.out (by simp [laws_FnKeys.j0])
   | succ kj6 =>
    have H := HA.out
    clear HA
    simp only [laws_FnKeys.j0] at H
    by_cases c34 : x34_6 = true
    ·subst c34
     rw [if_pos rfl] at H
     (try dsimp only at H)
     replace H := Option.bind_eq_some_iff.mp H
     obtain ⟨t574, A350, H⟩ := H
     (try dsimp only at H)
     have A35 := Aside0.mk A350
     clear A350
     replace H := Option.bind_eq_some_iff.mp H
     obtain ⟨t575, A360, H⟩ := H
     (try dsimp only at H)
     have A36 := Aside0.mk A360
     clear A360
     obtain rfl := Option.some.inj H
     try go_wp2
     have n0_ := Aside0.mk (Kd.R_drew HO_559003.out)
     have n1_ := Aside0.mk (Kd.R_drew HO_560003.out)
     have n2_ := Aside0.mk (blk_drew BK558.out)
     have n3_ := Aside0.mk (blk_drew BK559.out)
     have n4_ := Aside0.mk (below_drew1 HB.out)
     clear HO_559003
     clear HO_560003
     clear BK558
     clear BK559
     clear HB
     have HO_559003 := n0_
     have HO_560003 := n1_
     have BK558 := n2_
     have BK559 := n3_
     have HB := n4_
     clear n0_ n1_ n2_ n3_ n4_
     refine start_ (n := 6) (S := fun w' => w'.cell? ⟨gb558, 0, none⟩ = some (.int .i64 t560) ∧ w'.cell? ⟨gb558, 1, none⟩ = some (.int .i64 t561) ∧ w'.cell? ⟨gb558, 2, none⟩ = some (.float .f64 b562) ∧ w'.cell? ⟨gb558, 3, none⟩ = some (.slice Ao18 t563.length co18)) (ds := []) #[false, false, false, false, false, false] (by kernel_rfl) rfl rfl (blk_cells4 BK558.out) (fun hHeld => ?_)
     generalize wc.drew = w37 at HO_559003 HO_560003 BK558 BK559 HB hHeld ⊢
     refine take_ (i := 0) (N := some 35) (v := ?_) (a' := ?_) #[true, false, false, false, false, false] rfl rfl (by kernel_rfl) (fun _ _ _ h => h) (Or.inl ⟨by rfl, ?_⟩) hHeld ?_ ?_
     rotate_left
     ·rintro w' ⟨s0, s1, s2, s3⟩
      go_simp
      with_reducible rfl
     rotate_left
     ·simp only [Act.put, List.setIfInBounds_toArray, List.set_cons_zero, List.set_cons_succ, i64_w, i32_w]
      rfl
     refine take_ (i := 2) (N := some 37) (v := ?_) (a' := ?_) #[true, false, true, false, false, false] rfl rfl (by kernel_rfl) (fun _ _ _ h => h) (Or.inl ⟨by rfl, ?_⟩) hHeld ?_ ?_
     rotate_left
     ·rintro w' ⟨s0, s1, s2, s3⟩
      go_simp
      with_reducible rfl
     rotate_left
     ·simp only [Act.put, List.setIfInBounds_toArray, List.set_cons_zero, List.set_cons_succ, i64_w, i32_w]
      rfl
     refine one_ (i := 1) (N := some 36) #[true, true, true, false, false, false] rfl rfl (by kernel_rfl) (by decide) (fun K hK => ?_)
     refine goes_ Try.func23 (by kernel_rfl) rfl #[.agg #[.int .i64 t560, .int .i64 t561, .float .f64 b562, .slice Ao18 t563.length co18]] (by rfl) rfl rfl (by (try simp only [List.map_toArray, List.map_cons, List.map_nil]); first | done | rfl) ?_
     with_reducible refine (impl_KeyOk.calls t560 t561 b562 _ _ t563 t574 _ ?side1 ?side2 ((impl_KeyOk.inv0 _ _ _ _).symm.trans A35.out)).mono ?_
     (case side1 => repeat (first | exact (Kd.R_reads' HO_559003.out).2.2 | (with_reducible refine Kd.C_alloc ?_ _) | (with_reducible refine Kd.C_drewN ?_ _) | (with_reducible refine Kd.C_drew ?_)))
     (case side2 => exact (Kd.R_reads' HO_559003.out).2.1)
     rintro e w38 ⟨rfl, hb⟩
     refine ⟨_, rfl, ?_⟩
     have n0_ := Aside0.mk (Kd.R_below (Kd.rup HO_559003.out) hb)
     have n1_ := Aside0.mk (Kd.R_below (Kd.rup HO_560003.out) hb)
     have n2_ := Aside0.mk (blk_below (bup BK558.out) hb)
     have n3_ := Aside0.mk (blk_below (bup BK559.out) hb)
     have n4_ := Aside0.mk (below_step (hset HB.out) hb)
     clear HO_559003
     clear HO_560003
     clear BK558
     clear BK559
     clear HB
     have HO_559003 := n0_
     have HO_560003 := n1_
     have BK558 := n2_
     have BK559 := n3_
     have HB := n4_
     clear n0_ n1_ n2_ n3_ n4_
     (try clear hb)
     (try clear hb2)
     (try clear hk)
     (try clear hi)
     refine hK.out _ _ (blk_cells4 BK558.out) (fun hHeld => ?_)
     clear hK K
     refine norm_ (a' := ?_) ?_ ?_
     rotate_left
     ·show Act.put _ (some 36) _ = _
      simp only [Act.put, List.setIfInBounds_toArray, List.set_cons_zero, List.set_cons_succ, i64_w, i32_w]
      rfl
     refine one_ (i := 3) (N := some 38) #[true, true, true, true, false, false] rfl rfl (by kernel_rfl) (by decide) (fun K hK => ?_)
     refine goes_ Try.func22 (by kernel_rfl) rfl #[.agg #[.int .i64 t560, .int .i64 t561, .float .f64 b562, .slice Ao18 t563.length co18]] (by rfl) rfl rfl (by (try simp only [List.map_toArray, List.map_cons, List.map_nil]); first | done | rfl) ?_
     with_reducible refine (spec_KeyOk.calls kj6 t560 t561 b562 _ _ t563 t575 _ ?side1 ?side2 ((spec_KeyOk.inv0 _ _ _ _ _).symm.trans A36.out)).mono ?_
     (case side1 => repeat (first | exact (Kd.R_reads' HO_559003.out).2.2 | (with_reducible refine Kd.C_alloc ?_ _) | (with_reducible refine Kd.C_drewN ?_ _) | (with_reducible refine Kd.C_drew ?_)))
     (case side2 => exact (Kd.R_reads' HO_559003.out).2.1)
     rintro e w39 ⟨rfl, hb⟩
     refine ⟨_, rfl, ?_⟩
     have n0_ := Aside0.mk (Kd.R_below (Kd.rup HO_559003.out) hb)
     have n1_ := Aside0.mk (Kd.R_below (Kd.rup HO_560003.out) hb)
     have n2_ := Aside0.mk (blk_below (bup BK558.out) hb)
     have n3_ := Aside0.mk (blk_below (bup BK559.out) hb)
     have n4_ := Aside0.mk (below_step (hset HB.out) hb)
     clear HO_559003
     clear HO_560003
     clear BK558
     clear BK559
     clear HB
     have HO_559003 := n0_
     have HO_560003 := n1_
     have BK558 := n2_
     have BK559 := n3_
     have HB := n4_
     clear n0_ n1_ n2_ n3_ n4_
     (try clear hb)
     (try clear hb2)
     (try clear hk)
     (try clear hi)
     refine hK.out _ _ (blk_cells4 BK558.out) (fun hHeld => ?_)
     clear hK K
     refine norm_ (a' := ?_) ?_ ?_
     rotate_left
     ·show Act.put _ (some 38) _ = _
      simp only [Act.put, List.setIfInBounds_toArray, List.set_cons_zero, List.set_cons_succ, i64_w, i32_w]
      rfl
     refine pure_ (i := 4) (N := some 39) (v := ?_) (a' := ?_) #[true, true, true, true, true, false] rfl rfl (by kernel_rfl) (fun _ _ _ h => h) (Or.inl ⟨by rfl, ?_⟩) ?_ ?_
     rotate_left
     ·intro w'
      go_simp
      with_reducible rfl
     rotate_left
     ·simp only [Act.put, List.setIfInBounds_toArray, List.set_cons_zero, List.set_cons_succ, i64_w, i32_w]
      rfl
     refine pure_ (i := 5) (N := some 2) (v := ?_) (a' := ?_) #[true, true, true, true, true, true] rfl rfl (by kernel_rfl) (fun _ _ _ h => h) (Or.inl ⟨by rfl, ?_⟩) ?_ ?_
     rotate_left
     ·intro w'
      go_simp
      with_reducible rfl
     rotate_left
     ·simp only [Act.put, List.setIfInBounds_toArray, List.set_cons_zero, List.set_cons_succ, i64_w, i32_w]
      rfl
     refine done_ (by kernel_rfl) ?_
     try go_wp2
     go_ret
     exact ⟨by first | rfl | (simp [errW_none, errW_some] <;> rfl) | (simp [*, errW_none, errW_some] <;> rfl), hset HB.out⟩
    ·replace c34 := Bool.eq_false_iff.mpr c34
     subst c34
     rw [if_neg (show ¬ (false = true) by decide)] at H
     (try dsimp only at H)
     replace H := Option.bind_eq_some_iff.mp H
     obtain ⟨t576, A400, H⟩ := H
     (try dsimp only at H)
     have A40 := Aside0.mk A400
     clear A400
     replace H := Option.bind_eq_some_iff.mp H
     obtain ⟨t579, A410, H⟩ := H
     (try dsimp only at H)
     have A41 := Aside0.mk A410
     clear A410
     replace H := Option.bind_eq_some_iff.mp H
     obtain ⟨⟨t582, t583, t584, t585, t588⟩, A420, H⟩ := H
     (try dsimp only at H)
     have A42 := Aside0.mk A420
     clear A420
     have HC43 := Aside0.mk H
     clear H
     have hnb44 := NB558_559.out
     have hnc44 := NB559_558.out
     obtain ⟨hcz45_0, hcz45_1, hcz45_2, hcz45_3⟩ := blk_cells4 BK558.out
     obtain ⟨hfz45_0, hfz45_1, hfz45_2, hfz45_3⟩ := blk_frozens4 BK558.out
     go_upto_region 11 with (first | ((with_reducible refine gate_callee (f := 24) rfl ?_); refine goesL_ (some 41) rfl rfl Try.func24 (by kernel_rfl) rfl #[.agg #[.int .i64 t560, .int .i64 t561, .float .f64 b562, .slice Ao18 t563.length co18]] rfl (by (try simp only [List.map_toArray, List.map_cons, List.map_nil]); first | done | rfl) ?_; (with_reducible refine (impl_KeyBytes.calls kj6 t560 t561 b562 _ _ t563 t576 _ ?side1 ?side2 ((impl_KeyBytes.inv0 _ _ _ _ _).symm.trans A40.out)).mono ?_); (case side1 => repeat (first | exact (Kd.R_reads' HO_559003.out).2.2 | (with_reducible refine Kd.C_alloc ?_ _) | (with_reducible refine Kd.C_drewN ?_ _) | (with_reducible refine Kd.C_drew ?_))); (case side2 => exact (Kd.R_reads' HO_559003.out).2.1); rintro e w46 ⟨v577, rfl, ho0, hb⟩; refine ⟨_, rfl, ?_⟩; have n0_ := Aside0.mk (Kd.R_elder' (Kd.rup HO_559003.out) (Kd.R_base ho0) hb); have n1_ := Aside0.mk (Kd.R_elder' (Kd.rup HO_560003.out) (Kd.R_base ho0) hb); have n2_ := Aside0.mk (Kd.R_lower (Kd.R_new' (Kd.R_new' ho0 (Kd.R_lt (Kd.rup HO_559003.out))) (Kd.R_lt (Kd.rup HO_560003.out))) (below_size (hset HB.out))); have n3_ := Aside0.mk (blk_below (bup BK558.out) hb); have n4_ := Aside0.mk (blk_below (bup BK559.out) hb); have n5_ := Aside0.mk (below_step (hset HB.out) hb); clear HO_559003; clear HO_560003; clear BK558; clear BK559; clear HB; have HO_559003 := n0_; have HO_560003 := n1_; have HO578 := n2_; have BK558 := n3_; have BK559 := n4_; have HB := n5_; clear n0_ n1_ n2_ n3_ n4_ n5_; (try clear hb); (try clear hb2); (try clear hk); (try clear hi); (try clear ho0); obtain ⟨hcz47_0, hcz47_1, hcz47_2, hcz47_3⟩ := blk_cells4 BK559.out; obtain ⟨hfz47_0, hfz47_1, hfz47_2, hfz47_3⟩ := blk_frozens4 BK559.out) | ((with_reducible refine gate_callee (f := 24) rfl ?_); refine goesL_ (some 43) rfl rfl Try.func24 (by kernel_rfl) rfl #[.agg #[.int .i64 t566, .int .i64 t567, .float .f64 b568, .slice Ao22 t569.length co22]] rfl (by (try simp only [List.map_toArray, List.map_cons, List.map_nil]); first | done | rfl) ?_; (with_reducible refine (impl_KeyBytes.calls kj6 t566 t567 b568 _ _ t569 t579 _ ?side1 ?side2 ((impl_KeyBytes.inv0 _ _ _ _ _).symm.trans A41.out)).mono ?_); (case side1 => repeat (first | exact (Kd.R_reads' HO_560003.out).2.2 | (with_reducible refine Kd.C_alloc ?_ _) | (with_reducible refine Kd.C_drewN ?_ _) | (with_reducible refine Kd.C_drew ?_))); (case side2 => exact (Kd.R_reads' HO_560003.out).2.1); rintro e w48 ⟨v580, rfl, ho0, hb⟩; refine ⟨_, rfl, ?_⟩; have n0_ := Aside0.mk (Kd.R_elder' (Kd.rup HO_559003.out) (Kd.R_base ho0) hb); have n1_ := Aside0.mk (Kd.R_elder' (Kd.rup HO_560003.out) (Kd.R_base ho0) hb); have n2_ := Aside0.mk (Kd.R_elder' (Kd.rup HO578.out) (Kd.R_base ho0) hb); have n3_ := Aside0.mk (Kd.R_lower (Kd.R_new' (Kd.R_new' (Kd.R_new' ho0 (Kd.R_lt (Kd.rup HO_559003.out))) (Kd.R_lt (Kd.rup HO_560003.out))) (Kd.R_lt (Kd.rup HO578.out))) (below_size (hset HB.out))); have n4_ := Aside0.mk (blk_below (bup BK558.out) hb); have n5_ := Aside0.mk (blk_below (bup BK559.out) hb); have n6_ := Aside0.mk (below_step (hset HB.out) hb); clear HO_559003; clear HO_560003; clear HO578; clear BK558; clear BK559; clear HB; have HO_559003 := n0_; have HO_560003 := n1_; have HO578 := n2_; have HO581 := n3_; have BK558 := n4_; have BK559 := n5_; have HB := n6_; clear n0_ n1_ n2_ n3_ n4_ n5_ n6_; (try clear hb); (try clear hb2); (try clear hk); (try clear hi); (try clear ho0); obtain ⟨Ao49, co49, eo49⟩ := Kd.R_slice HO578.out; subst eo49) | ((with_reducible refine gate_callee (f := 18) rfl ?_); refine goesL_ (some 46) rfl rfl Try.func18 (by kernel_rfl) rfl #[.slice Ao49 t576.length co49] rfl (by (try simp only [List.map_toArray, List.map_cons, List.map_nil]); first | done | rfl) ?_; (with_reducible refine (impl_KeyRead.calls kj6 _ _ t576 t582 t583 t584 t585 t588 _ ?side1 ?side2 A42.out).mono ?_); (case side1 => repeat (first | exact (Kd.R_reads' HO578.out).2.2 | (with_reducible refine Kd.C_alloc ?_ _) | (with_reducible refine Kd.C_drewN ?_ _) | (with_reducible refine Kd.C_drew ?_))); (case side2 => exact (Kd.R_reads' HO578.out).2.1); rintro e w50 ⟨v586, rfl, ho0, hb⟩; refine ⟨_, rfl, ?_⟩; have n0_ := Aside0.mk (Kd.R_elder' (Kd.rup HO_559003.out) (Kd.R_base ho0) hb); have n1_ := Aside0.mk (Kd.R_elder' (Kd.rup HO_560003.out) (Kd.R_base ho0) hb); have n2_ := Aside0.mk (Kd.R_elder' (Kd.rup HO578.out) (Kd.R_base ho0) hb); have n3_ := Aside0.mk (Kd.R_elder' (Kd.rup HO581.out) (Kd.R_base ho0) hb); have n4_ := Aside0.mk (Kd.R_lower (Kd.R_new' (Kd.R_new' (Kd.R_new' (Kd.R_new' ho0 (Kd.R_lt (Kd.rup HO_559003.out))) (Kd.R_lt (Kd.rup HO_560003.out))) (Kd.R_lt (Kd.rup HO578.out))) (Kd.R_lt (Kd.rup HO581.out))) (below_size (hset HB.out))); have n5_ := Aside0.mk (blk_below (bup BK558.out) hb); have n6_ := Aside0.mk (blk_below (bup BK559.out) hb); have n7_ := Aside0.mk (below_step (hset HB.out) hb); clear HO_559003; clear HO_560003; clear HO578; clear HO581; clear BK558; clear BK559; clear HB; have HO_559003 := n0_; have HO_560003 := n1_; have HO578 := n2_; have HO581 := n3_; have HO587 := n4_; have BK558 := n5_; have BK559 := n6_; have HB := n7_; clear n0_ n1_ n2_ n3_ n4_ n5_ n6_ n7_; (try clear hb); (try clear hb2); (try clear hk); (try clear hi); (try clear ho0)) | ((with_reducible refine gate_dst (N := 7) rfl ?_); refine box_event ?hg (N := 7) ?hd (cs := #[.int .i64 0, .int .i64 0, .float .f64 0, .slice none 0 0]) (t := 25) ?hr ?_; (case hd => rfl); (case hg => rfl); (case hr => first | (go_simp; done) | (go_simp; rfl)); intro gb589 hg w51 hbox hb; have n0_ := Aside0.mk (Kd.R_below (Kd.rup HO_559003.out) hb); have n1_ := Aside0.mk (Kd.R_below (Kd.rup HO_560003.out) hb); have n2_ := Aside0.mk (Kd.R_below (Kd.rup HO578.out) hb); have n3_ := Aside0.mk (Kd.R_below (Kd.rup HO581.out) hb); have n4_ := Aside0.mk (Kd.R_below (Kd.rup HO587.out) hb); have n5_ := Aside0.mk (blk_below (bup BK558.out) hb); have n6_ := Aside0.mk (blk_below (bup BK559.out) hb); have n7_ := Aside0.mk (below_step (hset HB.out) hb); have n8_ := Aside0.mk (hbox); have n9_ := Geq.mk ((by rw [hg]; exact (below_size (hset HB.out)) : w.heap.size ≤ gb589)); have n10_ := Geq.mk ((by rw [hg]; exact (below_size (hset HB.out)) : w.heap.size ≤ gb589)); have n11_ := Neq.mk ((by rw [hg]; exact Nat.ne_of_lt (blk_lt (g := gb558) (o := .cells #[.int .i64 t560, .int .i64 t561, .float .f64 b562, .slice Ao18 t563.length co18] 25 (0, 0)) (bup BK558.out)) : gb558 ≠ gb589)); have n12_ := Neq.mk ((by rw [hg]; exact Nat.ne_of_gt (blk_lt (g := gb558) (o := .cells #[.int .i64 t560, .int .i64 t561, .float .f64 b562, .slice Ao18 t563.length co18] 25 (0, 0)) (bup BK558.out)) : gb589 ≠ gb558)); have n13_ := Neq.mk ((by rw [hg]; exact Nat.ne_of_lt (blk_lt (g := gb559) (o := .cells #[.int .i64 t566, .int .i64 t567, .float .f64 b568, .slice Ao22 t569.length co22] 25 (0, 0)) (bup BK559.out)) : gb559 ≠ gb589)); have n14_ := Neq.mk ((by rw [hg]; exact Nat.ne_of_gt (blk_lt (g := gb559) (o := .cells #[.int .i64 t566, .int .i64 t567, .float .f64 b568, .slice Ao22 t569.length co22] 25 (0, 0)) (bup BK559.out)) : gb589 ≠ gb559)); clear HO_559003; clear HO_560003; clear HO578; clear HO581; clear HO587; clear BK558; clear BK559; clear HB; have HO_559003 := n0_; have HO_560003 := n1_; have HO578 := n2_; have HO581 := n3_; have HO587 := n4_; have BK558 := n5_; have BK559 := n6_; have HB := n7_; have BK589 := n8_; have GW589 := n9_; have GE589 := n10_; have NB558_589 := n11_; have NB589_558 := n12_; have NB559_589 := n13_; have NB589_559 := n14_; clear n0_ n1_ n2_ n3_ n4_ n5_ n6_ n7_ n8_ n9_ n10_ n11_ n12_ n13_ n14_; clear hb hbox hg; have hnb52 := NB589_558.out; have hnc52 := NB558_589.out; have hnb53 := NB589_559.out; have hnc53 := NB559_589.out; obtain ⟨hcz54_0, hcz54_1, hcz54_2, hcz54_3⟩ := blk_cells4 BK589.out; obtain ⟨hfz54_0, hfz54_1, hfz54_2, hfz54_3⟩ := blk_frozens4 BK589.out; obtain ⟨Ao55, co55, eo55⟩ := Kd.R_slice HO587.out; subst eo55))
     (try simp only [Act.put, List.setIfInBounds_toArray, List.set_cons_zero, List.set_cons_succ])
     go_cut [56] (fun v56 wc => ∃ (kq : Nat) (x56_42 : Bool), v56 = .bool x56_42 ∧ Aside0 (laws_FnKeys.j1 kq l0 t576 t579 x56_42 t560 t561 (cn b562) t563 t566 t567 (cn b568) t569 = some r) ∧ Aside0 (kq ≤ kj6) ∧ Aside0 (Kd.R (Kd.int .u8) 5 wc w.heap.size (fun k_ => some k_ ≠ (v580 : Value).ownBlock ∧ some k_ ≠ ((.slice Ao18 t563.length co18) : Value).ownBlock ∧ some k_ ≠ ((.slice Ao22 t569.length co22) : Value).ownBlock ∧ some k_ ≠ ((.slice Ao55 t585.length co55) : Value).ownBlock) (.slice Ao49 t576.length co49) t576) ∧ Aside0 (Kd.R (Kd.int .u8) 5 wc w.heap.size (fun k_ => some k_ ≠ ((.slice Ao49 t576.length co49) : Value).ownBlock ∧ some k_ ≠ ((.slice Ao18 t563.length co18) : Value).ownBlock ∧ some k_ ≠ ((.slice Ao22 t569.length co22) : Value).ownBlock ∧ some k_ ≠ ((.slice Ao55 t585.length co55) : Value).ownBlock) v580 t579) ∧ Aside0 (Kd.R (Kd.int .u8) 5 wc w.heap.size (fun k_ => some k_ ≠ ((.slice Ao49 t576.length co49) : Value).ownBlock ∧ some k_ ≠ (v580 : Value).ownBlock ∧ some k_ ≠ ((.slice Ao22 t569.length co22) : Value).ownBlock ∧ some k_ ≠ ((.slice Ao55 t585.length co55) : Value).ownBlock) (.slice Ao18 t563.length co18) t563) ∧ Aside0 (Kd.R (Kd.int .u8) 5 wc w.heap.size (fun k_ => some k_ ≠ ((.slice Ao49 t576.length co49) : Value).ownBlock ∧ some k_ ≠ (v580 : Value).ownBlock ∧ some k_ ≠ ((.slice Ao18 t563.length co18) : Value).ownBlock ∧ some k_ ≠ ((.slice Ao55 t585.length co55) : Value).ownBlock) (.slice Ao22 t569.length co22) t569) ∧ Aside0 (Kd.R (Kd.int .u8) 5 wc w.heap.size (fun k_ => some k_ ≠ ((.slice Ao49 t576.length co49) : Value).ownBlock ∧ some k_ ≠ (v580 : Value).ownBlock ∧ some k_ ≠ ((.slice Ao18 t563.length co18) : Value).ownBlock ∧ some k_ ≠ ((.slice Ao22 t569.length co22) : Value).ownBlock) (.slice Ao55 t585.length co55) t585) ∧ Aside0 (wc.heap[gb558]? = some (.cells #[.int .i64 t560, .int .i64 t561, .float .f64 b562, (.slice Ao18 t563.length co18)] 25 (0, 0))) ∧ Aside0 (wc.heap[gb559]? = some (.cells #[.int .i64 t566, .int .i64 t567, .float .f64 b568, (.slice Ao22 t569.length co22)] 25 (0, 0))) ∧ Aside0 (wc.heap[gb589]? = some (.cells #[.int .i64 t582, .int .i64 t583, .float .f64 t584, (.slice Ao55 t585.length co55)] 25 (0, 0))) ∧ Aside0 (Below w.heap.size w wc))
     case first =>
      have H := HC43.out
      clear HC43
      by_cases c56 : t588 = true
      ·subst c56
       rw [if_pos rfl] at H
       (try dsimp only at H)
       replace H := Option.bind_eq_some_iff.mp H
       obtain ⟨t590, A570, H⟩ := H
       (try dsimp only at H)
       have A57 := Aside0.mk A570
       clear A570
       have H' := Aside0.mk H
       clear H
       have hnb58 := NB589_558.out
       have hnc58 := NB558_589.out
       have hnb59 := NB589_559.out
       have hnc59 := NB559_589.out
       obtain ⟨hcz60_0, hcz60_1, hcz60_2, hcz60_3⟩ := blk_cells4 BK589.out
       obtain ⟨hfz60_0, hfz60_1, hfz60_2, hfz60_3⟩ := blk_frozens4 BK589.out
       have hnb61 := NB558_559.out
       have hnc61 := NB559_558.out
       obtain ⟨hcz62_0, hcz62_1, hcz62_2, hcz62_3⟩ := blk_cells4 BK558.out
       obtain ⟨hfz62_0, hfz62_1, hfz62_2, hfz62_3⟩ := blk_frozens4 BK558.out
       go_wp2_with (first | (go_at_call 25; (with_reducible refine (laws_sameItem.calls kj6 t582 t583 t584 _ _ t585 t560 t561 b562 _ _ t563 t590 _ ?side1 ?side2 ?side3 ?side4 ((laws_sameItem.inv1 _ _ _ _ _ _ _ _ _).symm.trans A57.out)).mono ?_); (case side1 => refine (Kd.R_reads' (e := 5) (base := w.heap.size) (ok := fun k_ => ((((True ∧ some k_ ≠ (.slice Ao18 t563.length co18 : Value).ownBlock) ∧ some k_ ≠ (.slice Ao22 t569.length co22 : Value).ownBlock) ∧ some k_ ≠ (.slice Ao49 t576.length co49 : Value).ownBlock) ∧ some k_ ≠ (v580 : Value).ownBlock)) (n := t585.length) (c := co55) ?_).2.2; exact ((Kd.roff1 HO587.out BK589.out (by decide)))); (case side2 => exact (Kd.R_reads' HO587.out).2.1); (case side3 => refine (Kd.R_reads' (e := 5) (base := w.heap.size) (ok := fun k_ => (((some k_ ≠ (.slice Ao22 t569.length co22 : Value).ownBlock ∧ some k_ ≠ (.slice Ao49 t576.length co49 : Value).ownBlock) ∧ some k_ ≠ (v580 : Value).ownBlock) ∧ some k_ ≠ (.slice Ao55 t585.length co55 : Value).ownBlock)) (n := t563.length) (c := co18) ?_).2.2; exact ((Kd.roff1 HO_559003.out BK589.out (by decide)))); (case side4 => exact (Kd.R_reads' HO_559003.out).2.1); rintro e w63 ⟨rfl, hb⟩; have n0_ := Aside0.mk (Kd.R_below ((Kd.roff1 HO_559003.out BK589.out (by decide))) hb); have n1_ := Aside0.mk (Kd.R_below ((Kd.roff1 HO_560003.out BK589.out (by decide))) hb); have n2_ := Aside0.mk (Kd.R_below ((Kd.roff1 HO578.out BK589.out (by decide))) hb); have n3_ := Aside0.mk (Kd.R_below ((Kd.roff1 HO581.out BK589.out (by decide))) hb); have n4_ := Aside0.mk (Kd.R_below ((Kd.roff1 HO587.out BK589.out (by decide))) hb); have n5_ := Aside0.mk (blk_below (g := gb558) (o := .cells #[.int .i64 t560, .int .i64 t561, .float .f64 b562, .slice Ao18 t563.length co18] 25 (0, 0)) (bput BK558.out) hb); have n6_ := Aside0.mk (blk_below (g := gb559) (o := .cells #[.int .i64 t566, .int .i64 t567, .float .f64 b568, .slice Ao22 t569.length co22] 25 (0, 0)) (bput BK559.out) hb); have n7_ := Aside0.mk (blk_below (g := gb589) (o := .cells #[.int .i64 t582, .int .i64 t583, .float .f64 t584, .slice Ao55 t585.length co55] 25 (0, 0)) (bput BK589.out) hb); have n8_ := Aside0.mk (below_step (hset HB.out) hb); clear HO_559003; clear HO_560003; clear HO578; clear HO581; clear HO587; clear BK558; clear BK559; clear BK589; clear HB; have HO_559003 := n0_; have HO_560003 := n1_; have HO578 := n2_; have HO581 := n3_; have HO587 := n4_; have BK558 := n5_; have BK559 := n6_; have BK589 := n7_; have HB := n8_; clear n0_ n1_ n2_ n3_ n4_ n5_ n6_ n7_ n8_; (try clear hb); (try clear hb2); (try clear hk); (try clear hi)))
       go_meet
       case rel => exact ⟨_, (!t590), (by first | rfl | (simp; done) | (simp [*]; done) | (exfalso; simp_all; done)), H', ⟨by have := HJ6.out; first | omega | exact Nat.le_refl _⟩, ⟨by exact Kd.rup (Kd.R_mono HO578.out (fun _ hk => ⟨hk.1.2, ⟨hk.1.1.1.2, ⟨hk.1.1.2, hk.2⟩⟩⟩))⟩, ⟨by exact Kd.rup (Kd.R_mono HO581.out (fun _ hk => ⟨hk.1.2, ⟨hk.1.1.1.2, ⟨hk.1.1.2, hk.2⟩⟩⟩))⟩, ⟨by exact Kd.rup (Kd.R_mono HO_559003.out (fun _ hk => ⟨hk.1.1.2, ⟨hk.1.2, ⟨hk.1.1.1, hk.2⟩⟩⟩))⟩, ⟨by exact Kd.rup (Kd.R_mono HO_560003.out (fun _ hk => ⟨hk.1.1.2, ⟨hk.1.2, ⟨hk.1.1.1, hk.2⟩⟩⟩))⟩, ⟨by exact Kd.rup (Kd.R_mono HO587.out (fun _ hk => ⟨hk.1.2, ⟨hk.2, ⟨hk.1.1.1.2, hk.1.1.2⟩⟩⟩))⟩, ⟨by exact bup BK558.out⟩, ⟨by exact bup BK559.out⟩, ⟨by exact bup BK589.out⟩, ⟨hset HB.out⟩⟩
      ·replace c56 := Bool.eq_false_iff.mpr c56
       subst c56
       rw [if_neg (show ¬ (false = true) by decide)] at H
       (try dsimp only at H)
       have H' := Aside0.mk H
       clear H
       go_wp2
       go_meet
       case rel => exact ⟨_, (true), (by first | rfl | (simp; done) | (simp [*]; done) | (exfalso; simp_all; done)), H', ⟨by have := HJ6.out; first | omega | exact Nat.le_refl _⟩, ⟨by exact Kd.rup (Kd.R_mono (Kd.R_far (p := ⟨gb589, 3, none⟩) (Kd.R_far (p := ⟨gb589, 2, none⟩) (Kd.R_far (p := ⟨gb589, 1, none⟩) (Kd.R_far (p := ⟨gb589, 0, none⟩) (Kd.R_types HO578.out BK589.out (by decide)) (fun _ hk => hk.2) (.int .i64 t582)) (fun _ hk => hk.2) (.int .i64 t583)) (fun _ hk => hk.2) (.float .f64 t584)) (fun _ hk => hk.2) (.slice Ao55 t585.length co55)) (fun _ hk => ⟨hk.1.1.2, ⟨hk.1.1.1.1.2, ⟨hk.1.1.1.2, hk.1.2⟩⟩⟩))⟩, ⟨by exact Kd.rup (Kd.R_mono (Kd.R_far (p := ⟨gb589, 3, none⟩) (Kd.R_far (p := ⟨gb589, 2, none⟩) (Kd.R_far (p := ⟨gb589, 1, none⟩) (Kd.R_far (p := ⟨gb589, 0, none⟩) (Kd.R_types HO581.out BK589.out (by decide)) (fun _ hk => hk.2) (.int .i64 t582)) (fun _ hk => hk.2) (.int .i64 t583)) (fun _ hk => hk.2) (.float .f64 t584)) (fun _ hk => hk.2) (.slice Ao55 t585.length co55)) (fun _ hk => ⟨hk.1.1.2, ⟨hk.1.1.1.1.2, ⟨hk.1.1.1.2, hk.1.2⟩⟩⟩))⟩, ⟨by exact Kd.rup (Kd.R_mono (Kd.R_far (p := ⟨gb589, 3, none⟩) (Kd.R_far (p := ⟨gb589, 2, none⟩) (Kd.R_far (p := ⟨gb589, 1, none⟩) (Kd.R_far (p := ⟨gb589, 0, none⟩) (Kd.R_types HO_559003.out BK589.out (by decide)) (fun _ hk => hk.2) (.int .i64 t582)) (fun _ hk => hk.2) (.int .i64 t583)) (fun _ hk => hk.2) (.float .f64 t584)) (fun _ hk => hk.2) (.slice Ao55 t585.length co55)) (fun _ hk => ⟨hk.1.1.1.2, ⟨hk.1.1.2, ⟨hk.1.1.1.1, hk.1.2⟩⟩⟩))⟩, ⟨by exact Kd.rup (Kd.R_mono (Kd.R_far (p := ⟨gb589, 3, none⟩) (Kd.R_far (p := ⟨gb589, 2, none⟩) (Kd.R_far (p := ⟨gb589, 1, none⟩) (Kd.R_far (p := ⟨gb589, 0, none⟩) (Kd.R_types HO_560003.out BK589.out (by decide)) (fun _ hk => hk.2) (.int .i64 t582)) (fun _ hk => hk.2) (.int .i64 t583)) (fun _ hk => hk.2) (.float .f64 t584)) (fun _ hk => hk.2) (.slice Ao55 t585.length co55)) (fun _ hk => ⟨hk.1.1.1.2, ⟨hk.1.1.2, ⟨hk.1.1.1.1, hk.1.2⟩⟩⟩))⟩, ⟨by exact Kd.rup (Kd.R_mono (Kd.R_far (p := ⟨gb589, 3, none⟩) (Kd.R_far (p := ⟨gb589, 2, none⟩) (Kd.R_far (p := ⟨gb589, 1, none⟩) (Kd.R_far (p := ⟨gb589, 0, none⟩) (Kd.R_types HO587.out BK589.out (by decide)) (fun _ hk => hk.2) (.int .i64 t582)) (fun _ hk => hk.2) (.int .i64 t583)) (fun _ hk => hk.2) (.float .f64 t584)) (fun _ hk => hk.2) (.slice Ao55 t585.length co55)) (fun _ hk => ⟨hk.1.1.2, ⟨hk.1.2, ⟨hk.1.1.1.1.2, hk.1.1.1.2⟩⟩⟩))⟩, ⟨bput BK558.out⟩, ⟨bput BK559.out⟩, ⟨bput BK589.out⟩, ⟨hset HB.out⟩⟩
     case rest =>
      clear HC43
      try clear c1
      try clear c2
      try clear p2
      try clear c3
      try clear c4
      try clear c5
      try clear c6
      try clear c11
      try clear c18
      try clear c19
      try clear c20
      try clear c21
      try clear c22
      try clear c23
      try clear c24
      try clear c26
      try clear c31
      try clear c34
      try clear c44
      try clear c52
      try clear c53
      try clear c56
      try clear c58
      try clear c59
      try clear c61
      try clear hcz12_0
      try clear hcz12_1
      try clear hcz12_2
      try clear hcz12_3
      try clear hcz14_0
      try clear hcz14_1
      try clear hcz14_2
      try clear hcz14_3
      try clear hcz17_0
      try clear hcz17_1
      try clear hcz17_2
      try clear hcz17_3
      try clear hcz19_0
      try clear hcz19_1
      try clear hcz19_2
      try clear hcz19_3
      try clear hcz21_0
      try clear hcz21_1
      try clear hcz21_2
      try clear hcz21_3
      try clear hcz27_0
      try clear hcz27_1
      try clear hcz27_2
      try clear hcz27_3
      try clear hcz29_0
      try clear hcz29_1
      try clear hcz29_2
      try clear hcz29_3
      try clear hcz32_0
      try clear hcz32_1
      try clear hcz32_2
      try clear hcz32_3
      try clear hcz45_0
      try clear hcz45_1
      try clear hcz45_2
      try clear hcz45_3
      try clear hcz47_0
      try clear hcz47_1
      try clear hcz47_2
      try clear hcz47_3
      try clear hcz54_0
      try clear hcz54_1
      try clear hcz54_2
      try clear hcz54_3
      try clear hcz60_0
      try clear hcz60_1
      try clear hcz60_2
      try clear hcz60_3
      try clear hcz62_0
      try clear hcz62_1
      try clear hcz62_2
      try clear hcz62_3
      try clear hfz12_0
      try clear hfz12_1
      try clear hfz12_2
      try clear hfz12_3
      try clear hfz14_0
      try clear hfz14_1
      try clear hfz14_2
      try clear hfz14_3
      try clear hfz17_0
      try clear hfz17_1
      try clear hfz17_2
      try clear hfz17_3
      try clear hfz19_0
      try clear hfz19_1
      try clear hfz19_2
      try clear hfz19_3
      try clear hfz21_0
      try clear hfz21_1
      try clear hfz21_2
      try clear hfz21_3
      try clear hfz27_0
      try clear hfz27_1
      try clear hfz27_2
      try clear hfz27_3
      try clear hfz29_0
      try clear hfz29_1
      try clear hfz29_2
      try clear hfz29_3
      try clear hfz32_0
      try clear hfz32_1
      try clear hfz32_2
      try clear hfz32_3
      try clear hfz45_0
      try clear hfz45_1
      try clear hfz45_2
      try clear hfz45_3
      try clear hfz47_0
      try clear hfz47_1
      try clear hfz47_2
      try clear hfz47_3
      try clear hfz54_0
      try clear hfz54_1
      try clear hfz54_2
      try clear hfz54_3
      try clear hfz60_0
      try clear hfz60_1
      try clear hfz60_2
      try clear hfz60_3
      try clear hfz62_0
      try clear hfz62_1
      try clear hfz62_2
      try clear hfz62_3
      try clear p2
      obtain ⟨kq, x56_42, rfl, HA, HJ42, HO_5, HO_6, HO_559003, HO_560003, HO_590003, BK558, BK559, BK589, HB⟩ := hcut
      cases kq with
      | zero => exact absurd HA.out (by simp [laws_FnKeys.j1])
      | succ kj42 =>
       have H := HA.out
       clear HA
       simp only [laws_FnKeys.j1] at H
       by_cases c64 : x56_42 = true
       ·subst c64
        rw [if_pos rfl] at H
        (try dsimp only at H)
        cases (Option.some.inj H).trans hT
       ·replace c64 := Bool.eq_false_iff.mpr c64
        subst c64
        rw [if_neg (show ¬ (false = true) by decide)] at H
        (try dsimp only at H)
        have HC65 := Aside0.mk H
        clear H
        have hcv66 := own_string (P := Try.prog) Try.underlying22 Try.underlying5 Try.underlying9 (Kd.own_of_R HO_5.out)
        have hcv67 := own_string (P := Try.prog) Try.underlying22 Try.underlying5 Try.underlying9 (Kd.own_of_R HO_6.out)
        go_upto_if 61 with (fail)
        go_cut [9] (fun v9 wc => ∃ (kq : Nat) (x9_64 : Int), v9 = .int .i64 x9_64 ∧ Aside0 (laws_FnKeys.j2 kq l0 t576 t579 x9_64 t560 t561 (cn b562) t563 t566 t567 (cn b568) t569 = some r) ∧ Aside0 (kq ≤ kj42) ∧ Aside0 (Kd.R (Kd.int .u8) 5 wc w.heap.size (fun k_ => some k_ ≠ (v580 : Value).ownBlock ∧ some k_ ≠ ((.slice Ao18 t563.length co18) : Value).ownBlock ∧ some k_ ≠ ((.slice Ao22 t569.length co22) : Value).ownBlock ∧ some k_ ≠ ((.slice Ao55 t585.length co55) : Value).ownBlock) (.slice Ao49 t576.length co49) t576) ∧ Aside0 (Kd.R (Kd.int .u8) 5 wc w.heap.size (fun k_ => some k_ ≠ ((.slice Ao49 t576.length co49) : Value).ownBlock ∧ some k_ ≠ ((.slice Ao18 t563.length co18) : Value).ownBlock ∧ some k_ ≠ ((.slice Ao22 t569.length co22) : Value).ownBlock ∧ some k_ ≠ ((.slice Ao55 t585.length co55) : Value).ownBlock) v580 t579) ∧ Aside0 (Kd.R (Kd.int .u8) 5 wc w.heap.size (fun k_ => some k_ ≠ ((.slice Ao49 t576.length co49) : Value).ownBlock ∧ some k_ ≠ (v580 : Value).ownBlock ∧ some k_ ≠ ((.slice Ao22 t569.length co22) : Value).ownBlock ∧ some k_ ≠ ((.slice Ao55 t585.length co55) : Value).ownBlock) (.slice Ao18 t563.length co18) t563) ∧ Aside0 (Kd.R (Kd.int .u8) 5 wc w.heap.size (fun k_ => some k_ ≠ ((.slice Ao49 t576.length co49) : Value).ownBlock ∧ some k_ ≠ (v580 : Value).ownBlock ∧ some k_ ≠ ((.slice Ao18 t563.length co18) : Value).ownBlock ∧ some k_ ≠ ((.slice Ao55 t585.length co55) : Value).ownBlock) (.slice Ao22 t569.length co22) t569) ∧ Aside0 (Kd.R (Kd.int .u8) 5 wc w.heap.size (fun k_ => some k_ ≠ ((.slice Ao49 t576.length co49) : Value).ownBlock ∧ some k_ ≠ (v580 : Value).ownBlock ∧ some k_ ≠ ((.slice Ao18 t563.length co18) : Value).ownBlock ∧ some k_ ≠ ((.slice Ao22 t569.length co22) : Value).ownBlock) (.slice Ao55 t585.length co55) t585) ∧ Aside0 (wc.heap[gb558]? = some (.cells #[.int .i64 t560, .int .i64 t561, .float .f64 b562, (.slice Ao18 t563.length co18)] 25 (0, 0))) ∧ Aside0 (wc.heap[gb559]? = some (.cells #[.int .i64 t566, .int .i64 t567, .float .f64 b568, (.slice Ao22 t569.length co22)] 25 (0, 0))) ∧ Aside0 (wc.heap[gb589]? = some (.cells #[.int .i64 t582, .int .i64 t583, .float .f64 t584, (.slice Ao55 t585.length co55)] 25 (0, 0))) ∧ Aside0 (Below w.heap.size w wc))
        case first =>
         have H := HC65.out
         clear HC65
         by_cases c68 : (Op.bytesLess ((strOfNums t576).toList) ((strOfNums t579).toList)) = true
         ·rw [if_pos c68] at H
          have c68b0 : (Op.bytesLess ((strOfNums t576).toList) ((strOfNums t579).toList)) = true := c68
          clear c68
          (first | rw [c68b0] | (simp only [i64_w, i32_w]; rw [c68b0]) | skip)
          have H' := Aside0.mk H
          clear H
          go_wp2
          go_meet
          case rel => exact ⟨_, ((-1)), (by first | rfl | (simp; done) | (simp [*]; done) | (exfalso; simp_all; done)), H', ⟨by have := HJ6.out; have := HJ42.out; first | omega | exact Nat.le_refl _⟩, ⟨by exact Kd.rup HO_5.out⟩, ⟨by exact Kd.rup HO_6.out⟩, ⟨by exact Kd.rup HO_559003.out⟩, ⟨by exact Kd.rup HO_560003.out⟩, ⟨by exact Kd.rup HO_590003.out⟩, ⟨by exact bup BK558.out⟩, ⟨by exact bup BK559.out⟩, ⟨by exact bup BK589.out⟩, ⟨hset HB.out⟩⟩
         ·rw [if_neg c68] at H
          have c68b0 : (Op.bytesLess ((strOfNums t576).toList) ((strOfNums t579).toList)) = false := by simpa using c68
          clear c68
          (first | rw [c68b0] | (simp only [i64_w, i32_w]; rw [c68b0]) | skip)
          have H' := Aside0.mk H
          clear H
          go_wp2
          go_meet
          case rel => exact ⟨_, (0), (by first | rfl | (simp; done) | (simp [*]; done) | (exfalso; simp_all; done)), H', ⟨by have := HJ6.out; have := HJ42.out; first | omega | exact Nat.le_refl _⟩, ⟨by exact Kd.rup HO_5.out⟩, ⟨by exact Kd.rup HO_6.out⟩, ⟨by exact Kd.rup HO_559003.out⟩, ⟨by exact Kd.rup HO_560003.out⟩, ⟨by exact Kd.rup HO_590003.out⟩, ⟨by exact bup BK558.out⟩, ⟨by exact bup BK559.out⟩, ⟨by exact bup BK589.out⟩, ⟨hset HB.out⟩⟩
        case rest =>
         clear HC65
         try clear c1
         try clear c2
         try clear p2
         try clear c3
         try clear c4
         try clear c5
         try clear c6
         try clear hcv6
         try clear c11
         try clear c18
         try clear c19
         try clear c20
         try clear c21
         try clear c22
         try clear c23
         try clear c24
         try clear c26
         try clear c31
         try clear c34
         try clear c44
         try clear c52
         try clear c53
         try clear c56
         try clear c58
         try clear c59
         try clear c61
         try clear c64
         try clear hcv66
         try clear hcv67
         try clear c68
         try clear c68b0
         try clear hcz12_0
         try clear hcz12_1
         try clear hcz12_2
         try clear hcz12_3
         try clear hcz14_0
         try clear hcz14_1
         try clear hcz14_2
         try clear hcz14_3
         try clear hcz17_0
         try clear hcz17_1
         try clear hcz17_2
         try clear hcz17_3
         try clear hcz19_0
         try clear hcz19_1
         try clear hcz19_2
         try clear hcz19_3
         try clear hcz21_0
         try clear hcz21_1
         try clear hcz21_2
         try clear hcz21_3
         try clear hcz27_0
         try clear hcz27_1
         try clear hcz27_2
         try clear hcz27_3
         try clear hcz29_0
         try clear hcz29_1
         try clear hcz29_2
         try clear hcz29_3
         try clear hcz32_0
         try clear hcz32_1
         try clear hcz32_2
         try clear hcz32_3
         try clear hcz45_0
         try clear hcz45_1
         try clear hcz45_2
         try clear hcz45_3
         try clear hcz47_0
         try clear hcz47_1
         try clear hcz47_2
         try clear hcz47_3
         try clear hcz54_0
         try clear hcz54_1
         try clear hcz54_2
         try clear hcz54_3
         try clear hcz60_0
         try clear hcz60_1
         try clear hcz60_2
         try clear hcz60_3
         try clear hcz62_0
         try clear hcz62_1
         try clear hcz62_2
         try clear hcz62_3
         try clear hfz12_0
         try clear hfz12_1
         try clear hfz12_2
         try clear hfz12_3
         try clear hfz14_0
         try clear hfz14_1
         try clear hfz14_2
         try clear hfz14_3
         try clear hfz17_0
         try clear hfz17_1
         try clear hfz17_2
         try clear hfz17_3
         try clear hfz19_0
         try clear hfz19_1
         try clear hfz19_2
         try clear hfz19_3
         try clear hfz21_0
         try clear hfz21_1
         try clear hfz21_2
         try clear hfz21_3
         try clear hfz27_0
         try clear hfz27_1
         try clear hfz27_2
         try clear hfz27_3
         try clear hfz29_0
         try clear hfz29_1
         try clear hfz29_2
         try clear hfz29_3
         try clear hfz32_0
         try clear hfz32_1
         try clear hfz32_2
         try clear hfz32_3
         try clear hfz45_0
         try clear hfz45_1
         try clear hfz45_2
         try clear hfz45_3
         try clear hfz47_0
         try clear hfz47_1
         try clear hfz47_2
         try clear hfz47_3
         try clear hfz54_0
         try clear hfz54_1
         try clear hfz54_2
         try clear hfz54_3
         try clear hfz60_0
         try clear hfz60_1
         try clear hfz60_2
         try clear hfz60_3
         try clear hfz62_0
         try clear hfz62_1
         try clear hfz62_2
         try clear hfz62_3
         try clear p2
         obtain ⟨kq, x9_64, rfl, HA, HJ64, HO_5, HO_6, HO_559003, HO_560003, HO_590003, BK558, BK559, BK589, HB⟩ := hcut
         cases kq with
         | zero => exact absurd HA.out (by simp [laws_FnKeys.j2])
         | succ kj64 =>
          have H := HA.out
          clear HA
          simp only [laws_FnKeys.j2] at H
          have HC69 := Aside0.mk H
          clear H
          have hcv70 := own_string (P := Try.prog) Try.underlying22 Try.underlying5 Try.underlying9 (Kd.own_of_R HO_5.out)
          have hcv71 := own_string (P := Try.prog) Try.underlying22 Try.underlying5 Try.underlying9 (Kd.own_of_R HO_6.out)
          go_upto_if 66 with (fail)
          go_cut [9] (fun v9 wc => ∃ (kq : Nat) (x9_68 : Int), v9 = .int .i64 x9_68 ∧ Aside0 (laws_FnKeys.j3 kq l0 x9_68 t560 t561 (cn b562) t563 t566 t567 (cn b568) t569 = some r) ∧ Aside0 (kq ≤ kj64) ∧ Aside0 (Kd.R (Kd.int .u8) 5 wc w.heap.size (fun k_ => some k_ ≠ ((.slice Ao22 t569.length co22) : Value).ownBlock ∧ some k_ ≠ ((.slice Ao55 t585.length co55) : Value).ownBlock) (.slice Ao18 t563.length co18) t563) ∧ Aside0 (Kd.R (Kd.int .u8) 5 wc w.heap.size (fun k_ => some k_ ≠ ((.slice Ao18 t563.length co18) : Value).ownBlock ∧ some k_ ≠ ((.slice Ao55 t585.length co55) : Value).ownBlock) (.slice Ao22 t569.length co22) t569) ∧ Aside0 (Kd.R (Kd.int .u8) 5 wc w.heap.size (fun k_ => some k_ ≠ ((.slice Ao18 t563.length co18) : Value).ownBlock ∧ some k_ ≠ ((.slice Ao22 t569.length co22) : Value).ownBlock) (.slice Ao55 t585.length co55) t585) ∧ Aside0 (wc.heap[gb558]? = some (.cells #[.int .i64 t560, .int .i64 t561, .float .f64 b562, (.slice Ao18 t563.length co18)] 25 (0, 0))) ∧ Aside0 (wc.heap[gb559]? = some (.cells #[.int .i64 t566, .int .i64 t567, .float .f64 b568, (.slice Ao22 t569.length co22)] 25 (0, 0))) ∧ Aside0 (wc.heap[gb589]? = some (.cells #[.int .i64 t582, .int .i64 t583, .float .f64 t584, (.slice Ao55 t585.length co55)] 25 (0, 0))) ∧ Aside0 (Below w.heap.size w wc))
          case first =>
           have H := HC69.out
           clear HC69
           by_cases c72 : (Op.bytesLess ((strOfNums t579).toList) ((strOfNums t576).toList)) = true
           ·rw [if_pos c72] at H
            have c72b0 : (Op.bytesLess ((strOfNums t579).toList) ((strOfNums t576).toList)) = true := c72
            clear c72
            (first | rw [c72b0] | (simp only [i64_w, i32_w]; rw [c72b0]) | skip)
            have H' := Aside0.mk H
            clear H
            go_wp2
            go_meet
            case rel => exact ⟨_, (1), (by first | rfl | (simp; done) | (simp [*]; done) | (exfalso; simp_all; done)), H', ⟨by have := HJ6.out; have := HJ42.out; have := HJ64.out; first | omega | exact Nat.le_refl _⟩, ⟨by exact Kd.rup (Kd.R_mono HO_559003.out (fun _ hk => ⟨hk.2.2.1, hk.2.2.2⟩))⟩, ⟨by exact Kd.rup (Kd.R_mono HO_560003.out (fun _ hk => ⟨hk.2.2.1, hk.2.2.2⟩))⟩, ⟨by exact Kd.rup (Kd.R_mono HO_590003.out (fun _ hk => ⟨hk.2.2.1, hk.2.2.2⟩))⟩, ⟨by exact bup BK558.out⟩, ⟨by exact bup BK559.out⟩, ⟨by exact bup BK589.out⟩, ⟨hset HB.out⟩⟩
           ·rw [if_neg c72] at H
            have c72b0 : (Op.bytesLess ((strOfNums t579).toList) ((strOfNums t576).toList)) = false := by simpa using c72
            clear c72
            (first | rw [c72b0] | (simp only [i64_w, i32_w]; rw [c72b0]) | skip)
            have H' := Aside0.mk H
            clear H
            go_wp2
            go_meet
            case rel => exact ⟨_, (x9_64), (by first | rfl | (simp; done) | (simp [*]; done) | (exfalso; simp_all; done)), H', ⟨by have := HJ6.out; have := HJ42.out; have := HJ64.out; first | omega | exact Nat.le_refl _⟩, ⟨by exact Kd.rup (Kd.R_mono HO_559003.out (fun _ hk => ⟨hk.2.2.1, hk.2.2.2⟩))⟩, ⟨by exact Kd.rup (Kd.R_mono HO_560003.out (fun _ hk => ⟨hk.2.2.1, hk.2.2.2⟩))⟩, ⟨by exact Kd.rup (Kd.R_mono HO_590003.out (fun _ hk => ⟨hk.2.2.1, hk.2.2.2⟩))⟩, ⟨by exact bup BK558.out⟩, ⟨by exact bup BK559.out⟩, ⟨by exact bup BK589.out⟩, ⟨hset HB.out⟩⟩
          case rest =>
           clear HC69
           try clear c1
           try clear c2
           try clear p2
           try clear c3
           try clear c4
           try clear c5
           try clear c6
           try clear hcv6
           try clear c7
           try clear hcv7
           try clear c11
           try clear c18
           try clear c19
           try clear c20
           try clear c21
           try clear c22
           try clear c23
           try clear c24
           try clear c26
           try clear c31
           try clear c34
           try clear c44
           try clear c52
           try clear c53
           try clear c56
           try clear c58
           try clear c59
           try clear c61
           try clear c64
           try clear hcv66
           try clear hcv67
           try clear c68
           try clear c68b0
           try clear hcv70
           try clear hcv71
           try clear c72
           try clear c72b0
           try clear hcz12_0
           try clear hcz12_1
           try clear hcz12_2
           try clear hcz12_3
           try clear hcz14_0
           try clear hcz14_1
           try clear hcz14_2
           try clear hcz14_3
           try clear hcz17_0
           try clear hcz17_1
           try clear hcz17_2
           try clear hcz17_3
           try clear hcz19_0
           try clear hcz19_1
           try clear hcz19_2
           try clear hcz19_3
           try clear hcz21_0
           try clear hcz21_1
           try clear hcz21_2
           try clear hcz21_3
           try clear hcz27_0
           try clear hcz27_1
           try clear hcz27_2
           try clear hcz27_3
           try clear hcz29_0
           try clear hcz29_1
           try clear hcz29_2
           try clear hcz29_3
           try clear hcz32_0
           try clear hcz32_1
           try clear hcz32_2
           try clear hcz32_3
           try clear hcz45_0
           try clear hcz45_1
           try clear hcz45_2
           try clear hcz45_3
           try clear hcz47_0
           try clear hcz47_1
           try clear hcz47_2
           try clear hcz47_3
           try clear hcz54_0
           try clear hcz54_1
           try clear hcz54_2
           try clear hcz54_3
           try clear hcz60_0
           try clear hcz60_1
           try clear hcz60_2
           try clear hcz60_3
           try clear hcz62_0
           try clear hcz62_1
           try clear hcz62_2
           try clear hcz62_3
           try clear hfz12_0
           try clear hfz12_1
           try clear hfz12_2
           try clear hfz12_3
           try clear hfz14_0
           try clear hfz14_1
           try clear hfz14_2
           try clear hfz14_3
           try clear hfz17_0
           try clear hfz17_1
           try clear hfz17_2
           try clear hfz17_3
           try clear hfz19_0
           try clear hfz19_1
           try clear hfz19_2
           try clear hfz19_3
           try clear hfz21_0
           try clear hfz21_1
           try clear hfz21_2
           try clear hfz21_3
           try clear hfz27_0
           try clear hfz27_1
           try clear hfz27_2
           try clear hfz27_3
           try clear hfz29_0
           try clear hfz29_1
           try clear hfz29_2
           try clear hfz29_3
           try clear hfz32_0
           try clear hfz32_1
           try clear hfz32_2
           try clear hfz32_3
           try clear hfz45_0
           try clear hfz45_1
           try clear hfz45_2
           try clear hfz45_3
           try clear hfz47_0
           try clear hfz47_1
           try clear hfz47_2
           try clear hfz47_3
           try clear hfz54_0
           try clear hfz54_1
           try clear hfz54_2
           try clear hfz54_3
           try clear hfz60_0
           try clear hfz60_1
           try clear hfz60_2
           try clear hfz60_3
           try clear hfz62_0
           try clear hfz62_1
           try clear hfz62_2
           try clear hfz62_3
           try clear p2
           obtain ⟨kq, x9_68, rfl, HA, HJ68, HO_559003, HO_560003, HO_590003, BK558, BK559, BK589, HB⟩ := hcut
           cases kq with
           | zero => exact absurd HA.out (by simp [laws_FnKeys.j3])
           | succ kj68 =>
            have H := HA.out
            clear HA
            simp only [laws_FnKeys.j3] at H
            replace H := Option.bind_eq_some_iff.mp H
            obtain ⟨⟨t591, t592, t593, t594⟩, A730, H⟩ := H
            (try dsimp only at H)
            have A73 := Aside0.mk A730
            clear A730
            have HC74 := Aside0.mk H
            clear H
            go_upto_region 19 with (first | ((with_reducible refine gate_callee (f := 26) rfl ?_); refine goesL_ (some 68) rfl rfl Try.func26 (by kernel_rfl) rfl #[.slice A0 l0.length c0] rfl (by (try simp only [List.map_toArray, List.map_cons, List.map_nil]); first | done | rfl) ?_; (with_reducible refine (spec_DrawValueBytes.callsC kj68 _ _ l0 t591 t592 t593 t594 _ ?side1 ?side2 A73.out).mono ?_); (case side1 => repeat (first | exact (Kd.C_below HR0.out HB.out) | (with_reducible refine Kd.C_alloc ?_ _) | (with_reducible refine Kd.C_drewN ?_ _) | (with_reducible refine Kd.C_drew ?_))); (case side2 => exact HC0.out); rintro e w75 ⟨b593, v595, rfl, ho0, hb, ⟨⟨hcnb593, hltb593⟩⟩⟩; refine ⟨_, rfl, ?_⟩; have LTb593 := Aside0.mk hltb593; clear hltb593; subst hcnb593; have n0_ := Aside0.mk (Kd.R_elder' (Kd.rup HO_559003.out) (Kd.R_base ho0) hb); have n1_ := Aside0.mk (Kd.R_elder' (Kd.rup HO_560003.out) (Kd.R_base ho0) hb); have n2_ := Aside0.mk (Kd.R_elder' (Kd.rup HO_590003.out) (Kd.R_base ho0) hb); have n3_ := Aside0.mk (Kd.R_lower (Kd.R_new' (Kd.R_new' (Kd.R_new' ho0 (Kd.R_lt (Kd.rup HO_559003.out))) (Kd.R_lt (Kd.rup HO_560003.out))) (Kd.R_lt (Kd.rup HO_590003.out))) (below_size (hset HB.out))); have n4_ := Aside0.mk (blk_below (bup BK558.out) hb); have n5_ := Aside0.mk (blk_below (bup BK559.out) hb); have n6_ := Aside0.mk (blk_below (bup BK589.out) hb); have n7_ := Aside0.mk (below_step (hset HB.out) hb); clear HO_559003; clear HO_560003; clear HO_590003; clear BK558; clear BK559; clear BK589; clear HB; have HO_559003 := n0_; have HO_560003 := n1_; have HO_590003 := n2_; have HO596 := n3_; have BK558 := n4_; have BK559 := n5_; have BK589 := n6_; have HB := n7_; clear n0_ n1_ n2_ n3_ n4_ n5_ n6_ n7_; (try clear hb); (try clear hb2); (try clear hk); (try clear hi); (try clear ho0)) | ((with_reducible refine gate_dst (N := 10) rfl ?_); refine box_event ?hg (N := 10) ?hd (cs := #[.int .i64 0, .int .i64 0, .float .f64 0, .slice none 0 0]) (t := 25) ?hr ?_; (case hd => rfl); (case hg => rfl); (case hr => first | (go_simp; done) | (go_simp; rfl)); intro gb597 hg w76 hbox hb; have n0_ := Aside0.mk (Kd.R_below (Kd.rup HO_559003.out) hb); have n1_ := Aside0.mk (Kd.R_below (Kd.rup HO_560003.out) hb); have n2_ := Aside0.mk (Kd.R_below (Kd.rup HO_590003.out) hb); have n3_ := Aside0.mk (Kd.R_below (Kd.rup HO596.out) hb); have n4_ := Aside0.mk (blk_below (bup BK558.out) hb); have n5_ := Aside0.mk (blk_below (bup BK559.out) hb); have n6_ := Aside0.mk (blk_below (bup BK589.out) hb); have n7_ := Aside0.mk (below_step (hset HB.out) hb); have n8_ := Aside0.mk (hbox); have n9_ := Geq.mk ((by rw [hg]; exact (below_size (hset HB.out)) : w.heap.size ≤ gb597)); have n10_ := Geq.mk ((by rw [hg]; exact (below_size (hset HB.out)) : w.heap.size ≤ gb597)); have n11_ := Neq.mk ((by rw [hg]; exact Nat.ne_of_lt (blk_lt (g := gb558) (o := .cells #[.int .i64 t560, .int .i64 t561, .float .f64 b562, .slice Ao18 t563.length co18] 25 (0, 0)) (bup BK558.out)) : gb558 ≠ gb597)); have n12_ := Neq.mk ((by rw [hg]; exact Nat.ne_of_gt (blk_lt (g := gb558) (o := .cells #[.int .i64 t560, .int .i64 t561, .float .f64 b562, .slice Ao18 t563.length co18] 25 (0, 0)) (bup BK558.out)) : gb597 ≠ gb558)); have n13_ := Neq.mk ((by rw [hg]; exact Nat.ne_of_lt (blk_lt (g := gb559) (o := .cells #[.int .i64 t566, .int .i64 t567, .float .f64 b568, .slice Ao22 t569.length co22] 25 (0, 0)) (bup BK559.out)) : gb559 ≠ gb597)); have n14_ := Neq.mk ((by rw [hg]; exact Nat.ne_of_gt (blk_lt (g := gb559) (o := .cells #[.int .i64 t566, .int .i64 t567, .float .f64 b568, .slice Ao22 t569.length co22] 25 (0, 0)) (bup BK559.out)) : gb597 ≠ gb559)); have n15_ := Neq.mk ((by rw [hg]; exact Nat.ne_of_lt (blk_lt (g := gb589) (o := .cells #[.int .i64 t582, .int .i64 t583, .float .f64 t584, .slice Ao55 t585.length co55] 25 (0, 0)) (bup BK589.out)) : gb589 ≠ gb597)); have n16_ := Neq.mk ((by rw [hg]; exact Nat.ne_of_gt (blk_lt (g := gb589) (o := .cells #[.int .i64 t582, .int .i64 t583, .float .f64 t584, .slice Ao55 t585.length co55] 25 (0, 0)) (bup BK589.out)) : gb597 ≠ gb589)); clear HO_559003; clear HO_560003; clear HO_590003; clear HO596; clear BK558; clear BK559; clear BK589; clear HB; have HO_559003 := n0_; have HO_560003 := n1_; have HO_590003 := n2_; have HO596 := n3_; have BK558 := n4_; have BK559 := n5_; have BK589 := n6_; have HB := n7_; have BK597 := n8_; have GW597 := n9_; have GE597 := n10_; have NB558_597 := n11_; have NB597_558 := n12_; have NB559_597 := n13_; have NB597_559 := n14_; have NB589_597 := n15_; have NB597_589 := n16_; clear n0_ n1_ n2_ n3_ n4_ n5_ n6_ n7_ n8_ n9_ n10_ n11_ n12_ n13_ n14_ n15_ n16_; clear hb hbox hg; have hnb77 := NB597_558.out; have hnc77 := NB558_597.out; have hnb78 := NB597_559.out; have hnc78 := NB559_597.out; have hnb79 := NB597_589.out; have hnc79 := NB589_597.out; obtain ⟨hcz80_0, hcz80_1, hcz80_2, hcz80_3⟩ := blk_cells4 BK597.out; obtain ⟨hfz80_0, hfz80_1, hfz80_2, hfz80_3⟩ := blk_frozens4 BK597.out; obtain ⟨Ao81, co81, eo81⟩ := Kd.R_slice HO596.out; subst eo81))
            (try simp only [Act.put, List.setIfInBounds_toArray, List.set_cons_zero, List.set_cons_succ])
            go_cut [76] (fun v76 wc => ∃ (kq : Nat) (x76_73 : Bool), v76 = .bool x76_73 ∧ Aside0 (laws_FnKeys.j4 kq x9_68 x76_73 t560 t561 (cn b562) t563 t566 t567 (cn b568) t569 t591 t592 (cn b593) t594 = some r) ∧ Aside0 (kq ≤ kj68) ∧ Aside0 (Kd.R (Kd.int .u8) 5 wc w.heap.size (fun k_ => some k_ ≠ ((.slice Ao22 t569.length co22) : Value).ownBlock ∧ some k_ ≠ ((.slice Ao55 t585.length co55) : Value).ownBlock ∧ some k_ ≠ ((.slice Ao81 t594.length co81) : Value).ownBlock) (.slice Ao18 t563.length co18) t563) ∧ Aside0 (Kd.R (Kd.int .u8) 5 wc w.heap.size (fun k_ => some k_ ≠ ((.slice Ao18 t563.length co18) : Value).ownBlock ∧ some k_ ≠ ((.slice Ao55 t585.length co55) : Value).ownBlock ∧ some k_ ≠ ((.slice Ao81 t594.length co81) : Value).ownBlock) (.slice Ao22 t569.length co22) t569) ∧ Aside0 (Kd.R (Kd.int .u8) 5 wc w.heap.size (fun k_ => some k_ ≠ ((.slice Ao18 t563.length co18) : Value).ownBlock ∧ some k_ ≠ ((.slice Ao22 t569.length co22) : Value).ownBlock ∧ some k_ ≠ ((.slice Ao81 t594.length co81) : Value).ownBlock) (.slice Ao55 t585.length co55) t585) ∧ Aside0 (Kd.R (Kd.int .u8) 5 wc w.heap.size (fun k_ => some k_ ≠ ((.slice Ao18 t563.length co18) : Value).ownBlock ∧ some k_ ≠ ((.slice Ao22 t569.length co22) : Value).ownBlock ∧ some k_ ≠ ((.slice Ao55 t585.length co55) : Value).ownBlock) (.slice Ao81 t594.length co81) t594) ∧ Aside0 (wc.heap[gb558]? = some (.cells #[.int .i64 t560, .int .i64 t561, .float .f64 b562, (.slice Ao18 t563.length co18)] 25 (0, 0))) ∧ Aside0 (wc.heap[gb559]? = some (.cells #[.int .i64 t566, .int .i64 t567, .float .f64 b568, (.slice Ao22 t569.length co22)] 25 (0, 0))) ∧ Aside0 (wc.heap[gb589]? = some (.cells #[.int .i64 t582, .int .i64 t583, .float .f64 t584, (.slice Ao55 t585.length co55)] 25 (0, 0))) ∧ Aside0 (wc.heap[gb597]? = some (.cells #[.int .i64 t591, .int .i64 t592, .float .f64 b593, (.slice Ao81 t594.length co81)] 25 (0, 0))) ∧ Aside0 (Below w.heap.size w wc))
            case first =>
             have H := HC74.out
             clear HC74
             replace H := Option.bind_eq_some_iff.mp H
             obtain ⟨t598, A820, H⟩ := H
             (try dsimp only at H)
             have A82 := Aside0.mk A820
             clear A820
             by_cases c83 : t598 = true
             ·subst c83
              rw [if_pos rfl] at H
              (try dsimp only at H)
              have H' := Aside0.mk H
              clear H
              have hnb84 := NB597_558.out
              have hnc84 := NB558_597.out
              have hnb85 := NB597_559.out
              have hnc85 := NB559_597.out
              have hnb86 := NB597_589.out
              have hnc86 := NB589_597.out
              obtain ⟨hcz87_0, hcz87_1, hcz87_2, hcz87_3⟩ := blk_cells4 BK597.out
              obtain ⟨hfz87_0, hfz87_1, hfz87_2, hfz87_3⟩ := blk_frozens4 BK597.out
              go_wp2_with (first | ((with_reducible refine gate_callee (f := 27) rfl ?_); refine goesL_ (some 70) rfl rfl Try.func27 (by kernel_rfl) rfl #[.agg #[.int .i64 t591, .int .i64 t592, .float .f64 b593, .slice Ao81 t594.length co81]] rfl (by (try simp only [List.map_toArray, List.map_cons, List.map_nil]); first | done | rfl) ?_; (with_reducible refine (spec_ItemOk.calls kj68 t591 t592 b593 _ _ t594 true _ ?side1 ?side2 ((spec_ItemOk.inv0 _ _ _ _ _).symm.trans A82.out)).mono ?_); (case side1 => refine (Kd.R_reads' (e := 5) (base := w.heap.size) (ok := fun k_ => (((True ∧ some k_ ≠ (.slice Ao18 t563.length co18 : Value).ownBlock) ∧ some k_ ≠ (.slice Ao22 t569.length co22 : Value).ownBlock) ∧ some k_ ≠ (.slice Ao55 t585.length co55 : Value).ownBlock)) (n := t594.length) (c := co81) ?_).2.2; exact ((Kd.roff1 HO596.out BK597.out (by decide)))); (case side2 => exact (Kd.R_reads' HO596.out).2.1); rintro e w88 ⟨rfl, hb⟩; refine ⟨_, rfl, ?_⟩; have n0_ := Aside0.mk (Kd.R_below ((Kd.roff1 HO_559003.out BK597.out (by decide))) hb); have n1_ := Aside0.mk (Kd.R_below ((Kd.roff1 HO_560003.out BK597.out (by decide))) hb); have n2_ := Aside0.mk (Kd.R_below ((Kd.roff1 HO_590003.out BK597.out (by decide))) hb); have n3_ := Aside0.mk (Kd.R_below ((Kd.roff1 HO596.out BK597.out (by decide))) hb); have n4_ := Aside0.mk (blk_below (g := gb558) (o := .cells #[.int .i64 t560, .int .i64 t561, .float .f64 b562, .slice Ao18 t563.length co18] 25 (0, 0)) (bput BK558.out) hb); have n5_ := Aside0.mk (blk_below (g := gb559) (o := .cells #[.int .i64 t566, .int .i64 t567, .float .f64 b568, .slice Ao22 t569.length co22] 25 (0, 0)) (bput BK559.out) hb); have n6_ := Aside0.mk (blk_below (g := gb589) (o := .cells #[.int .i64 t582, .int .i64 t583, .float .f64 t584, .slice Ao55 t585.length co55] 25 (0, 0)) (bput BK589.out) hb); have n7_ := Aside0.mk (blk_below (g := gb597) (o := .cells #[.int .i64 t591, .int .i64 t592, .float .f64 b593, .slice Ao81 t594.length co81] 25 (0, 0)) (bput BK597.out) hb); have n8_ := Aside0.mk (below_step (hset HB.out) hb); clear HO_559003; clear HO_560003; clear HO_590003; clear HO596; clear BK558; clear BK559; clear BK589; clear BK597; clear HB; have HO_559003 := n0_; have HO_560003 := n1_; have HO_590003 := n2_; have HO596 := n3_; have BK558 := n4_; have BK559 := n5_; have BK589 := n6_; have BK597 := n7_; have HB := n8_; clear n0_ n1_ n2_ n3_ n4_ n5_ n6_ n7_ n8_; (try clear hb); (try clear hb2); (try clear hk); (try clear hi); obtain ⟨hcz89_0, hcz89_1, hcz89_2, hcz89_3⟩ := blk_cells4 BK597.out; obtain ⟨hfz89_0, hfz89_1, hfz89_2, hfz89_3⟩ := blk_frozens4 BK597.out))
              go_meet
              case rel => exact ⟨_, ((t591 == 0)), (by first | rfl | (simp; done) | (simp [*]; done) | (exfalso; simp_all; done)), H', ⟨by have := HJ6.out; have := HJ42.out; have := HJ64.out; have := HJ68.out; first | omega | exact Nat.le_refl _⟩, ⟨by exact Kd.rup (Kd.R_mono HO_559003.out (fun _ hk => ⟨hk.1.1, ⟨hk.1.2, hk.2⟩⟩))⟩, ⟨by exact Kd.rup (Kd.R_mono HO_560003.out (fun _ hk => ⟨hk.1.1, ⟨hk.1.2, hk.2⟩⟩))⟩, ⟨by exact Kd.rup (Kd.R_mono HO_590003.out (fun _ hk => ⟨hk.1.1, ⟨hk.1.2, hk.2⟩⟩))⟩, ⟨by exact Kd.rup (Kd.R_mono HO596.out (fun _ hk => ⟨hk.1.1.2, ⟨hk.1.2, hk.2⟩⟩))⟩, ⟨by exact bup BK558.out⟩, ⟨by exact bup BK559.out⟩, ⟨by exact bup BK589.out⟩, ⟨by exact bup BK597.out⟩, ⟨hset HB.out⟩⟩
             ·replace c83 := Bool.eq_false_iff.mpr c83
              subst c83
              rw [if_neg (show ¬ (false = true) by decide)] at H
              (try dsimp only at H)
              have H' := Aside0.mk H
              clear H
              have hnb90 := NB597_558.out
              have hnc90 := NB558_597.out
              have hnb91 := NB597_559.out
              have hnc91 := NB559_597.out
              have hnb92 := NB597_589.out
              have hnc92 := NB589_597.out
              obtain ⟨hcz93_0, hcz93_1, hcz93_2, hcz93_3⟩ := blk_cells4 BK597.out
              obtain ⟨hfz93_0, hfz93_1, hfz93_2, hfz93_3⟩ := blk_frozens4 BK597.out
              go_wp2_with (first | ((with_reducible refine gate_callee (f := 27) rfl ?_); refine goesL_ (some 70) rfl rfl Try.func27 (by kernel_rfl) rfl #[.agg #[.int .i64 t591, .int .i64 t592, .float .f64 b593, .slice Ao81 t594.length co81]] rfl (by (try simp only [List.map_toArray, List.map_cons, List.map_nil]); first | done | rfl) ?_; (with_reducible refine (spec_ItemOk.calls kj68 t591 t592 b593 _ _ t594 false _ ?side1 ?side2 ((spec_ItemOk.inv0 _ _ _ _ _).symm.trans A82.out)).mono ?_); (case side1 => refine (Kd.R_reads' (e := 5) (base := w.heap.size) (ok := fun k_ => (((True ∧ some k_ ≠ (.slice Ao18 t563.length co18 : Value).ownBlock) ∧ some k_ ≠ (.slice Ao22 t569.length co22 : Value).ownBlock) ∧ some k_ ≠ (.slice Ao55 t585.length co55 : Value).ownBlock)) (n := t594.length) (c := co81) ?_).2.2; exact ((Kd.roff1 HO596.out BK597.out (by decide)))); (case side2 => exact (Kd.R_reads' HO596.out).2.1); rintro e w94 ⟨rfl, hb⟩; refine ⟨_, rfl, ?_⟩; have n0_ := Aside0.mk (Kd.R_below ((Kd.roff1 HO_559003.out BK597.out (by decide))) hb); have n1_ := Aside0.mk (Kd.R_below ((Kd.roff1 HO_560003.out BK597.out (by decide))) hb); have n2_ := Aside0.mk (Kd.R_below ((Kd.roff1 HO_590003.out BK597.out (by decide))) hb); have n3_ := Aside0.mk (Kd.R_below ((Kd.roff1 HO596.out BK597.out (by decide))) hb); have n4_ := Aside0.mk (blk_below (g := gb558) (o := .cells #[.int .i64 t560, .int .i64 t561, .float .f64 b562, .slice Ao18 t563.length co18] 25 (0, 0)) (bput BK558.out) hb); have n5_ := Aside0.mk (blk_below (g := gb559) (o := .cells #[.int .i64 t566, .int .i64 t567, .float .f64 b568, .slice Ao22 t569.length co22] 25 (0, 0)) (bput BK559.out) hb); have n6_ := Aside0.mk (blk_below (g := gb589) (o := .cells #[.int .i64 t582, .int .i64 t583, .float .f64 t584, .slice Ao55 t585.length co55] 25 (0, 0)) (bput BK589.out) hb); have n7_ := Aside0.mk (blk_below (g := gb597) (o := .cells #[.int .i64 t591, .int .i64 t592, .float .f64 b593, .slice Ao81 t594.length co81] 25 (0, 0)) (bput BK597.out) hb); have n8_ := Aside0.mk (below_step (hset HB.out) hb); clear HO_559003; clear HO_560003; clear HO_590003; clear HO596; clear BK558; clear BK559; clear BK589; clear BK597; clear HB; have HO_559003 := n0_; have HO_560003 := n1_; have HO_590003 := n2_; have HO596 := n3_; have BK558 := n4_; have BK559 := n5_; have BK589 := n6_; have BK597 := n7_; have HB := n8_; clear n0_ n1_ n2_ n3_ n4_ n5_ n6_ n7_ n8_; (try clear hb); (try clear hb2); (try clear hk); (try clear hi)))
              go_meet
              case rel => exact ⟨_, (true), (by first | rfl | (simp; done) | (simp [*]; done) | (exfalso; simp_all; done)), H', ⟨by have := HJ6.out; have := HJ42.out; have := HJ64.out; have := HJ68.out; first | omega | exact Nat.le_refl _⟩, ⟨by exact Kd.rup (Kd.R_mono HO_559003.out (fun _ hk => ⟨hk.1.1, ⟨hk.1.2, hk.2⟩⟩))⟩, ⟨by exact Kd.rup (Kd.R_mono HO_560003.out (fun _ hk => ⟨hk.1.1, ⟨hk.1.2, hk.2⟩⟩))⟩, ⟨by exact Kd.rup (Kd.R_mono HO_590003.out (fun _ hk => ⟨hk.1.1, ⟨hk.1.2, hk.2⟩⟩))⟩, ⟨by exact Kd.rup (Kd.R_mono HO596.out (fun _ hk => ⟨hk.1.1.2, ⟨hk.1.2, hk.2⟩⟩))⟩, ⟨by exact bup BK558.out⟩, ⟨by exact bup BK559.out⟩, ⟨by exact bup BK589.out⟩, ⟨by exact bup BK597.out⟩, ⟨hset HB.out⟩⟩
            case rest =>
             clear HC74
             try clear c1
             try clear c2
             try clear p2
             try clear c3
             try clear c4
             try clear c5
             try clear c6
             try clear hcv6
             try clear c7
             try clear hcv7
             try clear c8
             try clear c9
             try clear c11
             try clear c18
             try clear c19
             try clear c20
             try clear c21
             try clear c22
             try clear c23
             try clear c24
             try clear c26
             try clear c27
             try clear c31
             try clear c34
             try clear c44
             try clear c52
             try clear c53
             try clear c56
             try clear c58
             try clear c59
             try clear c61
             try clear c64
             try clear hcv66
             try clear hcv67
             try clear c68
             try clear c68b0
             try clear hcv70
             try clear hcv71
             try clear c72
             try clear c72b0
             try clear c77
             try clear c78
             try clear c79
             try clear c83
             try clear c84
             try clear c85
             try clear c86
             try clear c90
             try clear c91
             try clear c92
             try clear hcz12_0
             try clear hcz12_1
             try clear hcz12_2
             try clear hcz12_3
             try clear hcz14_0
             try clear hcz14_1
             try clear hcz14_2
             try clear hcz14_3
             try clear hcz17_0
             try clear hcz17_1
             try clear hcz17_2
             try clear hcz17_3
             try clear hcz19_0
             try clear hcz19_1
             try clear hcz19_2
             try clear hcz19_3
             try clear hcz21_0
             try clear hcz21_1
             try clear hcz21_2
             try clear hcz21_3
             try clear hcz27_0
             try clear hcz27_1
             try clear hcz27_2
             try clear hcz27_3
             try clear hcz29_0
             try clear hcz29_1
             try clear hcz29_2
             try clear hcz29_3
             try clear hcz32_0
             try clear hcz32_1
             try clear hcz32_2
             try clear hcz32_3
             try clear hcz45_0
             try clear hcz45_1
             try clear hcz45_2
             try clear hcz45_3
             try clear hcz47_0
             try clear hcz47_1
             try clear hcz47_2
             try clear hcz47_3
             try clear hcz54_0
             try clear hcz54_1
             try clear hcz54_2
             try clear hcz54_3
             try clear hcz60_0
             try clear hcz60_1
             try clear hcz60_2
             try clear hcz60_3
             try clear hcz62_0
             try clear hcz62_1
             try clear hcz62_2
             try clear hcz62_3
             try clear hcz80_0
             try clear hcz80_1
             try clear hcz80_2
             try clear hcz80_3
             try clear hcz87_0
             try clear hcz87_1
             try clear hcz87_2
             try clear hcz87_3
             try clear hcz89_0
             try clear hcz89_1
             try clear hcz89_2
             try clear hcz89_3
             try clear hcz93_0
             try clear hcz93_1
             try clear hcz93_2
             try clear hcz93_3
             try clear hfz12_0
             try clear hfz12_1
             try clear hfz12_2
             try clear hfz12_3
             try clear hfz14_0
             try clear hfz14_1
             try clear hfz14_2
             try clear hfz14_3
             try clear hfz17_0
             try clear hfz17_1
             try clear hfz17_2
             try clear hfz17_3
             try clear hfz19_0
             try clear hfz19_1
             try clear hfz19_2
             try clear hfz19_3
             try clear hfz21_0
             try clear hfz21_1
             try clear hfz21_2
             try clear hfz21_3
             try clear hfz27_0
             try clear hfz27_1
             try clear hfz27_2
             try clear hfz27_3
             try clear hfz29_0
             try clear hfz29_1
             try clear hfz29_2
             try clear hfz29_3
             try clear hfz32_0
             try clear hfz32_1
             try clear hfz32_2
             try clear hfz32_3
             try clear hfz45_0
             try clear hfz45_1
             try clear hfz45_2
             try clear hfz45_3
             try clear hfz47_0
             try clear hfz47_1
             try clear hfz47_2
             try clear hfz47_3
             try clear hfz54_0
             try clear hfz54_1
             try clear hfz54_2
             try clear hfz54_3
             try clear hfz60_0
             try clear hfz60_1
             try clear hfz60_2
             try clear hfz60_3
             try clear hfz62_0
             try clear hfz62_1
             try clear hfz62_2
             try clear hfz62_3
             try clear hfz80_0
             try clear hfz80_1
             try clear hfz80_2
             try clear hfz80_3
             try clear hfz87_0
             try clear hfz87_1
             try clear hfz87_2
             try clear hfz87_3
             try clear hfz89_0
             try clear hfz89_1
             try clear hfz89_2
             try clear hfz89_3
             try clear hfz93_0
             try clear hfz93_1
             try clear hfz93_2
             try clear hfz93_3
             try clear p2
             obtain ⟨kq, x76_73, rfl, HA, HJ73, HO_559003, HO_560003, HO_590003, HO_598003, BK558, BK559, BK589, BK597, HB⟩ := hcut
             cases kq with
             | zero => exact absurd HA.out (by simp [laws_FnKeys.j4])
             | succ kj73 =>
              have H := HA.out
              clear HA
              simp only [laws_FnKeys.j4] at H
              by_cases c95 : x76_73 = true
              ·subst c95
               rw [if_pos rfl] at H
               (try dsimp only at H)
               replace H := Option.bind_eq_some_iff.mp H
               obtain ⟨t599, A960, H⟩ := H
               (try dsimp only at H)
               have A96 := Aside0.mk A960
               clear A960
               obtain rfl := Option.some.inj H
               have hnb97 := NB558_559.out
               have hnc97 := NB559_558.out
               have hnb98 := NB558_589.out
               have hnc98 := NB589_558.out
               have hnb99 := NB558_597.out
               have hnc99 := NB597_558.out
               obtain ⟨hcz100_0, hcz100_1, hcz100_2, hcz100_3⟩ := blk_cells4 BK558.out
               obtain ⟨hfz100_0, hfz100_1, hfz100_2, hfz100_3⟩ := blk_frozens4 BK558.out
               have hnb101 := NB559_589.out
               have hnc101 := NB589_559.out
               have hnb102 := NB559_597.out
               have hnc102 := NB597_559.out
               obtain ⟨hcz103_0, hcz103_1, hcz103_2, hcz103_3⟩ := blk_cells4 BK559.out
               obtain ⟨hfz103_0, hfz103_1, hfz103_2, hfz103_3⟩ := blk_frozens4 BK559.out
               go_wp2_with (first | ((with_reducible refine gate_callee (f := 28) rfl ?_); refine goesL_ (some 79) rfl rfl Try.func28 (by kernel_rfl) rfl #[.agg #[.int .i64 t560, .int .i64 t561, .float .f64 b562, .slice Ao18 t563.length co18], .agg #[.int .i64 t566, .int .i64 t567, .float .f64 b568, .slice Ao22 t569.length co22]] rfl (by (try simp only [List.map_toArray, List.map_cons, List.map_nil]); first | done | rfl) ?_; (with_reducible refine (impl_ItemCompare.calls kj73 t560 t561 b562 _ _ t563 t566 t567 b568 _ _ t569 t599 _ ?side1 ?side2 ?side3 ?side4 ((impl_ItemCompare.inv1 _ _ _ _ _ _ _ _ _).symm.trans ((impl_ItemCompare.inv0 _ _ _ _ _ _ _ _ _).symm.trans A96.out))).mono ?_); (case side1 => repeat (first | exact (Kd.R_reads' HO_559003.out).2.2 | (with_reducible refine Kd.C_alloc ?_ _) | (with_reducible refine Kd.C_drewN ?_ _) | (with_reducible refine Kd.C_drew ?_))); (case side2 => exact (Kd.R_reads' HO_559003.out).2.1); (case side3 => repeat (first | exact (Kd.R_reads' HO_560003.out).2.2 | (with_reducible refine Kd.C_alloc ?_ _) | (with_reducible refine Kd.C_drewN ?_ _) | (with_reducible refine Kd.C_drew ?_))); (case side4 => exact (Kd.R_reads' HO_560003.out).2.1); rintro e w104 ⟨rfl, hb⟩; refine ⟨_, rfl, ?_⟩; have n0_ := Aside0.mk (Kd.R_below (Kd.rup HO_559003.out) hb); have n1_ := Aside0.mk (Kd.R_below (Kd.rup HO_560003.out) hb); have n2_ := Aside0.mk (Kd.R_below (Kd.rup HO_590003.out) hb); have n3_ := Aside0.mk (Kd.R_below (Kd.rup HO_598003.out) hb); have n4_ := Aside0.mk (blk_below (bup BK558.out) hb); have n5_ := Aside0.mk (blk_below (bup BK559.out) hb); have n6_ := Aside0.mk (blk_below (bup BK589.out) hb); have n7_ := Aside0.mk (blk_below (bup BK597.out) hb); have n8_ := Aside0.mk (below_step (hset HB.out) hb); clear HO_559003; clear HO_560003; clear HO_590003; clear HO_598003; clear BK558; clear BK559; clear BK589; clear BK597; clear HB; have HO_559003 := n0_; have HO_560003 := n1_; have HO_590003 := n2_; have HO_598003 := n3_; have BK558 := n4_; have BK559 := n5_; have BK589 := n6_; have BK597 := n7_; have HB := n8_; clear n0_ n1_ n2_ n3_ n4_ n5_ n6_ n7_ n8_; (try clear hb); (try clear hb2); (try clear hk); (try clear hi)))
               go_ret
               exact ⟨by first | rfl | (simp [errW_none, errW_some] <;> rfl) | (simp [*, errW_none, errW_some] <;> rfl), hset HB.out⟩
              ·replace c95 := Bool.eq_false_iff.mpr c95
               subst c95
               rw [if_neg (show ¬ (false = true) by decide)] at H
               (try dsimp only at H)
               replace H := Option.bind_eq_some_iff.mp H
               obtain ⟨t600, A1050, H⟩ := H
               (try dsimp only at H)
               have A105 := Aside0.mk A1050
               clear A1050
               replace H := Option.bind_eq_some_iff.mp H
               obtain ⟨⟨t603, t604, t605, t606, t609⟩, A1060, H⟩ := H
               (try dsimp only at H)
               have A106 := Aside0.mk A1060
               clear A1060
               replace H := Option.bind_eq_some_iff.mp H
               obtain ⟨t611, A1070, H⟩ := H
               (try dsimp only at H)
               have A107 := Aside0.mk A1070
               clear A1070
               replace H := Option.bind_eq_some_iff.mp H
               obtain ⟨⟨t614, t615, t616, t617, t620⟩, A1080, H⟩ := H
               (try dsimp only at H)
               have A108 := Aside0.mk A1080
               clear A1080
               replace H := Option.bind_eq_some_iff.mp H
               obtain ⟨t622, A1090, H⟩ := H
               (try dsimp only at H)
               have A109 := Aside0.mk A1090
               clear A1090
               by_cases c110 : t622 = x9_68
               ·rw [if_pos c110] at H
                have c110b0 : (t622 == x9_68) = true := beq_iff_eq.mpr c110
                have c110b1 : (t622 != x9_68) = false := bne_eq_false_iff_eq.mpr c110
                clear c110
                by_cases c111 : t609 = true
                ·subst c111
                 rw [if_pos rfl] at H
                 (try dsimp only at H)
                 replace H := Option.bind_eq_some_iff.mp H
                 obtain ⟨t623, A1120, H⟩ := H
                 (try dsimp only at H)
                 have A112 := Aside0.mk A1120
                 clear A1120
                 by_cases c113 : t623 = true
                 ·subst c113
                  rw [if_pos rfl] at H
                  (try dsimp only at H)
                  by_cases c114 : t620 = true
                  ·subst c114
                   rw [if_pos rfl] at H
                   (try dsimp only at H)
                   replace H := Option.bind_eq_some_iff.mp H
                   obtain ⟨t624, A1150, H⟩ := H
                   (try dsimp only at H)
                   have A115 := Aside0.mk A1150
                   clear A1150
                   obtain rfl := Option.some.inj H
                   have hnb116 := NB597_558.out
                   have hnc116 := NB558_597.out
                   have hnb117 := NB597_559.out
                   have hnc117 := NB559_597.out
                   have hnb118 := NB597_589.out
                   have hnc118 := NB589_597.out
                   obtain ⟨hcz119_0, hcz119_1, hcz119_2, hcz119_3⟩ := blk_cells4 BK597.out
                   obtain ⟨hfz119_0, hfz119_1, hfz119_2, hfz119_3⟩ := blk_frozens4 BK597.out
                   go_wp2_with (first | ((with_reducible refine gate_callee (f := 29) rfl ?_); refine goesL_ (some 84) rfl rfl Try.func29 (by kernel_rfl) rfl #[.agg #[.int .i64 t591, .int .i64 t592, .float .f64 b593, .slice Ao81 t594.length co81]] rfl (by (try simp only [List.map_toArray, List.map_cons, List.map_nil]); first | done | rfl) ?_; (with_reducible refine (impl_ValueBytes.calls kj73 t591 t592 b593 _ _ t594 t600 _ ?side1 ?side2 ((impl_ValueBytes.inv0 _ _ _ _ _).symm.trans A105.out)).mono ?_); (case side1 => repeat (first | exact (Kd.R_reads' HO_598003.out).2.2 | (with_reducible refine Kd.C_alloc ?_ _) | (with_reducible refine Kd.C_drewN ?_ _) | (with_reducible refine Kd.C_drew ?_))); (case side2 => exact (Kd.R_reads' HO_598003.out).2.1); rintro e w120 ⟨v601, rfl, ho0, hb⟩; refine ⟨_, rfl, ?_⟩; have n0_ := Aside0.mk (Kd.R_elder' (Kd.rup HO_559003.out) (Kd.R_base ho0) hb); have n1_ := Aside0.mk (Kd.R_elder' (Kd.rup HO_560003.out) (Kd.R_base ho0) hb); have n2_ := Aside0.mk (Kd.R_elder' (Kd.rup HO_590003.out) (Kd.R_base ho0) hb); have n3_ := Aside0.mk (Kd.R_elder' (Kd.rup HO_598003.out) (Kd.R_base ho0) hb); have n4_ := Aside0.mk (Kd.R_lower (Kd.R_new' (Kd.R_new' (Kd.R_new' (Kd.R_new' ho0 (Kd.R_lt (Kd.rup HO_559003.out))) (Kd.R_lt (Kd.rup HO_560003.out))) (Kd.R_lt (Kd.rup HO_590003.out))) (Kd.R_lt (Kd.rup HO_598003.out))) (below_size (hset HB.out))); have n5_ := Aside0.mk (blk_below (bup BK558.out) hb); have n6_ := Aside0.mk (blk_below (bup BK559.out) hb); have n7_ := Aside0.mk (blk_below (bup BK589.out) hb); have n8_ := Aside0.mk (blk_below (bup BK597.out) hb); have n9_ := Aside0.mk (below_step (hset HB.out) hb); clear HO_559003; clear HO_560003; clear HO_590003; clear HO_598003; clear BK558; clear BK559; clear BK589; clear BK597; clear HB; have HO_559003 := n0_; have HO_560003 := n1_; have HO_590003 := n2_; have HO_598003 := n3_; have HO602 := n4_; have BK558 := n5_; have BK559 := n6_; have BK589 := n7_; have BK597 := n8_; have HB := n9_; clear n0_ n1_ n2_ n3_ n4_ n5_ n6_ n7_ n8_ n9_; (try clear hb); (try clear hb2); (try clear hk); (try clear hi); (try clear ho0); obtain ⟨Ao121, co121, eo121⟩ := Kd.R_slice HO602.out; subst eo121) | ((with_reducible refine gate_callee (f := 11) rfl ?_); refine goesL_ (some 85) rfl rfl Try.func11 (by kernel_rfl) rfl #[.slice Ao121 t600.length co121] rfl (by (try simp only [List.map_toArray, List.map_cons, List.map_nil]); first | done | rfl) ?_; (with_reducible refine (impl_ValueRead.calls kj73 _ _ t600 t603 t604 t605 t606 true _ ?side1 ?side2 A106.out).mono ?_); (case side1 => repeat (first | exact (Kd.R_reads' HO602.out).2.2 | (with_reducible refine Kd.C_alloc ?_ _) | (with_reducible refine Kd.C_drewN ?_ _) | (with_reducible refine Kd.C_drew ?_))); (case side2 => exact (Kd.R_reads' HO602.out).2.1); rintro e w122 ⟨v607, rfl, ho0, hb⟩; refine ⟨_, rfl, ?_⟩; have n0_ := Aside0.mk (Kd.R_elder' (Kd.rup HO_559003.out) (Kd.R_base ho0) hb); have n1_ := Aside0.mk (Kd.R_elder' (Kd.rup HO_560003.out) (Kd.R_base ho0) hb); have n2_ := Aside0.mk (Kd.R_elder' (Kd.rup HO_590003.out) (Kd.R_base ho0) hb); have n3_ := Aside0.mk (Kd.R_elder' (Kd.rup HO_598003.out) (Kd.R_base ho0) hb); have n4_ := Aside0.mk (Kd.R_elder' (Kd.rup HO602.out) (Kd.R_base ho0) hb); have n5_ := Aside0.mk (Kd.R_lower (Kd.R_new' (Kd.R_new' (Kd.R_new' (Kd.R_new' (Kd.R_new' ho0 (Kd.R_lt (Kd.rup HO_559003.out))) (Kd.R_lt (Kd.rup HO_560003.out))) (Kd.R_lt (Kd.rup HO_590003.out))) (Kd.R_lt (Kd.rup HO_598003.out))) (Kd.R_lt (Kd.rup HO602.out))) (below_size (hset HB.out))); have n6_ := Aside0.mk (blk_below (bup BK558.out) hb); have n7_ := Aside0.mk (blk_below (bup BK559.out) hb); have n8_ := Aside0.mk (blk_below (bup BK589.out) hb); have n9_ := Aside0.mk (blk_below (bup BK597.out) hb); have n10_ := Aside0.mk (below_step (hset HB.out) hb); clear HO_559003; clear HO_560003; clear HO_590003; clear HO_598003; clear HO602; clear BK558; clear BK559; clear BK589; clear BK597; clear HB; have HO_559003 := n0_; have HO_560003 := n1_; have HO_590003 := n2_; have HO_598003 := n3_; have HO602 := n4_; have HO608 := n5_; have BK558 := n6_; have BK559 := n7_; have BK589 := n8_; have BK597 := n9_; have HB := n10_; clear n0_ n1_ n2_ n3_ n4_ n5_ n6_ n7_ n8_ n9_ n10_; (try clear hb); (try clear hb2); (try clear hk); (try clear hi); (try clear ho0)) | ((with_reducible refine gate_dst (N := 11) rfl ?_); refine box_event ?hg (N := 11) ?hd (cs := #[.int .i64 0, .int .i64 0, .float .f64 0, .slice none 0 0]) (t := 25) ?hr ?_; (case hd => rfl); (case hg => rfl); (case hr => first | (go_simp; done) | (go_simp; rfl)); intro gb610 hg w123 hbox hb; have n0_ := Aside0.mk (Kd.R_below (Kd.rup HO_559003.out) hb); have n1_ := Aside0.mk (Kd.R_below (Kd.rup HO_560003.out) hb); have n2_ := Aside0.mk (Kd.R_below (Kd.rup HO_590003.out) hb); have n3_ := Aside0.mk (Kd.R_below (Kd.rup HO_598003.out) hb); have n4_ := Aside0.mk (Kd.R_below (Kd.rup HO602.out) hb); have n5_ := Aside0.mk (Kd.R_below (Kd.rup HO608.out) hb); have n6_ := Aside0.mk (blk_below (bup BK558.out) hb); have n7_ := Aside0.mk (blk_below (bup BK559.out) hb); have n8_ := Aside0.mk (blk_below (bup BK589.out) hb); have n9_ := Aside0.mk (blk_below (bup BK597.out) hb); have n10_ := Aside0.mk (below_step (hset HB.out) hb); have n11_ := Aside0.mk (hbox); have n12_ := Geq.mk ((by rw [hg]; exact (below_size (hset HB.out)) : w.heap.size ≤ gb610)); have n13_ := Geq.mk ((by rw [hg]; exact (below_size (hset HB.out)) : w.heap.size ≤ gb610)); have n14_ := Neq.mk ((by rw [hg]; exact Nat.ne_of_lt (blk_lt (g := gb558) (o := .cells #[.int .i64 t560, .int .i64 t561, .float .f64 b562, .slice Ao18 t563.length co18] 25 (0, 0)) (bup BK558.out)) : gb558 ≠ gb610)); have n15_ := Neq.mk ((by rw [hg]; exact Nat.ne_of_gt (blk_lt (g := gb558) (o := .cells #[.int .i64 t560, .int .i64 t561, .float .f64 b562, .slice Ao18 t563.length co18] 25 (0, 0)) (bup BK558.out)) : gb610 ≠ gb558)); have n16_ := Neq.mk ((by rw [hg]; exact Nat.ne_of_lt (blk_lt (g := gb559) (o := .cells #[.int .i64 t566, .int .i64 t567, .float .f64 b568, .slice Ao22 t569.length co22] 25 (0, 0)) (bup BK559.out)) : gb559 ≠ gb610)); have n17_ := Neq.mk ((by rw [hg]; exact Nat.ne_of_gt (blk_lt (g := gb559) (o := .cells #[.int .i64 t566, .int .i64 t567, .float .f64 b568, .slice Ao22 t569.length co22] 25 (0, 0)) (bup BK559.out)) : gb610 ≠ gb559)); have n18_ := Neq.mk ((by rw [hg]; exact Nat.ne_of_lt (blk_lt (g := gb589) (o := .cells #[.int .i64 t582, .int .i64 t583, .float .f64 t584, .slice Ao55 t585.length co55] 25 (0, 0)) (bup BK589.out)) : gb589 ≠ gb610)); have n19_ := Neq.mk ((by rw [hg]; exact Nat.ne_of_gt (blk_lt (g := gb589) (o := .cells #[.int .i64 t582, .int .i64 t583, .float .f64 t584, .slice Ao55 t585.length co55] 25 (0, 0)) (bup BK589.out)) : gb610 ≠ gb589)); have n20_ := Neq.mk ((by rw [hg]; exact Nat.ne_of_lt (blk_lt (g := gb597) (o := .cells #[.int .i64 t591, .int .i64 t592, .float .f64 b593, .slice Ao81 t594.length co81] 25 (0, 0)) (bup BK597.out)) : gb597 ≠ gb610)); have n21_ := Neq.mk ((by rw [hg]; exact Nat.ne_of_gt (blk_lt (g := gb597) (o := .cells #[.int .i64 t591, .int .i64 t592, .float .f64 b593, .slice Ao81 t594.length co81] 25 (0, 0)) (bup BK597.out)) : gb610 ≠ gb597)); clear HO_559003; clear HO_560003; clear HO_590003; clear HO_598003; clear HO602; clear HO608; clear BK558; clear BK559; clear BK589; clear BK597; clear HB; have HO_559003 := n0_; have HO_560003 := n1_; have HO_590003 := n2_; have HO_598003 := n3_; have HO602 := n4_; have HO608 := n5_; have BK558 := n6_; have BK559 := n7_; have BK589 := n8_; have BK597 := n9_; have HB := n10_; have BK610 := n11_; have GW610 := n12_; have GE610 := n13_; have NB558_610 := n14_; have NB610_558 := n15_; have NB559_610 := n16_; have NB610_559 := n17_; have NB589_610 := n18_; have NB610_589 := n19_; have NB597_610 := n20_; have NB610_597 := n21_; clear n0_ n1_ n2_ n3_ n4_ n5_ n6_ n7_ n8_ n9_ n10_ n11_ n12_ n13_ n14_ n15_ n16_ n17_ n18_ n19_ n20_ n21_; clear hb hbox hg; have hnb124 := NB610_558.out; have hnc124 := NB558_610.out; have hnb125 := NB610_559.out; have hnc125 := NB559_610.out; have hnb126 := NB610_589.out; have hnc126 := NB589_610.out; have hnb127 := NB610_597.out; have hnc127 := NB597_610.out; obtain ⟨hcz128_0, hcz128_1, hcz128_2, hcz128_3⟩ := blk_cells4 BK610.out; obtain ⟨hfz128_0, hfz128_1, hfz128_2, hfz128_3⟩ := blk_frozens4 BK610.out; obtain ⟨Ao129, co129, eo129⟩ := Kd.R_slice HO608.out; subst eo129) | ((with_reducible refine gate_callee (f := 29) rfl ?_); refine goesL_ (some 92) rfl rfl Try.func29 (by kernel_rfl) rfl #[.agg #[.int .i64 2, .int .i64 0, .float .f64 (fneg 0), .slice none 0 0]] rfl (by (try simp only [List.map_toArray, List.map_cons, List.map_nil]); first | done | rfl) ?_; (refine (impl_ValueBytes.calls kj73 2 0 (fneg 0) _ _ ([] : List Int) t611 _ ?side1 ?side2 A107.out).mono ?_); (case side1 => exact Kd.C_nil _ _); (case side2 => exact Nat.le_refl _); rintro e w130 ⟨v612, rfl, ho0, hb⟩; refine ⟨_, rfl, ?_⟩; have n0_ := Aside0.mk (Kd.R_elder' ((Kd.roff1 HO_559003.out BK610.out (by decide))) (Kd.R_base ho0) hb); have n1_ := Aside0.mk (Kd.R_elder' ((Kd.roff1 HO_560003.out BK610.out (by decide))) (Kd.R_base ho0) hb); have n2_ := Aside0.mk (Kd.R_elder' ((Kd.roff1 HO_590003.out BK610.out (by decide))) (Kd.R_base ho0) hb); have n3_ := Aside0.mk (Kd.R_elder' ((Kd.roff1 HO_598003.out BK610.out (by decide))) (Kd.R_base ho0) hb); have n4_ := Aside0.mk (Kd.R_elder' ((Kd.roff1 HO602.out BK610.out (by decide))) (Kd.R_base ho0) hb); have n5_ := Aside0.mk (Kd.R_elder' ((Kd.roff1 HO608.out BK610.out (by decide))) (Kd.R_base ho0) hb); have n6_ := Aside0.mk (Kd.R_lower (Kd.R_new' (Kd.R_new' (Kd.R_new' (Kd.R_new' (Kd.R_new' (Kd.R_new' ho0 (Kd.R_lt ((Kd.roff1 HO_559003.out BK610.out (by decide))))) (Kd.R_lt ((Kd.roff1 HO_560003.out BK610.out (by decide))))) (Kd.R_lt ((Kd.roff1 HO_590003.out BK610.out (by decide))))) (Kd.R_lt ((Kd.roff1 HO_598003.out BK610.out (by decide))))) (Kd.R_lt ((Kd.roff1 HO602.out BK610.out (by decide))))) (Kd.R_lt ((Kd.roff1 HO608.out BK610.out (by decide))))) (below_size (hset HB.out))); have n7_ := Aside0.mk (blk_below (g := gb558) (o := .cells #[.int .i64 t560, .int .i64 t561, .float .f64 b562, .slice Ao18 t563.length co18] 25 (0, 0)) (bput BK558.out) hb); have n8_ := Aside0.mk (blk_below (g := gb559) (o := .cells #[.int .i64 t566, .int .i64 t567, .float .f64 b568, .slice Ao22 t569.length co22] 25 (0, 0)) (bput BK559.out) hb); have n9_ := Aside0.mk (blk_below (g := gb589) (o := .cells #[.int .i64 t582, .int .i64 t583, .float .f64 t584, .slice Ao55 t585.length co55] 25 (0, 0)) (bput BK589.out) hb); have n10_ := Aside0.mk (blk_below (g := gb597) (o := .cells #[.int .i64 t591, .int .i64 t592, .float .f64 b593, .slice Ao81 t594.length co81] 25 (0, 0)) (bput BK597.out) hb); have n11_ := Aside0.mk (blk_below (g := gb610) (o := .cells #[.int .i64 t603, .int .i64 t604, .float .f64 t605, .slice Ao129 t606.length co129] 25 (0, 0)) (bput BK610.out) hb); have n12_ := Aside0.mk (below_step (hset HB.out) hb); clear HO_559003; clear HO_560003; clear HO_590003; clear HO_598003; clear HO602; clear HO608; clear BK558; clear BK559; clear BK589; clear BK597; clear BK610; clear HB; have HO_559003 := n0_; have HO_560003 := n1_; have HO_590003 := n2_; have HO_598003 := n3_; have HO602 := n4_; have HO608 := n5_; have HO613 := n6_; have BK558 := n7_; have BK559 := n8_; have BK589 := n9_; have BK597 := n10_; have BK610 := n11_; have HB := n12_; clear n0_ n1_ n2_ n3_ n4_ n5_ n6_ n7_ n8_ n9_ n10_ n11_ n12_; (try clear hb); (try clear hb2); (try clear hk); (try clear hi); (try clear ho0); obtain ⟨Ao131, co131, eo131⟩ := Kd.R_slice HO613.out; subst eo131) | ((with_reducible refine gate_callee (f := 11) rfl ?_); refine goesL_ (some 93) rfl rfl Try.func11 (by kernel_rfl) rfl #[.slice Ao131 t611.length co131] rfl (by (try simp only [List.map_toArray, List.map_cons, List.map_nil]); first | done | rfl) ?_; (with_reducible refine (impl_ValueRead.calls kj73 _ _ t611 t614 t615 t616 t617 true _ ?side1 ?side2 A108.out).mono ?_); (case side1 => repeat (first | exact (Kd.R_reads' HO613.out).2.2 | (with_reducible refine Kd.C_alloc ?_ _) | (with_reducible refine Kd.C_drewN ?_ _) | (with_reducible refine Kd.C_drew ?_))); (case side2 => exact (Kd.R_reads' HO613.out).2.1); rintro e w132 ⟨v618, rfl, ho0, hb⟩; refine ⟨_, rfl, ?_⟩; have n0_ := Aside0.mk (Kd.R_elder' (Kd.rup HO_559003.out) (Kd.R_base ho0) hb); have n1_ := Aside0.mk (Kd.R_elder' (Kd.rup HO_560003.out) (Kd.R_base ho0) hb); have n2_ := Aside0.mk (Kd.R_elder' (Kd.rup HO_590003.out) (Kd.R_base ho0) hb); have n3_ := Aside0.mk (Kd.R_elder' (Kd.rup HO_598003.out) (Kd.R_base ho0) hb); have n4_ := Aside0.mk (Kd.R_elder' (Kd.rup HO602.out) (Kd.R_base ho0) hb); have n5_ := Aside0.mk (Kd.R_elder' (Kd.rup HO608.out) (Kd.R_base ho0) hb); have n6_ := Aside0.mk (Kd.R_elder' (Kd.rup HO613.out) (Kd.R_base ho0) hb); have n7_ := Aside0.mk (Kd.R_lower (Kd.R_new' (Kd.R_new' (Kd.R_new' (Kd.R_new' (Kd.R_new' (Kd.R_new' (Kd.R_new' ho0 (Kd.R_lt (Kd.rup HO_559003.out))) (Kd.R_lt (Kd.rup HO_560003.out))) (Kd.R_lt (Kd.rup HO_590003.out))) (Kd.R_lt (Kd.rup HO_598003.out))) (Kd.R_lt (Kd.rup HO602.out))) (Kd.R_lt (Kd.rup HO608.out))) (Kd.R_lt (Kd.rup HO613.out))) (below_size (hset HB.out))); have n8_ := Aside0.mk (blk_below (bup BK558.out) hb); have n9_ := Aside0.mk (blk_below (bup BK559.out) hb); have n10_ := Aside0.mk (blk_below (bup BK589.out) hb); have n11_ := Aside0.mk (blk_below (bup BK597.out) hb); have n12_ := Aside0.mk (blk_below (bup BK610.out) hb); have n13_ := Aside0.mk (below_step (hset HB.out) hb); clear HO_559003; clear HO_560003; clear HO_590003; clear HO_598003; clear HO602; clear HO608; clear HO613; clear BK558; clear BK559; clear BK589; clear BK597; clear BK610; clear HB; have HO_559003 := n0_; have HO_560003 := n1_; have HO_590003 := n2_; have HO_598003 := n3_; have HO602 := n4_; have HO608 := n5_; have HO613 := n6_; have HO619 := n7_; have BK558 := n8_; have BK559 := n9_; have BK589 := n10_; have BK597 := n11_; have BK610 := n12_; have HB := n13_; clear n0_ n1_ n2_ n3_ n4_ n5_ n6_ n7_ n8_ n9_ n10_ n11_ n12_ n13_; (try clear hb); (try clear hb2); (try clear hk); (try clear hi); (try clear ho0)) | ((with_reducible refine gate_dst (N := 14) rfl ?_); refine box_event ?hg (N := 14) ?hd (cs := #[.int .i64 0, .int .i64 0, .float .f64 0, .slice none 0 0]) (t := 25) ?hr ?_; (case hd => rfl); (case hg => rfl); (case hr => first | (go_simp; done) | (go_simp; rfl)); intro gb621 hg w133 hbox hb; have n0_ := Aside0.mk (Kd.R_below (Kd.rup HO_559003.out) hb); have n1_ := Aside0.mk (Kd.R_below (Kd.rup HO_560003.out) hb); have n2_ := Aside0.mk (Kd.R_below (Kd.rup HO_590003.out) hb); have n3_ := Aside0.mk (Kd.R_below (Kd.rup HO_598003.out) hb); have n4_ := Aside0.mk (Kd.R_below (Kd.rup HO602.out) hb); have n5_ := Aside0.mk (Kd.R_below (Kd.rup HO608.out) hb); have n6_ := Aside0.mk (Kd.R_below (Kd.rup HO613.out) hb); have n7_ := Aside0.mk (Kd.R_below (Kd.rup HO619.out) hb); have n8_ := Aside0.mk (blk_below (bup BK558.out) hb); have n9_ := Aside0.mk (blk_below (bup BK559.out) hb); have n10_ := Aside0.mk (blk_below (bup BK589.out) hb); have n11_ := Aside0.mk (blk_below (bup BK597.out) hb); have n12_ := Aside0.mk (blk_below (bup BK610.out) hb); have n13_ := Aside0.mk (below_step (hset HB.out) hb); have n14_ := Aside0.mk (hbox); have n15_ := Geq.mk ((by rw [hg]; exact (below_size (hset HB.out)) : w.heap.size ≤ gb621)); have n16_ := Geq.mk ((by rw [hg]; exact (below_size (hset HB.out)) : w.heap.size ≤ gb621)); have n17_ := Neq.mk ((by rw [hg]; exact Nat.ne_of_lt (blk_lt (g := gb558) (o := .cells #[.int .i64 t560, .int .i64 t561, .float .f64 b562, .slice Ao18 t563.length co18] 25 (0, 0)) (bup BK558.out)) : gb558 ≠ gb621)); have n18_ := Neq.mk ((by rw [hg]; exact Nat.ne_of_gt (blk_lt (g := gb558) (o := .cells #[.int .i64 t560, .int .i64 t561, .float .f64 b562, .slice Ao18 t563.length co18] 25 (0, 0)) (bup BK558.out)) : gb621 ≠ gb558)); have n19_ := Neq.mk ((by rw [hg]; exact Nat.ne_of_lt (blk_lt (g := gb559) (o := .cells #[.int .i64 t566, .int .i64 t567, .float .f64 b568, .slice Ao22 t569.length co22] 25 (0, 0)) (bup BK559.out)) : gb559 ≠ gb621)); have n20_ := Neq.mk ((by rw [hg]; exact Nat.ne_of_gt (blk_lt (g := gb559) (o := .cells #[.int .i64 t566, .int .i64 t567, .float .f64 b568, .slice Ao22 t569.length co22] 25 (0, 0)) (bup BK559.out)) : gb621 ≠ gb559)); have n21_ := Neq.mk ((by rw [hg]; exact Nat.ne_of_lt (blk_lt (g := gb589) (o := .cells #[.int .i64 t582, .int .i64 t583, .float .f64 t584, .slice Ao55 t585.length co55] 25 (0, 0)) (bup BK589.out)) : gb589 ≠ gb621)); have n22_ := Neq.mk ((by rw [hg]; exact Nat.ne_of_gt (blk_lt (g := gb589) (o := .cells #[.int .i64 t582, .int .i64 t583, .float .f64 t584, .slice Ao55 t585.length co55] 25 (0, 0)) (bup BK589.out)) : gb621 ≠ gb589)); have n23_ := Neq.mk ((by rw [hg]; exact Nat.ne_of_lt (blk_lt (g := gb597) (o := .cells #[.int .i64 t591, .int .i64 t592, .float .f64 b593, .slice Ao81 t594.length co81] 25 (0, 0)) (bup BK597.out)) : gb597 ≠ gb621)); have n24_ := Neq.mk ((by rw [hg]; exact Nat.ne_of_gt (blk_lt (g := gb597) (o := .cells #[.int .i64 t591, .int .i64 t592, .float .f64 b593, .slice Ao81 t594.length co81] 25 (0, 0)) (bup BK597.out)) : gb621 ≠ gb597)); have n25_ := Neq.mk ((by rw [hg]; exact Nat.ne_of_lt (blk_lt (g := gb610) (o := .cells #[.int .i64 t603, .int .i64 t604, .float .f64 t605, .slice Ao129 t606.length co129] 25 (0, 0)) (bup BK610.out)) : gb610 ≠ gb621)); have n26_ := Neq.mk ((by rw [hg]; exact Nat.ne_of_gt (blk_lt (g := gb610) (o := .cells #[.int .i64 t603, .int .i64 t604, .float .f64 t605, .slice Ao129 t606.length co129] 25 (0, 0)) (bup BK610.out)) : gb621 ≠ gb610)); clear HO_559003; clear HO_560003; clear HO_590003; clear HO_598003; clear HO602; clear HO608; clear HO613; clear HO619; clear BK558; clear BK559; clear BK589; clear BK597; clear BK610; clear HB; have HO_559003 := n0_; have HO_560003 := n1_; have HO_590003 := n2_; have HO_598003 := n3_; have HO602 := n4_; have HO608 := n5_; have HO613 := n6_; have HO619 := n7_; have BK558 := n8_; have BK559 := n9_; have BK589 := n10_; have BK597 := n11_; have BK610 := n12_; have HB := n13_; have BK621 := n14_; have GW621 := n15_; have GE621 := n16_; have NB558_621 := n17_; have NB621_558 := n18_; have NB559_621 := n19_; have NB621_559 := n20_; have NB589_621 := n21_; have NB621_589 := n22_; have NB597_621 := n23_; have NB621_597 := n24_; have NB610_621 := n25_; have NB621_610 := n26_; clear n0_ n1_ n2_ n3_ n4_ n5_ n6_ n7_ n8_ n9_ n10_ n11_ n12_ n13_ n14_ n15_ n16_ n17_ n18_ n19_ n20_ n21_ n22_ n23_ n24_ n25_ n26_; clear hb hbox hg; have hnb134 := NB621_558.out; have hnc134 := NB558_621.out; have hnb135 := NB621_559.out; have hnc135 := NB559_621.out; have hnb136 := NB621_589.out; have hnc136 := NB589_621.out; have hnb137 := NB621_597.out; have hnc137 := NB597_621.out; have hnb138 := NB621_610.out; have hnc138 := NB610_621.out; obtain ⟨hcz139_0, hcz139_1, hcz139_2, hcz139_3⟩ := blk_cells4 BK621.out; obtain ⟨hfz139_0, hfz139_1, hfz139_2, hfz139_3⟩ := blk_frozens4 BK621.out; obtain ⟨Ao140, co140, eo140⟩ := Kd.R_slice HO619.out; subst eo140; have hnb141 := NB558_559.out; have hnc141 := NB559_558.out; have hnb142 := NB558_589.out; have hnc142 := NB589_558.out; obtain ⟨hcz143_0, hcz143_1, hcz143_2, hcz143_3⟩ := blk_cells4 BK558.out; obtain ⟨hfz143_0, hfz143_1, hfz143_2, hfz143_3⟩ := blk_frozens4 BK558.out; have hnb144 := NB559_589.out; have hnc144 := NB589_559.out; obtain ⟨hcz145_0, hcz145_1, hcz145_2, hcz145_3⟩ := blk_cells4 BK559.out; obtain ⟨hfz145_0, hfz145_1, hfz145_2, hfz145_3⟩ := blk_frozens4 BK559.out) | ((with_reducible refine gate_callee (f := 28) rfl ?_); refine goesL_ (some 98) rfl rfl Try.func28 (by kernel_rfl) rfl #[.agg #[.int .i64 t560, .int .i64 t561, .float .f64 b562, .slice Ao18 t563.length co18], .agg #[.int .i64 t566, .int .i64 t567, .float .f64 b568, .slice Ao22 t569.length co22]] rfl (by (try simp only [List.map_toArray, List.map_cons, List.map_nil]); first | done | rfl) ?_; (with_reducible refine (impl_ItemCompare.calls kj73 t560 t561 b562 _ _ t563 t566 t567 b568 _ _ t569 t622 _ ?side1 ?side2 ?side3 ?side4 ((impl_ItemCompare.inv1 _ _ _ _ _ _ _ _ _).symm.trans ((impl_ItemCompare.inv0 _ _ _ _ _ _ _ _ _).symm.trans A109.out))).mono ?_); (case side1 => refine (Kd.R_reads' (e := 5) (base := w.heap.size) (ok := fun k_ => (((((some k_ ≠ (.slice Ao22 t569.length co22 : Value).ownBlock ∧ (some k_ ≠ (.slice Ao55 t585.length co55 : Value).ownBlock ∧ some k_ ≠ (.slice Ao81 t594.length co81 : Value).ownBlock)) ∧ some k_ ≠ (.slice Ao121 t600.length co121 : Value).ownBlock) ∧ some k_ ≠ (.slice Ao129 t606.length co129 : Value).ownBlock) ∧ some k_ ≠ (.slice Ao131 t611.length co131 : Value).ownBlock) ∧ some k_ ≠ (.slice Ao140 t617.length co140 : Value).ownBlock)) (n := t563.length) (c := co18) ?_).2.2; exact ((Kd.roff1 HO_559003.out BK621.out (by decide)))); (case side2 => exact (Kd.R_reads' HO_559003.out).2.1); (case side3 => refine (Kd.R_reads' (e := 5) (base := w.heap.size) (ok := fun k_ => (((((some k_ ≠ (.slice Ao18 t563.length co18 : Value).ownBlock ∧ (some k_ ≠ (.slice Ao55 t585.length co55 : Value).ownBlock ∧ some k_ ≠ (.slice Ao81 t594.length co81 : Value).ownBlock)) ∧ some k_ ≠ (.slice Ao121 t600.length co121 : Value).ownBlock) ∧ some k_ ≠ (.slice Ao129 t606.length co129 : Value).ownBlock) ∧ some k_ ≠ (.slice Ao131 t611.length co131 : Value).ownBlock) ∧ some k_ ≠ (.slice Ao140 t617.length co140 : Value).ownBlock)) (n := t569.length) (c := co22) ?_).2.2; exact ((Kd.roff1 HO_560003.out BK621.out (by decide)))); (case side4 => exact (Kd.R_reads' HO_560003.out).2.1); rintro e w146 ⟨rfl, hb⟩; refine ⟨_, rfl, ?_⟩; have n0_ := Aside0.mk (Kd.R_below ((Kd.roff1 HO_559003.out BK621.out (by decide))) hb); have n1_ := Aside0.mk (Kd.R_below ((Kd.roff1 HO_560003.out BK621.out (by decide))) hb); have n2_ := Aside0.mk (Kd.R_below ((Kd.roff1 HO_590003.out BK621.out (by decide))) hb); have n3_ := Aside0.mk (Kd.R_below ((Kd.roff1 HO_598003.out BK621.out (by decide))) hb); have n4_ := Aside0.mk (Kd.R_below ((Kd.roff1 HO602.out BK621.out (by decide))) hb); have n5_ := Aside0.mk (Kd.R_below ((Kd.roff1 HO608.out BK621.out (by decide))) hb); have n6_ := Aside0.mk (Kd.R_below ((Kd.roff1 HO613.out BK621.out (by decide))) hb); have n7_ := Aside0.mk (Kd.R_below ((Kd.roff1 HO619.out BK621.out (by decide))) hb); have n8_ := Aside0.mk (blk_below (g := gb558) (o := .cells #[.int .i64 t560, .int .i64 t561, .float .f64 b562, .slice Ao18 t563.length co18] 25 (0, 0)) (bput BK558.out) hb); have n9_ := Aside0.mk (blk_below (g := gb559) (o := .cells #[.int .i64 t566, .int .i64 t567, .float .f64 b568, .slice Ao22 t569.length co22] 25 (0, 0)) (bput BK559.out) hb); have n10_ := Aside0.mk (blk_below (g := gb589) (o := .cells #[.int .i64 t582, .int .i64 t583, .float .f64 t584, .slice Ao55 t585.length co55] 25 (0, 0)) (bput BK589.out) hb); have n11_ := Aside0.mk (blk_below (g := gb597) (o := .cells #[.int .i64 t591, .int .i64 t592, .float .f64 b593, .slice Ao81 t594.length co81] 25 (0, 0)) (bput BK597.out) hb); have n12_ := Aside0.mk (blk_below (g := gb610) (o := .cells #[.int .i64 t603, .int .i64 t604, .float .f64 t605, .slice Ao129 t606.length co129] 25 (0, 0)) (bput BK610.out) hb); have n13_ := Aside0.mk (blk_below (g := gb621) (o := .cells #[.int .i64 t614, .int .i64 t615, .float .f64 t616, .slice Ao140 t617.length co140] 25 (0, 0)) (bput BK621.out) hb); have n14_ := Aside0.mk (below_step (hset HB.out) hb); clear HO_559003; clear HO_560003; clear HO_590003; clear HO_598003; clear HO602; clear HO608; clear HO613; clear HO619; clear BK558; clear BK559; clear BK589; clear BK597; clear BK610; clear BK621; clear HB; have HO_559003 := n0_; have HO_560003 := n1_; have HO_590003 := n2_; have HO_598003 := n3_; have HO602 := n4_; have HO608 := n5_; have HO613 := n6_; have HO619 := n7_; have BK558 := n8_; have BK559 := n9_; have BK589 := n10_; have BK597 := n11_; have BK610 := n12_; have BK621 := n13_; have HB := n14_; clear n0_ n1_ n2_ n3_ n4_ n5_ n6_ n7_ n8_ n9_ n10_ n11_ n12_ n13_ n14_; (try clear hb); (try clear hb2); (try clear hk); (try clear hi); obtain ⟨hcz147_0, hcz147_1, hcz147_2, hcz147_3⟩ := blk_cells4 BK610.out; obtain ⟨hfz147_0, hfz147_1, hfz147_2, hfz147_3⟩ := blk_frozens4 BK610.out; obtain ⟨hcz148_0, hcz148_1, hcz148_2, hcz148_3⟩ := blk_cells4 BK597.out; obtain ⟨hfz148_0, hfz148_1, hfz148_2, hfz148_3⟩ := blk_frozens4 BK597.out) | (go_at_call 25; (with_reducible refine (laws_sameItem.calls kj73 t603 t604 t605 _ _ t606 t591 t592 b593 _ _ t594 true _ ?side1 ?side2 ?side3 ?side4 ((laws_sameItem.inv1 _ _ _ _ _ _ _ _ _).symm.trans A112.out)).mono ?_); (case side1 => repeat (first | exact (Kd.R_reads' HO608.out).2.2 | (with_reducible refine Kd.C_alloc ?_ _) | (with_reducible refine Kd.C_drewN ?_ _) | (with_reducible refine Kd.C_drew ?_))); (case side2 => exact (Kd.R_reads' HO608.out).2.1); (case side3 => repeat (first | exact (Kd.R_reads' HO_598003.out).2.2 | (with_reducible refine Kd.C_alloc ?_ _) | (with_reducible refine Kd.C_drewN ?_ _) | (with_reducible refine Kd.C_drew ?_))); (case side4 => exact (Kd.R_reads' HO_598003.out).2.1); rintro e w149 ⟨rfl, hb⟩; have n0_ := Aside0.mk (Kd.R_below (Kd.rup HO_559003.out) hb); have n1_ := Aside0.mk (Kd.R_below (Kd.rup HO_560003.out) hb); have n2_ := Aside0.mk (Kd.R_below (Kd.rup HO_590003.out) hb); have n3_ := Aside0.mk (Kd.R_below (Kd.rup HO_598003.out) hb); have n4_ := Aside0.mk (Kd.R_below (Kd.rup HO602.out) hb); have n5_ := Aside0.mk (Kd.R_below (Kd.rup HO608.out) hb); have n6_ := Aside0.mk (Kd.R_below (Kd.rup HO613.out) hb); have n7_ := Aside0.mk (Kd.R_below (Kd.rup HO619.out) hb); have n8_ := Aside0.mk (blk_below (bup BK558.out) hb); have n9_ := Aside0.mk (blk_below (bup BK559.out) hb); have n10_ := Aside0.mk (blk_below (bup BK589.out) hb); have n11_ := Aside0.mk (blk_below (bup BK597.out) hb); have n12_ := Aside0.mk (blk_below (bup BK610.out) hb); have n13_ := Aside0.mk (blk_below (bup BK621.out) hb); have n14_ := Aside0.mk (below_step (hset HB.out) hb); clear HO_559003; clear HO_560003; clear HO_590003; clear HO_598003; clear HO602; clear HO608; clear HO613; clear HO619; clear BK558; clear BK559; clear BK589; clear BK597; clear BK610; clear BK621; clear HB; have HO_559003 := n0_; have HO_560003 := n1_; have HO_590003 := n2_; have HO_598003 := n3_; have HO602 := n4_; have HO608 := n5_; have HO613 := n6_; have HO619 := n7_; have BK558 := n8_; have BK559 := n9_; have BK589 := n10_; have BK597 := n11_; have BK610 := n12_; have BK621 := n13_; have HB := n14_; clear n0_ n1_ n2_ n3_ n4_ n5_ n6_ n7_ n8_ n9_ n10_ n11_ n12_ n13_ n14_; (try clear hb); (try clear hb2); (try clear hk); (try clear hi); obtain ⟨hcz150_0, hcz150_1, hcz150_2, hcz150_3⟩ := blk_cells4 BK621.out; obtain ⟨hfz150_0, hfz150_1, hfz150_2, hfz150_3⟩ := blk_frozens4 BK621.out) | (go_at_call 30; (with_reducible refine (spec_FloatBits.calls kj73 t616 t624 _ A115.out).mono ?_); rintro e w' ⟨rfl, ⟨nd, rfl⟩⟩))
                   go_ret
                   exact ⟨by first | rfl | (simp [errW_none, errW_some] <;> rfl) | (simp [*, errW_none, errW_some] <;> rfl), hset HB.out⟩
                  ·replace c114 := Bool.eq_false_iff.mpr c114
                   subst c114
                   rw [if_neg (show ¬ (false = true) by decide)] at H
                   (try dsimp only at H)
                   cases (Option.some.inj H).trans hT
                 ·replace c113 := Bool.eq_false_iff.mpr c113
                  subst c113
                  rw [if_neg (show ¬ (false = true) by decide)] at H
                  (try dsimp only at H)
                  cases (Option.some.inj H).trans hT
                ·replace c111 := Bool.eq_false_iff.mpr c111
                 subst c111
                 rw [if_neg (show ¬ (false = true) by decide)] at H
                 (try dsimp only at H)
                 cases (Option.some.inj H).trans hT
               ·rw [if_neg c110] at H
                have c110b0 : (t622 == x9_68) = false := beq_eq_false_iff_ne.mpr c110
                have c110b1 : (t622 != x9_68) = true := bne_iff_ne.mpr c110
                cases (Option.some.inj H).trans hT
/-- THE ONE PURE STATEMENT of laws_FnKeys: yours. -/
def laws_FnKeys.Pure : Prop := ∀ (l0 : List Int), l0.length ≤ maxLen → l0.length * 1 ≤ 140737488351232 → (∀ x ∈ l0, (Lit.int .u8 x).wf = true) → ∃ k, laws_FnKeys.f k l0 = some true
theorem laws_FnKeys.walk (P : laws_FnKeys.Pure) (a0 : Option Addr) (len0 cap0 : Nat) (z0 : List Int) (w : World) (w0 : (a0 = none ∧ len0 = 0 ∧ cap0 = 0 ∧ z0 = []) ∨ ∃ x, a0 = some x ∧ len0 ≤ cap0 ∧ cap0 ≤ maxLen ∧ z0.length = cap0 ∧ (∀ i, i < z0.length → w.cell? (x.add i) = some (.int .u8 (z0.getD i 0))) ∧ ∀ n ∈ z0, (Lit.int .u8 n).wf = true) (y0 : len0 * 1 ≤ 140737488351232) :
  Calls Try.prog 5 #[.slice a0 len0 cap0] w fun e w' => e = .returned (.bool true) ∧ Below w.heap.size w w' := by
 obtain ⟨l0, rfl, hr0, hm0, hw0, hc0⟩ := ReadsInt.ofRowC w0
 obtain ⟨k, h⟩ := P l0 hm0 y0 hw0
 refine (laws_FnKeys.calls k _ _ l0 true w (Kd.C_of_reads (d := (0 : Int)) (h1 := fun _ => rfl) hr0) hc0 h).mono ?_
 rintro e w' ⟨rfl, hd⟩
 exact ⟨rfl, hd⟩
end Go.Proofs.Ytjjkhlphdbmdfaa.PFnKeys

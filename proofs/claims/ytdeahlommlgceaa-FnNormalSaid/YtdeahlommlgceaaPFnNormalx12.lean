-- Written by a program of this repo (wip/gen/gen.py) over the kit's print.
-- (slim)
import Derived.Test.YtdeahlommlgceaaPFnNormalx0
import Derived.Test.YtdeahlommlgceaaPFnNormalx3
import Derived.Test.YtdeahlommlgceaaPFnNormalx5
import Derived.Test.YtdeahlommlgceaaPFnNormalx7
import Derived.Test.YtdeahlommlgceaaPFnNormalx8
import Derived.Test.YtdeahlommlgceaaPFnNormalx9
import Derived.Test.YtdeahlommlgceaaPFnNormalx10
import Derived.Test.YtdeahlommlgceaaPFnNormalx11
namespace Go.Proofs.Ytdeahlommlgceaa.PFnNormal
open Go.RowKit Go.Proofs.YtdeahlommlgceaaW.PrintWords Go.Proofs.YtdeahlommlgceaaW.PrintLast Go.Proofs.YtdeahlommlgceaaW.PrintMore
attribute [local go_sem] max2_int min2_int max_two min_two max_three min_three max_four min_four   -- for this text's walks alone
set_option linter.unusedVariables false
set_option maxHeartbeats 8000000
set_option maxRecDepth 100000
set_option linter.unusedSimpArgs false

/-! ### laws_FnNormal: function 5 -/
mutual
def laws_FnNormal.j0 : Nat → List Int → List Int → List Int → Bool → List Int → List Int → Bool → Bool → Option (Bool)
 | 0, _, _, _, _, _, _, _, _ => none
 | k + 1, x3, x4, x5, x6, x7, x8, x9, x56 => if x56 = true then (if (x6 == x9) = true then ((laws_sameInts.f k x4 x7).bind fun t454 => (if t454 = true then ((laws_sameInts.f k x5 x8).bind fun t455 => (some t455)) else (some false))) else (some false)) else (if 0 < (x4.length : Int) then (if 1 < (x4.length : Int) then (if 2 < (x4.length : Int) then ((laws_sizeOf.f (wrap64 ((wrap64 ((rd x4 0) * (rd x4 1))) * (rd x4 2)))).bind fun t459 => (if 0 < (x3.length : Int) then (if 1 < (x3.length : Int) then (if 2 < (x3.length : Int) then ((laws_sizeOf.f (wrap64 ((wrap64 ((rd x3 0) * (rd x3 1))) * (rd x3 2)))).bind fun t463 => ((impl_ZeroSearch.f k x4).bind fun bt464 => (laws_FnNormal.l0 k x3 x4 x5 t459 t463 bt464.1 bt464.2 (([] : List Int)) 0))) else (none)) else (none)) else (none))) else (none)) else (none)) else (none))
def laws_FnNormal.l0 : Nat → List Int → List Int → List Int → Int → Int → List Int → Bool → List Int → Int → Option (Bool)
 | 0, _, _, _, _, _, _, _, _, _ => none
 | k + 1, x3, x4, x5, x10, x11, x12, x13, x14, x15 => if x15 < (x12.length : Int) then (if 0 ≤ x15 then (if x15 < (x5.length : Int) then (if x14.length < 17592186044416 then (laws_FnNormal.l0 k x3 x4 x5 x10 x11 x12 x13 (x14 ++ [wrap64 ((rd x12 x15) * (rd x5 x15))]) (wrap64 (x15 + 1))) else (none)) else (none)) else (none)) else (laws_FnNormal.l1 k x3 x4 x5 x10 x11 x13 x14 0)
def laws_FnNormal.l1 : Nat → List Int → List Int → List Int → Int → Int → Bool → List Int → Int → Option (Bool)
 | 0, _, _, _, _, _, _, _, _ => none
 | k + 1, x3, x4, x5, x10, x11, x13, x14, x16 => if x16 < 3 then (if 0 ≤ x16 then (if x16 < (x4.length : Int) then ((impl_CoreOf.f k (rd x4 x16)).bind fun bt481 => (if bt481.2.2 = true then (if bt481.1 = (rd x4 x16) then (if bt481.2.1 = 1 then (if 0 ≤ (Int.tmod (wrap64 (x16 + 1)) 3) then (if (Int.tmod (wrap64 (x16 + 1)) 3) < (x4.length : Int) then ((impl_GcdOf.f k (rd x4 x16) (rd x4 (Int.tmod (wrap64 (x16 + 1)) 3))).bind fun t487 => (if t487 > 1 then (some false) else (if x16 < (x5.length : Int) then (if (rd x5 x16) < 1 then (some false) else (laws_FnNormal.l1 k x3 x4 x5 x10 x11 x13 x14 (wrap64 (x16 + 1)))) else (none)))) else (none)) else (none)) else (some false)) else (some false)) else (if 0 ≤ (Int.tmod (wrap64 (x16 + 1)) 3) then (if (Int.tmod (wrap64 (x16 + 1)) 3) < (x4.length : Int) then ((impl_GcdOf.f k (rd x4 x16) (rd x4 (Int.tmod (wrap64 (x16 + 1)) 3))).bind fun t491 => (if t491 > 1 then (some false) else (if x16 < (x5.length : Int) then (if (rd x5 x16) < 1 then (some false) else (laws_FnNormal.l1 k x3 x4 x5 x10 x11 x13 x14 (wrap64 (x16 + 1)))) else (none)))) else (none)) else (none)))) else (none)) else (none)) else (if x10 ≤ x11 then ((impl_FormBad.f k x3).bind fun t476 => (if (x13 == ((t476.length : Int) == 0)) = true then (if x13 = true then ((impl_ZeroIs.f k x3 x14).bind fun t479 => (some t479)) else (some true)) else (some false))) else (some false))
end
def laws_FnNormal.f (k : Nat) (l0 : List Int) : Option (Bool) := if (l0.length : Int) > 1048576 then (some true) else ((spec_DrawZeroNormal.f k l0).bind fun t435 => ((impl_ZeroNormal.f k t435).bind fun bt438 => ((spec_ZeroNormal.f k t435).bind fun bt445 => (if (bt438.2.2 != bt445.2.2) = true then (laws_FnNormal.j0 k t435 bt438.1 bt438.2.1 bt438.2.2 bt445.1 bt445.2.1 bt445.2.2 true) else ((laws_sameInts.f k bt438.1 bt445.1).bind fun t452 => (if t452 = true then ((laws_sameInts.f k bt438.2.1 bt445.2.1).bind fun t453 => (if t453 = true then (laws_FnNormal.j0 k t435 bt438.1 bt438.2.1 bt438.2.2 bt445.1 bt445.2.1 bt445.2.2 (!bt438.2.2)) else (laws_FnNormal.j0 k t435 bt438.1 bt438.2.1 bt438.2.2 bt445.1 bt445.2.1 bt445.2.2 true))) else (laws_FnNormal.j0 k t435 bt438.1 bt438.2.1 bt438.2.2 bt445.1 bt445.2.1 bt445.2.2 true)))))))
theorem laws_FnNormal.mono_l : ∀ k, (∀ y0 y1 y2 y3 y4 y5 y6 y7, LeO (laws_FnNormal.j0 k y0 y1 y2 y3 y4 y5 y6 y7) (laws_FnNormal.j0 (k + 1) y0 y1 y2 y3 y4 y5 y6 y7)) ∧ (∀ y0 y1 y2 y3 y4 y5 y6 y7 y8, LeO (laws_FnNormal.l0 k y0 y1 y2 y3 y4 y5 y6 y7 y8) (laws_FnNormal.l0 (k + 1) y0 y1 y2 y3 y4 y5 y6 y7 y8)) ∧ (∀ y0 y1 y2 y3 y4 y5 y6 y7, LeO (laws_FnNormal.l1 k y0 y1 y2 y3 y4 y5 y6 y7) (laws_FnNormal.l1 (k + 1) y0 y1 y2 y3 y4 y5 y6 y7))
 | 0 => ⟨fun _ _ _ _ _ _ _ _ r h => by simp [laws_FnNormal.j0] at h, fun _ _ _ _ _ _ _ _ _ r h => by simp [laws_FnNormal.l0] at h, fun _ _ _ _ _ _ _ _ r h => by simp [laws_FnNormal.l1] at h⟩
 | k + 1 => by
  obtain ⟨ih0, ih1, ih2⟩ := laws_FnNormal.mono_l k
  refine ⟨?_, ?_, ?_⟩
  · intro y0 y1 y2 y3 y4 y5 y6 y7
    unfold laws_FnNormal.j0
    exact mo_
  · intro y0 y1 y2 y3 y4 y5 y6 y7 y8
    unfold laws_FnNormal.l0
    exact mo_
  intro y0 y1 y2 y3 y4 y5 y6 y7
  unfold laws_FnNormal.l1
  exact mo_
theorem laws_FnNormal.mono : ∀ a0 k, LeO (laws_FnNormal.f k a0) (laws_FnNormal.f (k + 1) a0) := by
 intro a0 k
 obtain ⟨ih0, ih1, ih2⟩ := laws_FnNormal.mono_l k
 unfold laws_FnNormal.f
 exact mo_
def laws_FnNormal.T8 : Bool × List (List Nat × List Nat) := (true, [([], []), ([0], [0]), ([1], [1]), ([], []), ([3], [3]), ([4], [4]), ([2, 5], [2, 5]), ([], []), ([7], [7]), ([8], [8]), ([6, 9], [6, 9]), ([10], [10]), ([11, 11, 0, 1, 2, 3, 4, 5, 6, 7, 8, 9, 10, 11], [11])])
def laws_FnNormal.B8 : List Nat := [0, 1, 3, 0, 8, 24, 63, 0, 128, 384, 1023, 2047, 4095]
theorem laws_FnNormal.tab8 : rtab .any (opsOf Try.f5 8) = laws_FnNormal.T8 := by kernel_rfl
theorem laws_FnNormal.bits8 : waitsOk laws_FnNormal.T8.2 laws_FnNormal.B8 = true := by kernel_rfl
def laws_FnNormal.T9 : Bool × List (List Nat × List Nat) := (true, [([], []), ([0], [0]), ([1], [1]), ([], []), ([3], [3]), ([4], [4]), ([2, 5], [2, 5]), ([], []), ([7], [7]), ([8], [8]), ([6, 9], [6, 9]), ([10], [10]), ([11, 11, 0, 1, 2, 3, 4, 5, 6, 7, 8, 9, 10, 11], [11])])
def laws_FnNormal.B9 : List Nat := [0, 1, 3, 0, 8, 24, 63, 0, 128, 384, 1023, 2047, 4095]
theorem laws_FnNormal.tab9 : rtab .any (opsOf Try.f5 9) = laws_FnNormal.T9 := by kernel_rfl
theorem laws_FnNormal.bits9 : waitsOk laws_FnNormal.T9.2 laws_FnNormal.B9 = true := by kernel_rfl
def laws_FnNormal.T15 : Bool × List (List Nat × List Nat) := (true, [([], []), ([], []), ([], []), ([1, 2], [1, 2]), ([3], [3]), ([], []), ([], []), ([5, 6], [5, 6]), ([7], [7]), ([4, 8], [4, 8]), ([9], [9]), ([0, 10], [0, 10]), ([11, 11, 0, 1, 2, 3, 4, 5, 6, 7, 8, 9, 10, 11], [0, 11])])
def laws_FnNormal.B15 : List Nat := [0, 0, 0, 6, 14, 0, 0, 96, 224, 510, 1022, 2047, 4095]
theorem laws_FnNormal.tab15 : rtab .any (opsOf Try.f5 15) = laws_FnNormal.T15 := by kernel_rfl
theorem laws_FnNormal.bits15 : waitsOk laws_FnNormal.T15.2 laws_FnNormal.B15 = true := by kernel_rfl
def laws_FnNormal.T21 : Bool × List (List Nat × List Nat) := (true, [([], []), ([0], [0]), ([1], [1]), ([1], [1]), ([1], [1]), ([3, 4, 1], [1, 3, 4]), ([5, 1], [1, 5]), ([2, 6, 1], [1, 2, 6]), ([7, 1, 1], [1, 7]), ([8], [8]), ([9, 8], [8, 9]), ([8, 10, 1], [1, 8, 10]), ([1, 11], [1, 11]), ([12, 8], [12]), ([13], [13]), ([13], [13]), ([14, 15, 13], [13, 14, 15]), ([16, 13], [13, 16]), ([13], [13]), ([13], [13]), ([18, 19, 13], [13, 18, 19]), ([20, 13], [13, 20]), ([17, 21, 13, 13], [13, 17, 21]), ([22, 13], [13, 22]), ([13, 23], [13, 23]), ([24, 22], [24]), ([25], [25]), ([25], [25]), ([26, 27, 25], [25, 26, 27]), ([28, 25], [25, 28]), ([29, 25], [25, 29]), ([25, 30], [25, 30])])
def laws_FnNormal.B21 : List Nat := [0, 1, 3, 3, 3, 27, 59, 127, 255, 511, 1023, 2047, 4095, 8191, 16383, 16383, 65535, 131071, 16383, 16383, 802815, 1851391, 4194303, 8388607, 16777215, 33554431, 67108863, 67108863, 268435455, 536870911, 1073741823, 2147483647]
theorem laws_FnNormal.tab21 : rtab .any (opsOf Try.f5 21) = laws_FnNormal.T21 := by kernel_rfl
theorem laws_FnNormal.bits21 : waitsOk laws_FnNormal.T21.2 laws_FnNormal.B21 = true := by kernel_rfl
theorem laws_FnNormal.calls (k : Nat) (A0 : Option Addr) (c0 : Nat) (l0 : List Int) (r : Bool) (w : World) (hr0 : Kd.C (Kd.int .u8) w A0 l0.length l0) (hc0 : l0.length ≤ c0) (h : laws_FnNormal.f k l0 = some r) :
 Calls Try.prog 5 #[.slice A0 l0.length c0] w fun e w' => e = .returned (.bool r) ∧ Below w.heap.size w w' := by
 have HR0 := Aside0.mk hr0
 have HC0 := Aside0.mk hc0
 clear hr0 hc0
 have HB := Aside0.mk (Below.refl w.heap.size w)
 have H := h
 clear h
 unfold laws_FnNormal.f at H
 by_cases c2 : (l0.length : Int) > 1048576
 · rw [if_pos c2] at H
   have c2b0 := decide_eq_true c2
   have c2b1 : decide (1048576 < l0.length) = true := decide_eq_true (by omega)
   clear c2
   obtain rfl := Option.some.inj H
   go_enter Try.func5, Try.ntmps5
   go_wp2
   go_ret
   exact ⟨z29_, z16_⟩
 rw [if_neg c2] at H
 have c2b0 := decide_eq_false c2
 have c2b1 : decide (1048576 < l0.length) = false := decide_eq_false (by omega)
 clear c2
 obtain ⟨t435, A3, H⟩ := bi_ H
 obtain ⟨⟨t438, t439, t440⟩, A4, H⟩ := bi_ H
 try dsimp only at H
 obtain ⟨⟨t445, t446, t447⟩, A5, H⟩ := bi_ H
 try dsimp only at H
 have HC6 := Aside0.mk H
 clear H
 go_enter Try.func5, Try.ntmps5
 go_upto_region 6 with (first | ((with_reducible refine gate_callee (f := 19) rfl ?_); refine goesL_ (some 25) rfl rfl Try.func19 (by kernel_rfl) rfl #[.slice A0 l0.length c0] rfl z14_ ?_; (with_reducible refine (spec_DrawZeroNormal.calls k _ _ l0 t435 _ ?side1 ?side2 A3.out).mono ?_); (case side1 => repeat (first | exact HR0.out | (with_reducible refine Kd.C_alloc ?_ _) | (with_reducible refine Kd.C_drewN ?_ _) | (with_reducible refine Kd.C_drew ?_))); (case side2 => exact HC0.out); rintro e w7 ⟨v436, rfl, ho0, hb⟩; refine ⟨_, rfl, ?_⟩; have HO437:= Aside0.mk (Kd.R_lower ho0 (below_size z16_)); replace HB:= Aside0.mk (below_step z16_ hb); clear hb ho0; obtain ⟨Ao8, co8, eo8⟩ := Kd.R_slice HO437.out; subst eo8) | ((with_reducible refine gate_callee (f := 20) rfl ?_); refine goesL_ (some 28) rfl rfl Try.func20 (by kernel_rfl) rfl #[.slice Ao8 t435.length co8] rfl z14_ ?_; (with_reducible refine (impl_ZeroNormal.calls k _ _ t435 t438 t439 t440 _ ?side1 ?side2 A4.out).mono ?_); (case side1 => repeat (first | exact (Kd.R_reads' HO437.out).2.2 | (with_reducible refine Kd.C_alloc ?_ _) | (with_reducible refine Kd.C_drewN ?_ _) | (with_reducible refine Kd.C_drew ?_))); (case side2 => exact (Kd.R_reads' HO437.out).2.1); rintro e w9 ⟨v441, v443, rfl, ho0, ho1, hb⟩; refine ⟨_, rfl, ?_⟩; have HO442:= Aside0.mk (Kd.R_lower (Kd.R_new' ho0 (Kd.R_lt z19_)) (below_size z16_)); have HO444:= Aside0.mk (Kd.R_lower (Kd.R_new' ho1 (Kd.R_lt z19_)) (below_size z16_)); replace HO437:= Aside0.mk (Kd.R_mono (Kd.R_told (Kd.R_told (Kd.R_old z19_ hb) (Kd.R_base ho0)) (Kd.R_base ho1)) (fun _ h_ => h_.1)); replace HB:= Aside0.mk (below_step z16_ hb); clear hb ho0 ho1) | ((with_reducible refine gate_callee (f := 21) rfl ?_); refine goesL_ (some 34) rfl rfl Try.func21 (by kernel_rfl) rfl #[.slice Ao8 t435.length co8] rfl z14_ ?_; (with_reducible refine (spec_ZeroNormal.calls k _ _ t435 t445 t446 t447 _ ?side1 ?side2 A5.out).mono ?_); (case side1 => repeat (first | exact (Kd.R_reads' HO437.out).2.2 | (with_reducible refine Kd.C_alloc ?_ _) | (with_reducible refine Kd.C_drewN ?_ _) | (with_reducible refine Kd.C_drew ?_))); (case side2 => exact (Kd.R_reads' HO437.out).2.1); rintro e w10 ⟨v448, v450, rfl, ho0, ho1, hb⟩; refine ⟨_, rfl, ?_⟩; have HO449:= Aside0.mk (Kd.R_lower (Kd.R_new' (Kd.R_new' (Kd.R_new' ho0 (Kd.R_lt z19_)) (Kd.R_lt (by (with_reducible repeat (first | apply Kd.R_alloc | apply Kd.R_drewN | apply Kd.R_drew)); exact HO442.out))) (Kd.R_lt (by (with_reducible repeat (first | apply Kd.R_alloc | apply Kd.R_drewN | apply Kd.R_drew)); exact HO444.out))) (below_size z16_)); have HO451:= Aside0.mk (Kd.R_lower (Kd.R_new' (Kd.R_new' (Kd.R_new' ho1 (Kd.R_lt z19_)) (Kd.R_lt (by (with_reducible repeat (first | apply Kd.R_alloc | apply Kd.R_drewN | apply Kd.R_drew)); exact HO442.out))) (Kd.R_lt (by (with_reducible repeat (first | apply Kd.R_alloc | apply Kd.R_drewN | apply Kd.R_drew)); exact HO444.out))) (below_size z16_)); replace HO437:= Aside0.mk (Kd.R_mono (Kd.R_told (Kd.R_told (Kd.R_old z19_ hb) (Kd.R_base ho0)) (Kd.R_base ho1)) (fun _ h_ => h_.1)); replace HO442:= Aside0.mk (Kd.R_mono (Kd.R_told (Kd.R_told (Kd.R_old (by (with_reducible repeat (first | apply Kd.R_alloc | apply Kd.R_drewN | apply Kd.R_drew)); exact HO442.out) hb) (Kd.R_base ho0)) (Kd.R_base ho1)) (fun _ h_ => h_.1)); replace HO444:= Aside0.mk (Kd.R_mono (Kd.R_told (Kd.R_told (Kd.R_old (by (with_reducible repeat (first | apply Kd.R_alloc | apply Kd.R_drewN | apply Kd.R_drew)); exact HO444.out) hb) (Kd.R_base ho0)) (Kd.R_base ho1)) (fun _ h_ => h_.1)); replace HB:= Aside0.mk (below_step z16_ hb); clear hb ho0 ho1))
 go_cut [56] (fun v56 wc => ∃ (kq : Nat) (x56_5 : Bool), v56 = .bool x56_5 ∧ Aside0 (laws_FnNormal.j0 kq t435 t438 t439 t440 t445 t446 t447 x56_5 = some r) ∧ Aside0 (kq ≤ k) ∧ Aside0 (Kd.R (Kd.int .i64) 3 wc w.heap.size (fun k_ => some k_ ≠ (v441 : Value).ownBlock ∧ some k_ ≠ (v443 : Value).ownBlock ∧ some k_ ≠ (v448 : Value).ownBlock ∧ some k_ ≠ (v450 : Value).ownBlock) (.slice Ao8 t435.length co8) t435) ∧ Aside0 (Kd.R (Kd.int .i64) 3 wc w.heap.size (fun k_ => some k_ ≠ ((.slice Ao8 t435.length co8) : Value).ownBlock ∧ some k_ ≠ (v443 : Value).ownBlock ∧ some k_ ≠ (v448 : Value).ownBlock ∧ some k_ ≠ (v450 : Value).ownBlock) v441 t438) ∧ Aside0 (Kd.R (Kd.int .i64) 3 wc w.heap.size (fun k_ => some k_ ≠ ((.slice Ao8 t435.length co8) : Value).ownBlock ∧ some k_ ≠ (v441 : Value).ownBlock ∧ some k_ ≠ (v448 : Value).ownBlock ∧ some k_ ≠ (v450 : Value).ownBlock) v443 t439) ∧ Aside0 (Kd.R (Kd.int .i64) 3 wc w.heap.size (fun k_ => some k_ ≠ ((.slice Ao8 t435.length co8) : Value).ownBlock ∧ some k_ ≠ (v441 : Value).ownBlock ∧ some k_ ≠ (v443 : Value).ownBlock ∧ some k_ ≠ (v450 : Value).ownBlock) v448 t445) ∧ Aside0 (Kd.R (Kd.int .i64) 3 wc w.heap.size (fun k_ => some k_ ≠ ((.slice Ao8 t435.length co8) : Value).ownBlock ∧ some k_ ≠ (v441 : Value).ownBlock ∧ some k_ ≠ (v443 : Value).ownBlock ∧ some k_ ≠ (v448 : Value).ownBlock) v450 t446) ∧ Aside0 (Below w.heap.size w wc))
 case first =>
  have H := HC6.out
  clear HC6
  by_cases c11 : (t440 != t447) = true
  · rw [if_pos c11] at H
    have c11b0 : (t440 != t447) = true := c11
    have c11b1 : decide (t440 = t447) = false := by simpa using c11
    have c11b2 : (t440 == t447) = false := by simpa using c11
    have c11b3 : ¬ (t440 = t447) := by simpa using c11
    clear c11
    (first | rw [c11b0] | (simp only [i64_w, i32_w]; rw [c11b0]) | skip)
    have H' := Aside0.mk H
    clear H
    go_wp2
    go_meet
    case rel => exact ⟨_, (true), z32_, H', ⟨z33_⟩, ⟨z3_⟩, ⟨z4_⟩, ⟨z5_⟩, ⟨z6_⟩, ⟨z7_⟩, ⟨z16_⟩⟩
  rw [if_neg c11] at H
  have c11b0 : (t440 != t447) = false := by simpa using c11
  have c11b1 : decide (t440 = t447) = true := by simpa using c11
  have c11b2 : (t440 == t447) = true := by simpa using c11
  clear c11
  (first | rw [c11b0] | (simp only [i64_w, i32_w]; rw [c11b0]) | skip)
  obtain ⟨t452, A12, H⟩ := bi_ H
  by_cases c13 : t452 = true
  rotate_left
  · replace c13 := Bool.eq_false_iff.mpr c13
    subst c13
    rw [jt_] at H
    have H' := Aside0.mk H
    clear H
    obtain ⟨Ao24, co24, eo24⟩ := Kd.R_slice HO442.out
    subst eo24
    obtain ⟨Ao25, co25, eo25⟩ := Kd.R_slice HO449.out
    subst eo25
    go_wp2_with (first | (go_at_call 22; (with_reducible refine (laws_sameInts.calls k _ _ t438 _ _ t445 false _ ?side1 ?side2 ?side3 ?side4 A12.out).mono ?_); (case side1 => repeat (first | exact (Kd.R_reads' HO442.out).2.2 | (with_reducible refine Kd.C_alloc ?_ _) | (with_reducible refine Kd.C_drewN ?_ _) | (with_reducible refine Kd.C_drew ?_))); (case side2 => exact (Kd.R_reads' HO442.out).2.1); (case side3 => repeat (first | exact (Kd.R_reads' HO449.out).2.2 | (with_reducible refine Kd.C_alloc ?_ _) | (with_reducible refine Kd.C_drewN ?_ _) | (with_reducible refine Kd.C_drew ?_))); (case side4 => exact (Kd.R_reads' HO449.out).2.1); rintro e w' ⟨rfl, ⟨nd, rfl⟩⟩))
    go_meet
    case rel => exact ⟨_, (true), z32_, H', ⟨z33_⟩, ⟨z3_⟩, ⟨z4_⟩, ⟨z5_⟩, ⟨z6_⟩, ⟨z7_⟩, ⟨z16_⟩⟩
  subst c13
  rw [it_] at H
  obtain ⟨t453, A14, H⟩ := bi_ H
  by_cases c15 : t453 = true
  · subst c15
    rw [it_] at H
    have H' := Aside0.mk H
    clear H
    obtain ⟨Ao16, co16, eo16⟩ := Kd.R_slice HO442.out
    subst eo16
    obtain ⟨Ao17, co17, eo17⟩ := Kd.R_slice HO449.out
    subst eo17
    go_wp2_with (first | (go_at_call 22; (with_reducible refine (laws_sameInts.calls k _ _ t438 _ _ t445 true _ ?side1 ?side2 ?side3 ?side4 A12.out).mono ?_); (case side1 => repeat (first | exact (Kd.R_reads' HO442.out).2.2 | (with_reducible refine Kd.C_alloc ?_ _) | (with_reducible refine Kd.C_drewN ?_ _) | (with_reducible refine Kd.C_drew ?_))); (case side2 => exact (Kd.R_reads' HO442.out).2.1); (case side3 => repeat (first | exact (Kd.R_reads' HO449.out).2.2 | (with_reducible refine Kd.C_alloc ?_ _) | (with_reducible refine Kd.C_drewN ?_ _) | (with_reducible refine Kd.C_drew ?_))); (case side4 => exact (Kd.R_reads' HO449.out).2.1); rintro e w' ⟨rfl, ⟨nd, rfl⟩⟩; obtain ⟨Ao18, co18, eo18⟩ := Kd.R_slice HO444.out; subst eo18; obtain ⟨Ao19, co19, eo19⟩ := Kd.R_slice HO451.out; subst eo19) | (go_at_call 22; (with_reducible refine (laws_sameInts.calls k _ _ t439 _ _ t446 true _ ?side1 ?side2 ?side3 ?side4 A14.out).mono ?_); (case side1 => repeat (first | exact (Kd.R_reads' HO444.out).2.2 | (with_reducible refine Kd.C_alloc ?_ _) | (with_reducible refine Kd.C_drewN ?_ _) | (with_reducible refine Kd.C_drew ?_))); (case side2 => exact (Kd.R_reads' HO444.out).2.1); (case side3 => repeat (first | exact (Kd.R_reads' HO451.out).2.2 | (with_reducible refine Kd.C_alloc ?_ _) | (with_reducible refine Kd.C_drewN ?_ _) | (with_reducible refine Kd.C_drew ?_))); (case side4 => exact (Kd.R_reads' HO451.out).2.1); rintro e w' ⟨rfl, ⟨nd, rfl⟩⟩))
    go_meet
    case rel => exact ⟨_, (!t440), z32_, H', ⟨z33_⟩, ⟨z3_⟩, ⟨z4_⟩, ⟨z5_⟩, ⟨z6_⟩, ⟨z7_⟩, ⟨z16_⟩⟩
  replace c15 := Bool.eq_false_iff.mpr c15
  subst c15
  rw [jt_] at H
  have H' := Aside0.mk H
  clear H
  obtain ⟨Ao20, co20, eo20⟩ := Kd.R_slice HO442.out
  subst eo20
  obtain ⟨Ao21, co21, eo21⟩ := Kd.R_slice HO449.out
  subst eo21
  go_wp2_with (first | (go_at_call 22; (with_reducible refine (laws_sameInts.calls k _ _ t438 _ _ t445 true _ ?side1 ?side2 ?side3 ?side4 A12.out).mono ?_); (case side1 => repeat (first | exact (Kd.R_reads' HO442.out).2.2 | (with_reducible refine Kd.C_alloc ?_ _) | (with_reducible refine Kd.C_drewN ?_ _) | (with_reducible refine Kd.C_drew ?_))); (case side2 => exact (Kd.R_reads' HO442.out).2.1); (case side3 => repeat (first | exact (Kd.R_reads' HO449.out).2.2 | (with_reducible refine Kd.C_alloc ?_ _) | (with_reducible refine Kd.C_drewN ?_ _) | (with_reducible refine Kd.C_drew ?_))); (case side4 => exact (Kd.R_reads' HO449.out).2.1); rintro e w' ⟨rfl, ⟨nd, rfl⟩⟩; obtain ⟨Ao22, co22, eo22⟩ := Kd.R_slice HO444.out; subst eo22; obtain ⟨Ao23, co23, eo23⟩ := Kd.R_slice HO451.out; subst eo23) | (go_at_call 22; (with_reducible refine (laws_sameInts.calls k _ _ t439 _ _ t446 false _ ?side1 ?side2 ?side3 ?side4 A14.out).mono ?_); (case side1 => repeat (first | exact (Kd.R_reads' HO444.out).2.2 | (with_reducible refine Kd.C_alloc ?_ _) | (with_reducible refine Kd.C_drewN ?_ _) | (with_reducible refine Kd.C_drew ?_))); (case side2 => exact (Kd.R_reads' HO444.out).2.1); (case side3 => repeat (first | exact (Kd.R_reads' HO451.out).2.2 | (with_reducible refine Kd.C_alloc ?_ _) | (with_reducible refine Kd.C_drewN ?_ _) | (with_reducible refine Kd.C_drew ?_))); (case side4 => exact (Kd.R_reads' HO451.out).2.1); rintro e w' ⟨rfl, ⟨nd, rfl⟩⟩))
  go_meet
  case rel => exact ⟨_, (true), z32_, H', ⟨z33_⟩, ⟨z3_⟩, ⟨z4_⟩, ⟨z5_⟩, ⟨z6_⟩, ⟨z7_⟩, ⟨z16_⟩⟩
 case rest =>
  clear HC6 c2b0 c2b1
  obtain ⟨kq, x56_5, rfl, HA, HJ5, HO_3, HO_4, HO_5, HO_7, HO_8, HB⟩ := hcut
  cases kq with
  | zero => exact absurd HA.out (by simp [laws_FnNormal.j0])
  | succ kj5 =>
   have H := HA.out
   clear HA
   simp only [laws_FnNormal.j0] at H
   by_cases c26 : x56_5 = true
   · subst c26
     rw [it_] at H
     by_cases c27 : (t440 == t447) = true
     rotate_left
     · rw [if_neg c27] at H
       have c27b0 : (t440 == t447) = false := by simpa using c27
       have c27b1 : decide (t440 = t447) = false := by simpa using c27
       have c27b2 : (t440 == t447) = false := by simpa using c27
       have c27b3 : ¬ (t440 = t447) := by simpa using c27
       clear c27
       obtain rfl := Option.some.inj H
       go_wp2
       go_ret
       exact ⟨z29_, z16_⟩
     rw [if_pos c27] at H
     have c27b0 : (t440 == t447) = true := c27
     have c27b1 : decide (t440 = t447) = true := by simpa using c27
     have c27b2 : (t440 == t447) = true := by simpa using c27
     clear c27
     obtain ⟨t454, A28, H⟩ := bi_ H
     by_cases c29 : t454 = true
     · subst c29
       rw [it_] at H
       obtain ⟨t455, A30, H⟩ := bi_ H
       obtain rfl := Option.some.inj H
       obtain ⟨Ao31, co31, eo31⟩ := Kd.R_slice HO_4.out
       subst eo31
       obtain ⟨Ao32, co32, eo32⟩ := Kd.R_slice HO_7.out
       subst eo32
       go_wp2_with (first | (go_at_call 22; (with_reducible refine (laws_sameInts.calls kj5 _ _ t438 _ _ t445 true _ ?side1 ?side2 ?side3 ?side4 A28.out).mono ?_); (case side1 => repeat (first | exact (Kd.R_reads' HO_4.out).2.2 | (with_reducible refine Kd.C_alloc ?_ _) | (with_reducible refine Kd.C_drewN ?_ _) | (with_reducible refine Kd.C_drew ?_))); (case side2 => exact (Kd.R_reads' HO_4.out).2.1); (case side3 => repeat (first | exact (Kd.R_reads' HO_7.out).2.2 | (with_reducible refine Kd.C_alloc ?_ _) | (with_reducible refine Kd.C_drewN ?_ _) | (with_reducible refine Kd.C_drew ?_))); (case side4 => exact (Kd.R_reads' HO_7.out).2.1); rintro e w' ⟨rfl, ⟨nd, rfl⟩⟩; obtain ⟨Ao33, co33, eo33⟩ := Kd.R_slice HO_5.out; subst eo33; obtain ⟨Ao34, co34, eo34⟩ := Kd.R_slice HO_8.out; subst eo34) | (go_at_call 22; (with_reducible refine (laws_sameInts.calls kj5 _ _ t439 _ _ t446 t455 _ ?side1 ?side2 ?side3 ?side4 A30.out).mono ?_); (case side1 => repeat (first | exact (Kd.R_reads' HO_5.out).2.2 | (with_reducible refine Kd.C_alloc ?_ _) | (with_reducible refine Kd.C_drewN ?_ _) | (with_reducible refine Kd.C_drew ?_))); (case side2 => exact (Kd.R_reads' HO_5.out).2.1); (case side3 => repeat (first | exact (Kd.R_reads' HO_8.out).2.2 | (with_reducible refine Kd.C_alloc ?_ _) | (with_reducible refine Kd.C_drewN ?_ _) | (with_reducible refine Kd.C_drew ?_))); (case side4 => exact (Kd.R_reads' HO_8.out).2.1); rintro e w' ⟨rfl, ⟨nd, rfl⟩⟩))
       go_ret
       exact ⟨z29_, z16_⟩
     replace c29 := Bool.eq_false_iff.mpr c29
     subst c29
     rw [jt_] at H
     obtain rfl := Option.some.inj H
     obtain ⟨Ao35, co35, eo35⟩ := Kd.R_slice HO_4.out
     subst eo35
     obtain ⟨Ao36, co36, eo36⟩ := Kd.R_slice HO_7.out
     subst eo36
     go_wp2_with (first | (go_at_call 22; (with_reducible refine (laws_sameInts.calls kj5 _ _ t438 _ _ t445 false _ ?side1 ?side2 ?side3 ?side4 A28.out).mono ?_); (case side1 => repeat (first | exact (Kd.R_reads' HO_4.out).2.2 | (with_reducible refine Kd.C_alloc ?_ _) | (with_reducible refine Kd.C_drewN ?_ _) | (with_reducible refine Kd.C_drew ?_))); (case side2 => exact (Kd.R_reads' HO_4.out).2.1); (case side3 => repeat (first | exact (Kd.R_reads' HO_7.out).2.2 | (with_reducible refine Kd.C_alloc ?_ _) | (with_reducible refine Kd.C_drewN ?_ _) | (with_reducible refine Kd.C_drew ?_))); (case side4 => exact (Kd.R_reads' HO_7.out).2.1); rintro e w' ⟨rfl, ⟨nd, rfl⟩⟩))
     go_ret
     exact ⟨z29_, z16_⟩
   replace c26 := Bool.eq_false_iff.mpr c26
   subst c26
   rw [jt_] at H
   obtain ⟨c37, H⟩ := in_ H
   have c37b0 := decide_eq_true c37
   have c37b1 : decide (0 < t438.length) = true := decide_eq_true (by omega)
   clear c37
   obtain ⟨c38, H⟩ := in_ H
   have c38b0 := decide_eq_true c38
   have c38b1 : decide (1 < t438.length) = true := decide_eq_true (by omega)
   clear c38
   obtain ⟨c39, H⟩ := in_ H
   have c39b0 := decide_eq_true c39
   have c39b1 : decide (2 < t438.length) = true := decide_eq_true (by omega)
   clear c39
   obtain ⟨t459, A40, H⟩ := bi_ H
   obtain ⟨c41, H⟩ := in_ H
   have c41b0 := decide_eq_true c41
   have c41b1 : decide (0 < t435.length) = true := decide_eq_true (by omega)
   clear c41
   obtain ⟨c42, H⟩ := in_ H
   have c42b0 := decide_eq_true c42
   have c42b1 : decide (1 < t435.length) = true := decide_eq_true (by omega)
   clear c42
   obtain ⟨c43, H⟩ := in_ H
   have c43b0 := decide_eq_true c43
   have c43b1 : decide (2 < t435.length) = true := decide_eq_true (by omega)
   clear c43
   obtain ⟨t463, A44, H⟩ := bi_ H
   obtain ⟨⟨t464, t465⟩, A45, H⟩ := bi_ H
   try dsimp only at H
   generalize h_ : (([] : List Int)) = y468 at H
   have Ny468 := Aside0.mk h_.symm
   clear h_
   have H' := Aside0.mk H
   clear H
   go_wp2
   replace HO_3:= Aside0.mk (Kd.R_drew HO_3.out)
   replace HO_4:= Aside0.mk (Kd.R_drew HO_4.out)
   replace HO_5:= Aside0.mk (Kd.R_drew HO_5.out)
   replace HO_7:= Aside0.mk (Kd.R_drew HO_7.out)
   replace HO_8:= Aside0.mk (Kd.R_drew HO_8.out)
   replace HB:= Aside0.mk (below_drew1 HB.out)
   obtain ⟨Ao47, co47, eo47⟩ := Kd.R_slice HO_4.out
   (first | subst eo47 | (injection eo47 with f1_ f2_ f3_; have f4_ := f1_.symm; have f5_ := f3_.symm; clear f1_ f2_ f3_; subst f4_; subst f5_))
   have p456 : 0 ≤ (0 : Int) := (by omega)
   have q456 : 0 < (t438.length : Int) := of_decide_eq_true z31_
   obtain ⟨ad456, e456, hx456_0⟩ := Kd.at_int (Kd.R_reads' HO_4.out).2.2 0 p456 q456
   cases e456
   have qi456 : (0 < t438.length) = True := eq_true (by omega)
   rw [show ((0 : Int)).toNat = 0 from rfl] at hx456_0
   rw [Addr.add_zero'] at hx456_0
   replace p456 := eq_true p456
   replace q456 := eq_true q456
   have p457 : 0 ≤ (1 : Int) := (by omega)
   have q457 : 1 < (t438.length : Int) := of_decide_eq_true z31_
   obtain ⟨ad457, e457, hx457_0⟩ := Kd.at_int (Kd.R_reads' HO_4.out).2.2 1 p457 q457
   obtain rfl : ad456 = ad457 := (by injection e457)
   simp only [show (1 : Int).toNat = 1 from rfl, Nat.reduceMul, Nat.reduceEqDiff, Go.Addr.add, ↓reduceIte] at hx457_0
   have qi457 : (1 < t438.length) = True := eq_true (by omega)
   replace p457 := eq_true p457
   replace q457 := eq_true q457
   have p458 : 0 ≤ (2 : Int) := (by omega)
   have q458 : 2 < (t438.length : Int) := of_decide_eq_true z31_
   obtain ⟨ad458, e458, hx458_0⟩ := Kd.at_int (Kd.R_reads' HO_4.out).2.2 2 p458 q458
   obtain rfl : ad456 = ad458 := (by injection e458)
   simp only [show (2 : Int).toNat = 2 from rfl, Nat.reduceMul, Nat.reduceEqDiff, Go.Addr.add, ↓reduceIte] at hx458_0
   have qi458 : (2 < t438.length) = True := eq_true (by omega)
   replace p458 := eq_true p458
   replace q458 := eq_true q458
   refine start_ (n := 13) (S := fun w' => w'.cell? ad456 = some (.int .i64 (rd t438 0)) ∧ w'.cell? ⟨ad456.block, ad456.off + 1, none⟩ = some (.int .i64 (rd t438 1)) ∧ w'.cell? ⟨ad456.block, ad456.off + 2, none⟩ = some (.int .i64 (rd t438 2))) (ds := []) (bs_ 13 0) (by kernel_rfl) rfl rfl ⟨hx456_0, hx457_0, hx458_0⟩ (fun hHeld => ?_); refine with_tabW laws_FnNormal.tab8 laws_FnNormal.bits8 (fun HT_ HW_ => ?_)
   generalize wc.drew = w46 at HO_3 HO_4 HO_5 HO_7 HO_8 HB hx456_0 hx457_0 hx458_0 hHeld ⊢
   refine pz_ 0 70 13 1 HT_ ?_
   refine pz_ 1 71 13 3 HT_ ?_
   refine pz_ 3 73 13 11 HT_ ?_
   refine pz_ 4 74 13 27 HT_ ?_
   refine pz_ 7 77 13 155 HT_ ?_
   refine pz_ 8 78 13 411 HT_ ?_
   refine ta_ 2 72 13 415 HT_ HW_ hHeld ?_
   refine ta_ 5 75 13 447 HT_ HW_ hHeld ?_
   refine pz_ 6 76 13 511 HT_ ?_
   refine ta_ 9 79 13 1023 HT_ HW_ hHeld ?_
   refine pz_ 10 80 13 2047 HT_ ?_
   refine on_ 11 81 13 4095 HT_ (fun K hK => ?_)
   refine goes_ Try.func23 (by kernel_rfl) rfl #[.int .i64 (wrap64 ((wrap64 ((rd t438 0) * (rd t438 1))) * (rd t438 2)))] (by rfl) rfl rfl z14_ ?_
   with_reducible refine (laws_sizeOf.calls (wrap64 ((wrap64 ((rd t438 0) * (rd t438 1))) * (rd t438 2))) t459 _ A40.out).mono ?_
   rintro e w48 ⟨rfl, hb⟩
   have HS0_ := (hb.cell (World.block_lt_of_cell? _ _ (hHeld.1))).trans (hHeld.1)
   have HS1_ := (hb.cell (World.block_lt_of_cell? _ _ (hHeld.2.1))).trans (hHeld.2.1)
   have HS2_ := (hb.cell (World.block_lt_of_cell? _ _ (hHeld.2.2))).trans (hHeld.2.2)
   refine ⟨_, rfl, ?_⟩
   replace HO_3:= Aside0.mk (Kd.R_below z24_ hb)
   replace HO_4:= Aside0.mk (Kd.R_below z26_ hb)
   replace HO_5:= Aside0.mk (Kd.R_below z23_ hb)
   replace HO_7:= Aside0.mk (Kd.R_below z27_ hb)
   replace HO_8:= Aside0.mk (Kd.R_below z25_ hb)
   replace HB:= Aside0.mk (below_step z16_ hb)
   clear hb
   refine hK.out _ _ ⟨HS0_, HS1_, HS2_⟩ (fun hHeld => ?_)
   clear hK K
   refine norm_ (a' := ?_) ?_ ?_
   rotate_left
   · show Act.put _ (some 81) _ = _
     simp only [Act.put, List.setIfInBounds_toArray, List.set_cons_zero, List.set_cons_succ, i64_w, i32_w]
     rfl
   refine pz_ 12 10 13 8191 HT_ ?_
   refine dn_ HT_ ?_
   go_wp2
   replace HO_3:= Aside0.mk (Kd.R_drew HO_3.out)
   replace HO_4:= Aside0.mk (Kd.R_drew HO_4.out)
   replace HO_5:= Aside0.mk (Kd.R_drew HO_5.out)
   replace HO_7:= Aside0.mk (Kd.R_drew HO_7.out)
   replace HO_8:= Aside0.mk (Kd.R_drew HO_8.out)
   replace HB:= Aside0.mk (below_drew1 HB.out)
   have p460 : 0 ≤ (0 : Int) := (by omega)
   have q460 : 0 < (t435.length : Int) := of_decide_eq_true z31_
   obtain ⟨ad460, e460, hx460_0⟩ := Kd.at_int (Kd.R_reads' HO_3.out).2.2 0 p460 q460
   cases e460
   have qi460 : (0 < t435.length) = True := eq_true (by omega)
   rw [show ((0 : Int)).toNat = 0 from rfl] at hx460_0
   rw [Addr.add_zero'] at hx460_0
   replace p460 := eq_true p460
   replace q460 := eq_true q460
   have p461 : 0 ≤ (1 : Int) := (by omega)
   have q461 : 1 < (t435.length : Int) := of_decide_eq_true z31_
   obtain ⟨ad461, e461, hx461_0⟩ := Kd.at_int (Kd.R_reads' HO_3.out).2.2 1 p461 q461
   obtain rfl : ad460 = ad461 := (by injection e461)
   simp only [show (1 : Int).toNat = 1 from rfl, Nat.reduceMul, Nat.reduceEqDiff, Go.Addr.add, ↓reduceIte] at hx461_0
   have qi461 : (1 < t435.length) = True := eq_true (by omega)
   replace p461 := eq_true p461
   replace q461 := eq_true q461
   have p462 : 0 ≤ (2 : Int) := (by omega)
   have q462 : 2 < (t435.length : Int) := of_decide_eq_true z31_
   obtain ⟨ad462, e462, hx462_0⟩ := Kd.at_int (Kd.R_reads' HO_3.out).2.2 2 p462 q462
   obtain rfl : ad460 = ad462 := (by injection e462)
   simp only [show (2 : Int).toNat = 2 from rfl, Nat.reduceMul, Nat.reduceEqDiff, Go.Addr.add, ↓reduceIte] at hx462_0
   have qi462 : (2 < t435.length) = True := eq_true (by omega)
   replace p462 := eq_true p462
   replace q462 := eq_true q462
   refine start_ (n := 13) (S := fun w' => w'.cell? ad460 = some (.int .i64 (rd t435 0)) ∧ w'.cell? ⟨ad460.block, ad460.off + 1, none⟩ = some (.int .i64 (rd t435 1)) ∧ w'.cell? ⟨ad460.block, ad460.off + 2, none⟩ = some (.int .i64 (rd t435 2))) (ds := []) (bs_ 13 0) (by kernel_rfl) rfl rfl ⟨hx460_0, hx461_0, hx462_0⟩ (fun hHeld => ?_); refine with_tabW laws_FnNormal.tab9 laws_FnNormal.bits9 (fun HT_ HW_ => ?_)
   generalize w48.drew = w49 at HO_3 HO_4 HO_5 HO_7 HO_8 HB hx460_0 hx461_0 hx462_0 hHeld ⊢
   refine pz_ 0 82 13 1 HT_ ?_
   refine pz_ 1 83 13 3 HT_ ?_
   refine pz_ 3 85 13 11 HT_ ?_
   refine pz_ 4 86 13 27 HT_ ?_
   refine pz_ 7 89 13 155 HT_ ?_
   refine pz_ 8 90 13 411 HT_ ?_
   refine ta_ 2 84 13 415 HT_ HW_ hHeld ?_
   refine ta_ 5 87 13 447 HT_ HW_ hHeld ?_
   refine pz_ 6 88 13 511 HT_ ?_
   refine ta_ 9 91 13 1023 HT_ HW_ hHeld ?_
   refine pz_ 10 92 13 2047 HT_ ?_
   refine on_ 11 93 13 4095 HT_ (fun K hK => ?_)
   refine goes_ Try.func23 (by kernel_rfl) rfl #[.int .i64 (wrap64 ((wrap64 ((rd t435 0) * (rd t435 1))) * (rd t435 2)))] (by rfl) rfl rfl z14_ ?_
   with_reducible refine (laws_sizeOf.calls (wrap64 ((wrap64 ((rd t435 0) * (rd t435 1))) * (rd t435 2))) t463 _ A44.out).mono ?_
   rintro e w50 ⟨rfl, hb⟩
   have HS0_ := (hb.cell (World.block_lt_of_cell? _ _ (hHeld.1))).trans (hHeld.1)
   have HS1_ := (hb.cell (World.block_lt_of_cell? _ _ (hHeld.2.1))).trans (hHeld.2.1)
   have HS2_ := (hb.cell (World.block_lt_of_cell? _ _ (hHeld.2.2))).trans (hHeld.2.2)
   refine ⟨_, rfl, ?_⟩
   replace HO_3:= Aside0.mk (Kd.R_below z24_ hb)
   replace HO_4:= Aside0.mk (Kd.R_below z26_ hb)
   replace HO_5:= Aside0.mk (Kd.R_below z23_ hb)
   replace HO_7:= Aside0.mk (Kd.R_below z27_ hb)
   replace HO_8:= Aside0.mk (Kd.R_below z25_ hb)
   replace HB:= Aside0.mk (below_step z16_ hb)
   clear hb
   refine hK.out _ _ ⟨HS0_, HS1_, HS2_⟩ (fun hHeld => ?_)
   clear hK K
   refine norm_ (a' := ?_) ?_ ?_
   rotate_left
   · show Act.put _ (some 93) _ = _
     simp only [Act.put, List.setIfInBounds_toArray, List.set_cons_zero, List.set_cons_succ, i64_w, i32_w]
     rfl
   refine pz_ 12 11 13 8191 HT_ ?_
   refine dn_ HT_ ?_
   try go_wp2_with (first | ((with_reducible refine gate_callee (f := 24) rfl ?_); refine goesL_ (some 96) rfl rfl Try.func24 (by kernel_rfl) rfl #[.slice (some ad456) t438.length co47] rfl z14_ ?_; (with_reducible refine (impl_ZeroSearch.calls kj5 _ _ t438 t464 t465 _ ?side1 ?side2 A45.out).mono ?_); (case side1 => repeat (first | exact (Kd.R_reads' HO_4.out).2.2 | (with_reducible refine Kd.C_alloc ?_ _) | (with_reducible refine Kd.C_drewN ?_ _) | (with_reducible refine Kd.C_drew ?_))); (case side2 => exact (Kd.R_reads' HO_4.out).2.1); rintro e w51 ⟨v466, rfl, ho0, hb⟩; refine ⟨_, rfl, ?_⟩; have HO467:= Aside0.mk (Kd.R_lower (Kd.R_new' (Kd.R_new' (Kd.R_new' (Kd.R_new' (Kd.R_new' ho0 (Kd.R_lt z24_)) (Kd.R_lt z26_)) (Kd.R_lt z23_)) (Kd.R_lt z27_)) (Kd.R_lt z25_)) (below_size z16_)); replace HO_3:= Aside0.mk (Kd.R_elder' z24_ (Kd.R_base ho0) hb); replace HO_4:= Aside0.mk (Kd.R_elder' z26_ (Kd.R_base ho0) hb); replace HO_5:= Aside0.mk (Kd.R_elder' z23_ (Kd.R_base ho0) hb); replace HO_7:= Aside0.mk (Kd.R_elder' z27_ (Kd.R_base ho0) hb); replace HO_8:= Aside0.mk (Kd.R_elder' z25_ (Kd.R_base ho0) hb); replace HB:= Aside0.mk (below_step z16_ hb); clear hb ho0) | ((with_reducible refine gate_dst (N := 99) rfl ?_); (try (refine gate_guard (by rfl) ?_; dsimp only)); refine Kd.R_lit (Kd.int .i64) _ 3 ?hg (N := 99) ?hd (xs := ([] : List Int)) (inner := []) (ok := fun _ => True) (okp := fun _ => True) ?hr ?hp (fun _ hk => hk) trivial (Below.refl _ _) (Nat.le_refl _) (by simp) ?_; (case hd => rfl); (case hg => rfl); (case hr => first | (go_simp; done) | (go_simp; rfl)); (case hp => exact (Reps.none _ _)); intro v469 w52 ho53 hb hg_ hnew_; clear hg_ hnew_; (first | rw [← Ny468.out] at ho53 | (simp only [Int.reduceToNat] at ho53; rw [← Ny468.out] at ho53)); have HO470:= Aside0.mk (Kd.R_lower (Kd.R_new' (Kd.R_new' (Kd.R_new' (Kd.R_new' (Kd.R_new' (Kd.R_new' ho53 (Kd.R_lt z24_)) (Kd.R_lt z26_)) (Kd.R_lt z23_)) (Kd.R_lt z27_)) (Kd.R_lt z25_)) (Kd.R_lt (by (with_reducible repeat (first | apply Kd.R_alloc | apply Kd.R_drewN | apply Kd.R_drew)); exact HO467.out))) (below_size z16_)); replace HO_3:= Aside0.mk (Kd.R_elder' z24_ (Kd.R_base ho53) hb); replace HO_4:= Aside0.mk (Kd.R_elder' z26_ (Kd.R_base ho53) hb); replace HO_5:= Aside0.mk (Kd.R_elder' z23_ (Kd.R_base ho53) hb); replace HO_7:= Aside0.mk (Kd.R_elder' z27_ (Kd.R_base ho53) hb); replace HO_8:= Aside0.mk (Kd.R_elder' z25_ (Kd.R_base ho53) hb); replace HO467:= Aside0.mk (Kd.R_elder' (by (with_reducible repeat (first | apply Kd.R_alloc | apply Kd.R_drewN | apply Kd.R_drew)); exact HO467.out) (Kd.R_base ho53) hb); replace HB:= Aside0.mk (below_step z16_ hb); clear hb ho53))
   go_loopg [14, 15] kj5 (fun kq v14 v15 w' => ∃ (x14_2 : List Int) (x15_2 : Int), v15 = .int .i64 x15_2 ∧ Aside0 (laws_FnNormal.l0 kq t435 t438 t439 t459 t463 t464 t465 x14_2 x15_2 = some r) ∧ Aside0 (kq ≤ kj5) ∧ Aside0 (Kd.R (Kd.int .i64) 3 w' w.heap.size (fun k_ => some k_ ≠ ((.slice (some ad456) t438.length co47) : Value).ownBlock ∧ some k_ ≠ (v443 : Value).ownBlock ∧ some k_ ≠ (v466 : Value).ownBlock ∧ some k_ ≠ (v14 : Value).ownBlock) (.slice (some ad460) t435.length co8) t435) ∧ Aside0 (Kd.R (Kd.int .i64) 3 w' w.heap.size (fun k_ => some k_ ≠ ((.slice (some ad460) t435.length co8) : Value).ownBlock ∧ some k_ ≠ (v443 : Value).ownBlock ∧ some k_ ≠ (v466 : Value).ownBlock ∧ some k_ ≠ (v14 : Value).ownBlock) (.slice (some ad456) t438.length co47) t438) ∧ Aside0 (Kd.R (Kd.int .i64) 3 w' w.heap.size (fun k_ => some k_ ≠ ((.slice (some ad460) t435.length co8) : Value).ownBlock ∧ some k_ ≠ ((.slice (some ad456) t438.length co47) : Value).ownBlock ∧ some k_ ≠ (v466 : Value).ownBlock ∧ some k_ ≠ (v14 : Value).ownBlock) v443 t439) ∧ Aside0 (Kd.R (Kd.int .i64) 3 w' w.heap.size (fun k_ => some k_ ≠ ((.slice (some ad460) t435.length co8) : Value).ownBlock ∧ some k_ ≠ ((.slice (some ad456) t438.length co47) : Value).ownBlock ∧ some k_ ≠ (v443 : Value).ownBlock ∧ some k_ ≠ (v14 : Value).ownBlock) v466 t464) ∧ Aside0 (Kd.R (Kd.int .i64) 3 w' w.heap.size (fun k_ => some k_ ≠ ((.slice (some ad460) t435.length co8) : Value).ownBlock ∧ some k_ ≠ ((.slice (some ad456) t438.length co47) : Value).ownBlock ∧ some k_ ≠ (v443 : Value).ownBlock ∧ some k_ ≠ (v466 : Value).ownBlock) v14 x14_2) ∧ Aside0 (Below w.heap.size w w'))
   case atStart => exact ⟨(y468), (0), z32_, H', ⟨Nat.le_refl _⟩, ⟨by (with_reducible repeat (first | apply Kd.R_alloc | apply Kd.R_drewN | apply Kd.R_drew)); exact Kd.R_mono HO_3.out (fun _ hk => ⟨hk.1.1.1, ⟨hk.1.1.2.1, ⟨hk.1.2, hk.2⟩⟩⟩)⟩, ⟨by (with_reducible repeat (first | apply Kd.R_alloc | apply Kd.R_drewN | apply Kd.R_drew)); exact Kd.R_mono HO_4.out (fun _ hk => ⟨hk.1.1.1, ⟨hk.1.1.2.1, ⟨hk.1.2, hk.2⟩⟩⟩)⟩, ⟨by (with_reducible repeat (first | apply Kd.R_alloc | apply Kd.R_drewN | apply Kd.R_drew)); exact Kd.R_mono HO_5.out (fun _ hk => ⟨hk.1.1.1, ⟨hk.1.1.2.1, ⟨hk.1.2, hk.2⟩⟩⟩)⟩, ⟨by (with_reducible repeat (first | apply Kd.R_alloc | apply Kd.R_drewN | apply Kd.R_drew)); exact Kd.R_mono HO467.out (fun _ hk => ⟨hk.1.1.1.1.1.2, ⟨hk.1.1.1.1.2, ⟨hk.1.1.1.2, hk.2⟩⟩⟩)⟩, ⟨by (with_reducible repeat (first | apply Kd.R_alloc | apply Kd.R_drewN | apply Kd.R_drew)); exact Kd.R_mono HO470.out (fun _ hk => ⟨hk.1.1.1.1.1.2, ⟨hk.1.1.1.1.2, ⟨hk.1.1.1.2, hk.2⟩⟩⟩)⟩, ⟨z16_⟩⟩
   case round =>
    clear H'
    clear c37b0 c37b1 c38b0 c38b1 c39b0 c39b1 c41b0 c41b1 c42b0 c42b1 c43b0 c43b1 hx456_0 hx457_0 hx458_0 hx460_0 hx461_0 hx462_0 p456 p457 p458 p460 p461 p462 q456 q457 q458 q460 q461 q462
    obtain ⟨x14_2, x15_2, rfl, HA, HK2, HO_3, HO_4, HO_5, HO_12, HO_14, HB⟩ := hrel
    cases gk with
    | zero => exact absurd HA.out (by simp [laws_FnNormal.l0])
    | succ k2 =>
     have H := HA.out
     clear HA
     simp only [laws_FnNormal.l0] at H
     by_cases c54 : x15_2 < (t464.length : Int)
     · rw [if_pos c54] at H
       have c54b0 := decide_eq_true c54
       clear c54
       obtain ⟨c55, H⟩ := in_ H
       have c55b0 := decide_eq_true c55
       clear c55
       obtain ⟨c56, H⟩ := in_ H
       have c56b0 := decide_eq_true c56
       clear c56
       obtain ⟨c57, H⟩ := in_ H
       have LMc57 := Aside0.mk c57
       clear c57
       generalize h_ : (x14_2 ++ [wrap64 ((rd t464 x15_2) * (rd t439 x15_2))]) = y473 at H
       have Ny473 := Aside0.mk h_.symm
       clear h_
       have H' := Aside0.mk H
       clear H
       obtain ⟨Ao58, co58, eo58⟩ := Kd.R_slice HO_12.out
       subst eo58
       go_wp2
       replace HO_3:= Aside0.mk (Kd.R_drew HO_3.out)
       replace HO_4:= Aside0.mk (Kd.R_drew HO_4.out)
       replace HO_5:= Aside0.mk (Kd.R_drew HO_5.out)
       replace HO_12:= Aside0.mk (Kd.R_drew HO_12.out)
       replace HO_14:= Aside0.mk (Kd.R_drew HO_14.out)
       replace HB:= Aside0.mk (below_drew1 HB.out)
       have p471 : 0 ≤ (x15_2 : Int) := of_decide_eq_true z31_
       have q471 : x15_2 < (t464.length : Int) := of_decide_eq_true z31_
       obtain ⟨ad471, e471, hx471_0⟩ := Kd.at_int (Kd.R_reads' HO_12.out).2.2 x15_2 p471 q471
       cases e471
       replace p471 := eq_true p471
       replace q471 := eq_true q471
       obtain ⟨Ao60, co60, eo60⟩ := Kd.R_slice HO_5.out
       (first | subst eo60 | (injection eo60 with f1_ f2_ f3_; have f4_ := f1_.symm; have f5_ := f3_.symm; clear f1_ f2_ f3_; subst f4_; subst f5_))
       have p472 : 0 ≤ (x15_2 : Int) := of_decide_eq_true z31_
       have q472 : x15_2 < (t439.length : Int) := of_decide_eq_true z31_
       obtain ⟨ad472, e472, hx472_0⟩ := Kd.at_int (Kd.R_reads' HO_5.out).2.2 x15_2 p472 q472
       cases e472
       replace p472 := eq_true p472
       replace q472 := eq_true q472
       refine start_ (n := 13) (S := fun w' => w'.cell? (ad471.add (x15_2).toNat) = some (.int .i64 (rd t464 x15_2)) ∧ w'.cell? (ad472.add (x15_2).toNat) = some (.int .i64 (rd t439 x15_2))) (ds := [10, 11]) (bs_ 13 0) (by kernel_rfl) rfl rfl ⟨hx471_0, hx472_0⟩ (fun hHeld => ?_); refine with_tabW laws_FnNormal.tab15 laws_FnNormal.bits15 (fun HT_ HW_ => ?_)
       generalize wr.drew = w59 at HO_3 HO_4 HO_5 HO_12 HO_14 HB hx471_0 hx472_0 hHeld ⊢
       refine pz_ 0 106 13 1 HT_ ?_
       refine pz_ 1 107 13 3 HT_ ?_
       refine pz_ 2 108 13 7 HT_ ?_
       refine pz_ 3 109 13 15 HT_ ?_
       refine pz_ 5 111 13 47 HT_ ?_
       refine pz_ 6 112 13 111 HT_ ?_
       refine pz_ 7 113 13 239 HT_ ?_
       refine ta_ 4 110 13 255 HT_ HW_ hHeld ?_
       refine ta_ 8 114 13 511 HT_ HW_ hHeld ?_
       refine pz_ 9 115 13 1023 HT_ ?_
       refine last_ (i := 10) (N := some 116) (bs_ 13 2047) rfl rfl (one_of HT_.out (by kernel_rfl)) (by decide) (fun K hK => ?_)
       refine value_ (w1 := ?_) (v := ?_) (by rfl) rfl ?_ ?_
       rotate_left 2
       · go_simp
         constructor
         · rfl
         rfl
       refine hK.out _ _ ?_
       clear hK K
       refine norm_ (a' := ?_) ?_ ?_
       rotate_left
       · show Act.put _ (some 116) _ = _
         simp only [Act.put, List.setIfInBounds_toArray, List.set_cons_zero, List.set_cons_succ, i64_w, i32_w]
         rfl
       refine last_ (i := 11) (N := some 117) (bs_ 13 4095) rfl rfl (one_of HT_.out (by kernel_rfl)) (by decide) (fun K hK => ?_)
       refine Kd.R_append_step (Kd.int .i64) (w0 := w) w.heap.size (by rfl) (.tmp 106) (.tmp 116) 23 3 (.int .i64 0) 8 rfl Try.underlying23 info3 rfl (by decide) (by omega) u14 x14_2 (wrap64 ((rd t464 x15_2) * (rd t439 x15_2))) [.int .i64 (wrap64 ((rd t464 x15_2) * (rd t439 x15_2)))] (fun k_ => some k_ ≠ (.slice (some ad460) t435.length co8 : Value).ownBlock ∧ some k_ ≠ (.slice (some ad456) t438.length co47 : Value).ownBlock ∧ some k_ ≠ (.slice (some ad472) t439.length co60 : Value).ownBlock ∧ some k_ ≠ (.slice (some ad471) t464.length co58 : Value).ownBlock) (fun _ => False) rfl rfl ?aP (fun _ hk => hk.elim) ?aF ?aO ?aB ?aS ?aL ?_
       (case aP => exact rfl)
       (case aB => exact z16_)
       (case aF => exact (fun k_ hk => ⟨Kd.fresh' (Kd.R_lt z24_) k_ hk, Kd.fresh' (Kd.R_lt z26_) k_ hk, Kd.fresh' (Kd.R_lt z23_) k_ hk, Kd.fresh' (Kd.R_lt (by (with_reducible repeat (first | apply Kd.R_alloc | apply Kd.R_drewN | apply Kd.R_drew)); exact HO_12.out)) k_ hk⟩))
       (case aO => exact z20_)
       (case aS => exact (below_size z16_))
       (case aL => have := LMc57.out; omega)
       intro v474 w61 ho hb hg hat
       rw [← Ny473.out] at ho
       replace HO_3:= Aside0.mk (Kd.R_after (ok := (fun k_ => some k_ ≠ (.slice (some ad456) t438.length co47 : Value).ownBlock ∧ some k_ ≠ (.slice (some ad472) t439.length co60 : Value).ownBlock ∧ some k_ ≠ (.slice (some ad471) t464.length co58 : Value).ownBlock)) (by (with_reducible repeat (first | apply Kd.R_alloc | apply Kd.R_drewN | apply Kd.R_drew)); exact Kd.R_mono HO_3.out (fun _ hk => ⟨⟨hk.1, ⟨hk.2.1, hk.2.2.1⟩⟩, hk.2.2.2⟩)) hg hat)
       replace HO_4:= Aside0.mk (Kd.R_after (ok := (fun k_ => some k_ ≠ (.slice (some ad460) t435.length co8 : Value).ownBlock ∧ some k_ ≠ (.slice (some ad472) t439.length co60 : Value).ownBlock ∧ some k_ ≠ (.slice (some ad471) t464.length co58 : Value).ownBlock)) (by (with_reducible repeat (first | apply Kd.R_alloc | apply Kd.R_drewN | apply Kd.R_drew)); exact Kd.R_mono HO_4.out (fun _ hk => ⟨⟨hk.1, ⟨hk.2.1, hk.2.2.1⟩⟩, hk.2.2.2⟩)) hg hat)
       replace HO_5:= Aside0.mk (Kd.R_after (ok := (fun k_ => some k_ ≠ (.slice (some ad460) t435.length co8 : Value).ownBlock ∧ some k_ ≠ (.slice (some ad456) t438.length co47 : Value).ownBlock ∧ some k_ ≠ (.slice (some ad471) t464.length co58 : Value).ownBlock)) (by (with_reducible repeat (first | apply Kd.R_alloc | apply Kd.R_drewN | apply Kd.R_drew)); exact Kd.R_mono HO_5.out (fun _ hk => ⟨⟨hk.1, ⟨hk.2.1, hk.2.2.1⟩⟩, hk.2.2.2⟩)) hg hat)
       replace HO_12:= Aside0.mk (Kd.R_after (ok := (fun k_ => some k_ ≠ (.slice (some ad460) t435.length co8 : Value).ownBlock ∧ some k_ ≠ (.slice (some ad456) t438.length co47 : Value).ownBlock ∧ some k_ ≠ (.slice (some ad472) t439.length co60 : Value).ownBlock)) (by (with_reducible repeat (first | apply Kd.R_alloc | apply Kd.R_drewN | apply Kd.R_drew)); exact Kd.R_mono HO_12.out (fun _ hk => ⟨⟨hk.1, ⟨hk.2.1, hk.2.2.1⟩⟩, hk.2.2.2⟩)) hg hat)
       replace HB:= Aside0.mk (hb)
       have HO475:= Aside0.mk (ho)
       clear HO_14
       clear ho hb hg hat
       refine hK.out _ _ ?_
       clear hK K
       refine norm_ (a' := ?_) ?_ ?_
       rotate_left
       · show Act.put _ (some 117) _ = _
         simp only [Act.put, List.setIfInBounds_toArray, List.set_cons_zero, List.set_cons_succ, i64_w, i32_w]
         rfl
       refine pz_ 12 14 13 8191 HT_ ?_
       refine dn_ HT_ ?_
       go_wp2
       go_roundg k2
       case measure => have := HJ5.out; have := HK2.out; omega
       case rel => exact ⟨(y473), (wrap64 (x15_2 + 1)), z32_, H', ⟨by have := HJ5.out; have := HK2.out; omega⟩, ⟨by (with_reducible repeat (first | apply Kd.R_alloc | apply Kd.R_drewN | apply Kd.R_drew)); exact Kd.R_mono HO_3.out (fun _ hk => ⟨hk.1.1, ⟨hk.1.2.1, ⟨hk.1.2.2, hk.2⟩⟩⟩)⟩, ⟨by (with_reducible repeat (first | apply Kd.R_alloc | apply Kd.R_drewN | apply Kd.R_drew)); exact Kd.R_mono HO_4.out (fun _ hk => ⟨hk.1.1, ⟨hk.1.2.1, ⟨hk.1.2.2, hk.2⟩⟩⟩)⟩, ⟨by (with_reducible repeat (first | apply Kd.R_alloc | apply Kd.R_drewN | apply Kd.R_drew)); exact Kd.R_mono HO_5.out (fun _ hk => ⟨hk.1.1, ⟨hk.1.2.1, ⟨hk.1.2.2, hk.2⟩⟩⟩)⟩, ⟨by (with_reducible repeat (first | apply Kd.R_alloc | apply Kd.R_drewN | apply Kd.R_drew)); exact Kd.R_mono HO_12.out (fun _ hk => ⟨hk.1.1, ⟨hk.1.2.1, ⟨hk.1.2.2, hk.2⟩⟩⟩)⟩, ⟨by (with_reducible repeat (first | apply Kd.R_alloc | apply Kd.R_drewN | apply Kd.R_drew)); exact HO475.out⟩, ⟨z16_⟩⟩
     rw [if_neg c54] at H
     have c54b0 := decide_eq_false c54
     clear c54
     have H' := Aside0.mk H
     clear H
     obtain ⟨Ao62, co62, eo62⟩ := Kd.R_slice HO_12.out
     subst eo62
     go_wp2
     go_loopg [16] k2 (fun kq v16 w' => ∃ (x16_3 : Int), v16 = .int .i64 x16_3 ∧ Aside0 (laws_FnNormal.l1 kq t435 t438 t439 t459 t463 t465 x14_2 x16_3 = some r) ∧ Aside0 (kq ≤ k2) ∧ Aside0 (Kd.R (Kd.int .i64) 3 w' w.heap.size (fun k_ => some k_ ≠ ((.slice (some ad456) t438.length co47) : Value).ownBlock ∧ some k_ ≠ (v443 : Value).ownBlock ∧ some k_ ≠ (u14 : Value).ownBlock) (.slice (some ad460) t435.length co8) t435) ∧ Aside0 (Kd.R (Kd.int .i64) 3 w' w.heap.size (fun k_ => some k_ ≠ ((.slice (some ad460) t435.length co8) : Value).ownBlock ∧ some k_ ≠ (v443 : Value).ownBlock ∧ some k_ ≠ (u14 : Value).ownBlock) (.slice (some ad456) t438.length co47) t438) ∧ Aside0 (Kd.R (Kd.int .i64) 3 w' w.heap.size (fun k_ => some k_ ≠ ((.slice (some ad460) t435.length co8) : Value).ownBlock ∧ some k_ ≠ ((.slice (some ad456) t438.length co47) : Value).ownBlock ∧ some k_ ≠ (u14 : Value).ownBlock) v443 t439) ∧ Aside0 (Kd.R (Kd.int .i64) 3 w' w.heap.size (fun k_ => some k_ ≠ ((.slice (some ad460) t435.length co8) : Value).ownBlock ∧ some k_ ≠ ((.slice (some ad456) t438.length co47) : Value).ownBlock ∧ some k_ ≠ (v443 : Value).ownBlock) u14 x14_2) ∧ Aside0 (Below w.heap.size w w'))
     case atStart => exact ⟨(0), z32_, H', ⟨Nat.le_refl _⟩, ⟨by (with_reducible repeat (first | apply Kd.R_alloc | apply Kd.R_drewN | apply Kd.R_drew)); exact Kd.R_mono HO_3.out (fun _ hk => ⟨hk.1, ⟨hk.2.1, hk.2.2.2⟩⟩)⟩, ⟨by (with_reducible repeat (first | apply Kd.R_alloc | apply Kd.R_drewN | apply Kd.R_drew)); exact Kd.R_mono HO_4.out (fun _ hk => ⟨hk.1, ⟨hk.2.1, hk.2.2.2⟩⟩)⟩, ⟨by (with_reducible repeat (first | apply Kd.R_alloc | apply Kd.R_drewN | apply Kd.R_drew)); exact Kd.R_mono HO_5.out (fun _ hk => ⟨hk.1, ⟨hk.2.1, hk.2.2.2⟩⟩)⟩, ⟨by (with_reducible repeat (first | apply Kd.R_alloc | apply Kd.R_drewN | apply Kd.R_drew)); exact Kd.R_mono HO_14.out (fun _ hk => ⟨hk.1, ⟨hk.2.1, hk.2.2.1⟩⟩)⟩, ⟨z16_⟩⟩
     case round =>
      clear H'
      clear c54b0
      obtain ⟨x16_3, rfl, HA, HK3, HO_3, HO_4, HO_5, HO_14, HB⟩ := hrel
      cases gk with
      | zero => exact absurd HA.out (by simp [laws_FnNormal.l1])
      | succ k3 =>
       have H := HA.out
       clear HA
       simp only [laws_FnNormal.l1] at H
       by_cases c63 : x16_3 < 3
       rotate_left
       · rw [if_neg c63] at H
         have c63b0 := decide_eq_false c63
         clear c63
         by_cases c110 : t459 ≤ t463
         rotate_left
         · rw [if_neg c110] at H
           have c110b0 := decide_eq_false c110
           clear c110
           obtain rfl := Option.some.inj H
           go_wp2
           go_ret
           exact ⟨z29_, z16_⟩
         rw [if_pos c110] at H
         have c110b0 := decide_eq_true c110
         clear c110
         obtain ⟨t476, A111, H⟩ := bi_ H
         by_cases c112 : (t465 == ((t476.length : Int) == 0)) = true
         rotate_left
         · rw [if_neg c112] at H
           have c112b0 : (t465 == ((t476.length : Int) == 0)) = false := by simpa using c112
           have c112b1 : decide (t465 = ((t476.length : Int) == 0)) = false := by simpa using c112
           have c112b2 : (t465 == ((t476.length : Int) == 0)) = false := by simpa using c112
           have c112b3 : ¬ (t465 = ((t476.length : Int) == 0)) := by simpa using c112
           clear c112
           obtain rfl := Option.some.inj H
           go_wp2_with (first | (go_at_call 27; (with_reducible refine (impl_FormBad.calls k3 _ _ t435 t476 _ ?side1 ?side2 A111.out).mono ?_); (case side1 => repeat (first | exact (Kd.R_reads' HO_3.out).2.2 | (with_reducible refine Kd.C_alloc ?_ _) | (with_reducible refine Kd.C_drewN ?_ _) | (with_reducible refine Kd.C_drew ?_))); (case side2 => exact (Kd.R_reads' HO_3.out).2.1); rintro e w121 ⟨v477, rfl, ho0, hb⟩; have HO478:= Aside0.mk (Kd.R_lower (Kd.R_new' (Kd.R_new' (Kd.R_new' (Kd.R_new' ho0 (Kd.R_lt z24_)) (Kd.R_lt z26_)) (Kd.R_lt z23_)) (Kd.R_lt z20_)) (below_size z16_)); replace HO_3:= Aside0.mk (Kd.R_elder' z24_ (Kd.R_base ho0) hb); replace HO_4:= Aside0.mk (Kd.R_elder' z26_ (Kd.R_base ho0) hb); replace HO_5:= Aside0.mk (Kd.R_elder' z23_ (Kd.R_base ho0) hb); replace HO_14:= Aside0.mk (Kd.R_elder' z20_ (Kd.R_base ho0) hb); replace HB:= Aside0.mk (below_step z16_ hb); clear hb ho0; obtain ⟨Ao122, co122, eo122⟩ := Kd.R_slice HO478.out; subst eo122))
           go_ret
           exact ⟨z29_, z16_⟩
         rw [if_pos c112] at H
         have c112b0 : (t465 == ((t476.length : Int) == 0)) = true := c112
         have c112b1 : decide (t465 = ((t476.length : Int) == 0)) = true := by simpa using c112
         have c112b2 : (t465 == ((t476.length : Int) == 0)) = true := by simpa using c112
         clear c112
         by_cases c113 : t465 = true
         · subst c113
           rw [it_] at H
           obtain ⟨t479, A114, H⟩ := bi_ H
           obtain rfl := Option.some.inj H
           go_wp2_with (first | (go_at_call 27; (with_reducible refine (impl_FormBad.calls k3 _ _ t435 t476 _ ?side1 ?side2 A111.out).mono ?_); (case side1 => repeat (first | exact (Kd.R_reads' HO_3.out).2.2 | (with_reducible refine Kd.C_alloc ?_ _) | (with_reducible refine Kd.C_drewN ?_ _) | (with_reducible refine Kd.C_drew ?_))); (case side2 => exact (Kd.R_reads' HO_3.out).2.1); rintro e w115 ⟨v477, rfl, ho0, hb⟩; have HO478:= Aside0.mk (Kd.R_lower (Kd.R_new' (Kd.R_new' (Kd.R_new' (Kd.R_new' ho0 (Kd.R_lt z24_)) (Kd.R_lt z26_)) (Kd.R_lt z23_)) (Kd.R_lt z20_)) (below_size z16_)); replace HO_3:= Aside0.mk (Kd.R_elder' z24_ (Kd.R_base ho0) hb); replace HO_4:= Aside0.mk (Kd.R_elder' z26_ (Kd.R_base ho0) hb); replace HO_5:= Aside0.mk (Kd.R_elder' z23_ (Kd.R_base ho0) hb); replace HO_14:= Aside0.mk (Kd.R_elder' z20_ (Kd.R_base ho0) hb); replace HB:= Aside0.mk (below_step z16_ hb); clear hb ho0; obtain ⟨Ao116, co116, eo116⟩ := Kd.R_slice HO478.out; subst eo116; obtain ⟨Ao117, co117, eo117⟩ := Kd.R_slice HO_14.out; subst eo117) | (go_at_call 28; (with_reducible refine (impl_ZeroIs.calls k3 _ _ t435 _ _ x14_2 t479 _ ?side1 ?side2 ?side3 ?side4 A114.out).mono ?_); (case side1 => repeat (first | exact (Kd.R_reads' HO_3.out).2.2 | (with_reducible refine Kd.C_alloc ?_ _) | (with_reducible refine Kd.C_drewN ?_ _) | (with_reducible refine Kd.C_drew ?_))); (case side2 => exact (Kd.R_reads' HO_3.out).2.1); (case side3 => repeat (first | exact (Kd.R_reads' HO_14.out).2.2 | (with_reducible refine Kd.C_alloc ?_ _) | (with_reducible refine Kd.C_drewN ?_ _) | (with_reducible refine Kd.C_drew ?_))); (case side4 => exact (Kd.R_reads' HO_14.out).2.1); rintro e w118 ⟨rfl, hb⟩; replace HO_3:= Aside0.mk (Kd.R_below z24_ hb); replace HO_4:= Aside0.mk (Kd.R_below z26_ hb); replace HO_5:= Aside0.mk (Kd.R_below z23_ hb); replace HO_14:= Aside0.mk (Kd.R_below z20_ hb); replace HO478:= Aside0.mk (Kd.R_below (by (with_reducible repeat (first | apply Kd.R_alloc | apply Kd.R_drewN | apply Kd.R_drew)); exact HO478.out) hb); replace HB:= Aside0.mk (below_step z16_ hb); clear hb))
           go_ret
           exact ⟨z29_, z16_⟩
         replace c113 := Bool.eq_false_iff.mpr c113
         subst c113
         rw [jt_] at H
         obtain rfl := Option.some.inj H
         go_wp2_with (first | (go_at_call 27; (with_reducible refine (impl_FormBad.calls k3 _ _ t435 t476 _ ?side1 ?side2 A111.out).mono ?_); (case side1 => repeat (first | exact (Kd.R_reads' HO_3.out).2.2 | (with_reducible refine Kd.C_alloc ?_ _) | (with_reducible refine Kd.C_drewN ?_ _) | (with_reducible refine Kd.C_drew ?_))); (case side2 => exact (Kd.R_reads' HO_3.out).2.1); rintro e w119 ⟨v477, rfl, ho0, hb⟩; have HO478:= Aside0.mk (Kd.R_lower (Kd.R_new' (Kd.R_new' (Kd.R_new' (Kd.R_new' ho0 (Kd.R_lt z24_)) (Kd.R_lt z26_)) (Kd.R_lt z23_)) (Kd.R_lt z20_)) (below_size z16_)); replace HO_3:= Aside0.mk (Kd.R_elder' z24_ (Kd.R_base ho0) hb); replace HO_4:= Aside0.mk (Kd.R_elder' z26_ (Kd.R_base ho0) hb); replace HO_5:= Aside0.mk (Kd.R_elder' z23_ (Kd.R_base ho0) hb); replace HO_14:= Aside0.mk (Kd.R_elder' z20_ (Kd.R_base ho0) hb); replace HB:= Aside0.mk (below_step z16_ hb); clear hb ho0; obtain ⟨Ao120, co120, eo120⟩ := Kd.R_slice HO478.out; subst eo120))
         go_ret
         exact ⟨z29_, z16_⟩
       rw [if_pos c63] at H
       have c63b0 := decide_eq_true c63
       clear c63
       obtain ⟨c64, H⟩ := in_ H
       have c64b0 := decide_eq_true c64
       clear c64
       obtain ⟨c65, H⟩ := in_ H
       have c65b0 := decide_eq_true c65
       clear c65
       obtain ⟨⟨t481, t482, t483⟩, A66, H⟩ := bi_ H
       try dsimp only at H
       by_cases c67 : t483 = true
       · subst c67
         rw [it_] at H
         by_cases c68 : t481 = (rd t438 x16_3)
         rotate_left
         · rw [if_neg c68] at H
           have c68b0 := beq_eq_false_iff_ne.mpr c68
           have c68b1 := bne_iff_ne.mpr c68
           obtain rfl := Option.some.inj H
           have p480 : 0 ≤ (x16_3 : Int) := of_decide_eq_true z31_
           have q480 : x16_3 < (t438.length : Int) := of_decide_eq_true z31_
           obtain ⟨ad480, e480, hx480_0⟩ := Kd.at_int (Kd.R_reads' HO_4.out).2.2 x16_3 p480 q480
           obtain rfl : ad456 = ad480 := (by injection e480)
           replace p480 := eq_true p480
           replace q480 := eq_true q480
           try go_wp2_with (first | ((with_reducible refine gate_callee (f := 25) rfl ?_); refine goesL_ (some 127) rfl rfl Try.func25 (by kernel_rfl) rfl #[.int .i64 (rd t438 x16_3)] rfl z14_ ?_; (with_reducible refine (impl_CoreOf.calls k3 (rd t438 x16_3) t481 t482 true _ A66.out).mono ?_); rintro e w90 ⟨rfl, hb⟩; refine ⟨_, rfl, ?_⟩; replace HO_3:= Aside0.mk (Kd.R_below z24_ hb); replace HO_4:= Aside0.mk (Kd.R_below z26_ hb); replace HO_5:= Aside0.mk (Kd.R_below z23_ hb); replace HO_14:= Aside0.mk (Kd.R_below z20_ hb); replace HB:= Aside0.mk (below_step z16_ hb); clear hb))
           replace HO_3:= Aside0.mk (Kd.R_drew HO_3.out)
           replace HO_4:= Aside0.mk (Kd.R_drew HO_4.out)
           replace HO_5:= Aside0.mk (Kd.R_drew HO_5.out)
           replace HO_14:= Aside0.mk (Kd.R_drew HO_14.out)
           replace HB:= Aside0.mk (below_drew1 HB.out)
           have p484 : 0 ≤ (x16_3 : Int) := of_decide_eq_true z31_
           have q484 : x16_3 < (t438.length : Int) := of_decide_eq_true z31_
           obtain ⟨ad484, e484, hx484_0⟩ := Kd.at_int (Kd.R_reads' HO_4.out).2.2 x16_3 p484 q484
           obtain rfl : ad456 = ad484 := (by injection e484)
           replace p484 := eq_true p484
           replace q484 := eq_true q484
           refine start_ (n := 32) (S := fun w' => w'.cell? (ad456.add (x16_3).toNat) = some (.int .i64 (rd t438 x16_3))) (ds := []) (bs_ 32 0) (by kernel_rfl) rfl rfl (hx484_0) (fun hHeld => ?_); refine with_tabW laws_FnNormal.tab21 laws_FnNormal.bits21 (fun HT_ HW_ => ?_)
           generalize w90.drew = w91 at HO_3 HO_4 HO_5 HO_14 HB hx484_0 hHeld ⊢
           refine pz_ 0 134 32 1 HT_ ?_
           refine pz_ 1 135 32 3 HT_ ?_
           refine pz_ 2 136 32 7 HT_ ?_
           refine pz_ 3 137 32 15 HT_ ?_
           refine pz_ 4 138 32 31 HT_ ?_
           refine pz_ 5 139 32 63 HT_ ?_
           refine take_ (i := 6) (N := some 140) (v := ?_) (a' := ?_) (bs_ 32 127) rfl rfl (take_ofW HT_.out HW_.out (by kernel_rfl)) (fun _ _ _ h => h) (Or.inl ⟨by rfl, ?_⟩) hHeld ?_ ?_
           rotate_left
           · intro w' s0
             go_simp
             with_reducible rfl
           rotate_left
           · simp only [Act.put, List.setIfInBounds_toArray, List.set_cons_zero, List.set_cons_succ, i64_w, i32_w]
             rfl
           refine pz_ 7 141 32 255 HT_ ?_
           refine pz_ 8 142 32 511 HT_ ?_
           refine pu_ 9 143 32 1023 HT_ ?_
           refine pu_ 10 144 32 2047 HT_ ?_
           refine pz_ 11 145 32 4095 HT_ ?_
           refine pz_ 12 146 32 8191 HT_ ?_
           refine pz_ 13 147 32 16383 HT_ ?_
           refine pu_ 14 148 32 32767 HT_ ?_
           refine pu_ 15 149 32 65535 HT_ ?_
           refine pu_ 16 150 32 131071 HT_ ?_
           refine pu_ 17 151 32 262143 HT_ ?_
           refine pu_ 18 152 32 524287 HT_ ?_
           refine pu_ 19 153 32 1048575 HT_ ?_
           refine pu_ 20 154 32 2097151 HT_ ?_
           refine pu_ 21 155 32 4194303 HT_ ?_
           refine pu_ 22 156 32 8388607 HT_ ?_
           refine pu_ 23 157 32 16777215 HT_ ?_
           refine pz_ 24 158 32 33554431 HT_ ?_
           refine pz_ 25 159 32 67108863 HT_ ?_
           refine pu_ 26 160 32 134217727 HT_ ?_
           refine pu_ 27 161 32 268435455 HT_ ?_
           refine pu_ 28 162 32 536870911 HT_ ?_
           refine pu_ 29 163 32 1073741823 HT_ ?_
           refine pu_ 30 164 32 2147483647 HT_ ?_
           refine pz_ 31 165 32 4294967295 HT_ ?_
           refine dn_ HT_ ?_
           go_wp2
           go_ret
           exact ⟨z29_, z16_⟩
         rw [if_pos c68] at H
         have c68b0 := beq_iff_eq.mpr c68
         have c68b1 := bne_eq_false_iff_eq.mpr c68
         clear c68
         by_cases c69 : t482 = 1
         rotate_left
         · rw [if_neg c69] at H
           have c69b0 := beq_eq_false_iff_ne.mpr c69
           have c69b1 := bne_iff_ne.mpr c69
           obtain rfl := Option.some.inj H
           have p480 : 0 ≤ (x16_3 : Int) := of_decide_eq_true z31_
           have q480 : x16_3 < (t438.length : Int) := of_decide_eq_true z31_
           obtain ⟨ad480, e480, hx480_0⟩ := Kd.at_int (Kd.R_reads' HO_4.out).2.2 x16_3 p480 q480
           obtain rfl : ad456 = ad480 := (by injection e480)
           replace p480 := eq_true p480
           replace q480 := eq_true q480
           try go_wp2_with (first | ((with_reducible refine gate_callee (f := 25) rfl ?_); refine goesL_ (some 127) rfl rfl Try.func25 (by kernel_rfl) rfl #[.int .i64 (rd t438 x16_3)] rfl z14_ ?_; (with_reducible refine (impl_CoreOf.calls k3 (rd t438 x16_3) t481 t482 true _ A66.out).mono ?_); rintro e w88 ⟨rfl, hb⟩; refine ⟨_, rfl, ?_⟩; replace HO_3:= Aside0.mk (Kd.R_below z24_ hb); replace HO_4:= Aside0.mk (Kd.R_below z26_ hb); replace HO_5:= Aside0.mk (Kd.R_below z23_ hb); replace HO_14:= Aside0.mk (Kd.R_below z20_ hb); replace HB:= Aside0.mk (below_step z16_ hb); clear hb))
           replace HO_3:= Aside0.mk (Kd.R_drew HO_3.out)
           replace HO_4:= Aside0.mk (Kd.R_drew HO_4.out)
           replace HO_5:= Aside0.mk (Kd.R_drew HO_5.out)
           replace HO_14:= Aside0.mk (Kd.R_drew HO_14.out)
           replace HB:= Aside0.mk (below_drew1 HB.out)
           have p484 : 0 ≤ (x16_3 : Int) := of_decide_eq_true z31_
           have q484 : x16_3 < (t438.length : Int) := of_decide_eq_true z31_
           obtain ⟨ad484, e484, hx484_0⟩ := Kd.at_int (Kd.R_reads' HO_4.out).2.2 x16_3 p484 q484
           obtain rfl : ad456 = ad484 := (by injection e484)
           replace p484 := eq_true p484
           replace q484 := eq_true q484
           refine start_ (n := 32) (S := fun w' => w'.cell? (ad456.add (x16_3).toNat) = some (.int .i64 (rd t438 x16_3))) (ds := []) (bs_ 32 0) (by kernel_rfl) rfl rfl (hx484_0) (fun hHeld => ?_); refine with_tabW laws_FnNormal.tab21 laws_FnNormal.bits21 (fun HT_ HW_ => ?_)
           generalize w88.drew = w89 at HO_3 HO_4 HO_5 HO_14 HB hx484_0 hHeld ⊢
           refine pz_ 0 134 32 1 HT_ ?_
           refine pz_ 1 135 32 3 HT_ ?_
           refine pz_ 2 136 32 7 HT_ ?_
           refine pz_ 3 137 32 15 HT_ ?_
           refine pz_ 4 138 32 31 HT_ ?_
           refine pz_ 5 139 32 63 HT_ ?_
           refine take_ (i := 6) (N := some 140) (v := ?_) (a' := ?_) (bs_ 32 127) rfl rfl (take_ofW HT_.out HW_.out (by kernel_rfl)) (fun _ _ _ h => h) (Or.inl ⟨by rfl, ?_⟩) hHeld ?_ ?_
           rotate_left
           · intro w' s0
             go_simp
             with_reducible rfl
           rotate_left
           · simp only [Act.put, List.setIfInBounds_toArray, List.set_cons_zero, List.set_cons_succ, i64_w, i32_w]
             rfl
           refine pz_ 7 141 32 255 HT_ ?_
           refine pz_ 8 142 32 511 HT_ ?_
           refine pz_ 9 143 32 1023 HT_ ?_
           refine pz_ 10 144 32 2047 HT_ ?_
           refine pz_ 11 145 32 4095 HT_ ?_
           refine pz_ 12 146 32 8191 HT_ ?_
           refine pz_ 13 147 32 16383 HT_ ?_
           refine pu_ 14 148 32 32767 HT_ ?_
           refine pu_ 15 149 32 65535 HT_ ?_
           refine pu_ 16 150 32 131071 HT_ ?_
           refine pu_ 17 151 32 262143 HT_ ?_
           refine pu_ 18 152 32 524287 HT_ ?_
           refine pu_ 19 153 32 1048575 HT_ ?_
           refine pu_ 20 154 32 2097151 HT_ ?_
           refine pu_ 21 155 32 4194303 HT_ ?_
           refine pu_ 22 156 32 8388607 HT_ ?_
           refine pu_ 23 157 32 16777215 HT_ ?_
           refine pz_ 24 158 32 33554431 HT_ ?_
           refine pz_ 25 159 32 67108863 HT_ ?_
           refine pu_ 26 160 32 134217727 HT_ ?_
           refine pu_ 27 161 32 268435455 HT_ ?_
           refine pu_ 28 162 32 536870911 HT_ ?_
           refine pu_ 29 163 32 1073741823 HT_ ?_
           refine pu_ 30 164 32 2147483647 HT_ ?_
           refine pz_ 31 165 32 4294967295 HT_ ?_
           refine dn_ HT_ ?_
           go_wp2
           go_ret
           exact ⟨z29_, z16_⟩
         rw [if_pos c69] at H
         have c69b0 := beq_iff_eq.mpr c69
         have c69b1 := bne_eq_false_iff_eq.mpr c69
         clear c69
         obtain ⟨ji70, hji70⟩ : ∃ j_ : Int, (Int.tmod (wrap64 (x16_3 + 1)) 3) = j_ := ⟨_, rfl⟩
         replace H : (if 0 ≤ (ji70) then (if (ji70) < (t438.length : Int) then ((impl_GcdOf.f k3 (rd t438 x16_3) (rd t438 (ji70))).bind fun t487 => (if t487 > 1 then (some false) else (if x16_3 < (t439.length : Int) then (if (rd t439 x16_3) < 1 then (some false) else (laws_FnNormal.l1 k3 t435 t438 t439 t459 t463 t465 x14_2 (wrap64 (x16_3 + 1)))) else (none)))) else (none)) else (none)) = some r := by first | (rw [hji70] at H; exact H) | (simp only [hji70] at H ⊢; exact H)
         obtain ⟨c71, H⟩ := in_ H
         have c71b0 := decide_eq_true c71
         clear c71
         obtain ⟨c72, H⟩ := in_ H
         have c72b0 := decide_eq_true c72
         clear c72
         obtain ⟨t487, A73, H⟩ := bi_ H
         by_cases c74 : t487 > 1
         · rw [if_pos c74] at H
           have c74b0 := decide_eq_true c74
           clear c74
           obtain rfl := Option.some.inj H
           have p480 : 0 ≤ (x16_3 : Int) := of_decide_eq_true z31_
           have q480 : x16_3 < (t438.length : Int) := of_decide_eq_true z31_
           obtain ⟨ad480, e480, hx480_0⟩ := Kd.at_int (Kd.R_reads' HO_4.out).2.2 x16_3 p480 q480
           obtain rfl : ad456 = ad480 := (by injection e480)
           replace p480 := eq_true p480
           replace q480 := eq_true q480
           try go_wp2_with (first | ((with_reducible refine gate_callee (f := 25) rfl ?_); refine goesL_ (some 127) rfl rfl Try.func25 (by kernel_rfl) rfl #[.int .i64 (rd t438 x16_3)] rfl z14_ ?_; (with_reducible refine (impl_CoreOf.calls k3 (rd t438 x16_3) t481 t482 true _ A66.out).mono ?_); rintro e w75 ⟨rfl, hb⟩; refine ⟨_, rfl, ?_⟩; replace HO_3:= Aside0.mk (Kd.R_below z24_ hb); replace HO_4:= Aside0.mk (Kd.R_below z26_ hb); replace HO_5:= Aside0.mk (Kd.R_below z23_ hb); replace HO_14:= Aside0.mk (Kd.R_below z20_ hb); replace HB:= Aside0.mk (below_step z16_ hb); clear hb))
           replace HO_3:= Aside0.mk (Kd.R_drew HO_3.out)
           replace HO_4:= Aside0.mk (Kd.R_drew HO_4.out)
           replace HO_5:= Aside0.mk (Kd.R_drew HO_5.out)
           replace HO_14:= Aside0.mk (Kd.R_drew HO_14.out)
           replace HB:= Aside0.mk (below_drew1 HB.out)
           have p484 : 0 ≤ (x16_3 : Int) := of_decide_eq_true z31_
           have q484 : x16_3 < (t438.length : Int) := of_decide_eq_true z31_
           obtain ⟨ad484, e484, hx484_0⟩ := Kd.at_int (Kd.R_reads' HO_4.out).2.2 x16_3 p484 q484
           obtain rfl : ad456 = ad484 := (by injection e484)
           replace p484 := eq_true p484
           replace q484 := eq_true q484
           have p485 : 0 ≤ (x16_3 : Int) := of_decide_eq_true z31_
           have q485 : x16_3 < (t438.length : Int) := of_decide_eq_true z31_
           obtain ⟨ad485, e485, hx485_0⟩ := Kd.at_int (Kd.R_reads' HO_4.out).2.2 x16_3 p485 q485
           obtain rfl : ad456 = ad485 := (by injection e485)
           replace p485 := eq_true p485
           replace q485 := eq_true q485
           have p486 : 0 ≤ ((ji70) : Int) := of_decide_eq_true z31_
           have q486 : (ji70) < (t438.length : Int) := of_decide_eq_true z31_
           obtain ⟨ad486, e486, hx486_0⟩ := Kd.at_int (Kd.R_reads' HO_4.out).2.2 (ji70) p486 q486
           obtain rfl : ad456 = ad486 := (by injection e486)
           replace p486 := eq_true p486
           replace q486 := eq_true q486
           refine start_ (n := 32) (S := fun w' => w'.cell? (ad456.add (x16_3).toNat) = some (.int .i64 (rd t438 x16_3)) ∧ w'.cell? (ad456.add (x16_3).toNat) = some (.int .i64 (rd t438 x16_3)) ∧ w'.cell? (ad456.add ((ji70)).toNat) = some (.int .i64 (rd t438 (ji70)))) (ds := []) (bs_ 32 0) (by kernel_rfl) rfl rfl ⟨hx484_0, hx485_0, hx486_0⟩ (fun hHeld => ?_); refine with_tabW laws_FnNormal.tab21 laws_FnNormal.bits21 (fun HT_ HW_ => ?_)
           generalize w75.drew = w76 at HO_3 HO_4 HO_5 HO_14 HB hx484_0 hx485_0 hx486_0 hHeld ⊢
           refine pz_ 0 134 32 1 HT_ ?_
           refine pz_ 1 135 32 3 HT_ ?_
           refine pz_ 2 136 32 7 HT_ ?_
           refine pz_ 3 137 32 15 HT_ ?_
           refine pz_ 4 138 32 31 HT_ ?_
           refine pz_ 5 139 32 63 HT_ ?_
           refine ta_ 6 140 32 127 HT_ HW_ hHeld ?_
           refine pz_ 7 141 32 255 HT_ ?_
           refine pz_ 8 142 32 511 HT_ ?_
           refine pz_ 9 143 32 1023 HT_ ?_
           refine pz_ 10 144 32 2047 HT_ ?_
           refine pz_ 11 145 32 4095 HT_ ?_
           refine pz_ 12 146 32 8191 HT_ ?_
           refine pz_ 13 147 32 16383 HT_ ?_
           refine pz_ 14 148 32 32767 HT_ ?_
           refine pz_ 15 149 32 65535 HT_ ?_
           refine pz_ 16 150 32 131071 HT_ ?_
           refine pz_ 18 152 32 393215 HT_ ?_
           refine pz_ 19 153 32 917503 HT_ ?_
           refine pz_ 20 154 32 1966079 HT_ ?_
           refine ta_ 17 151 32 2097151 HT_ HW_ hHeld ?_
           refine ta_ 21 155 32 4194303 HT_ HW_ hHeld ?_
           refine on_ 22 156 32 8388607 HT_ (fun K hK => ?_)
           refine goes_ Try.func26 (by kernel_rfl) rfl #[.int .i64 (rd t438 x16_3), .int .i64 (rd t438 (ji70))] (by rfl) rfl rfl (by (try simp only [List.map_toArray, List.map_cons, List.map_nil]); first | done | (simp only [hji70]; rfl) | rfl | (simp only [List.length_drop, List.length_take]; rfl)) ?_
           with_reducible refine (impl_GcdOf.calls k3 (rd t438 x16_3) (rd t438 (ji70)) t487 _ A73.out).mono ?_
           rintro e w77 ⟨rfl, hb⟩
           have HS0_ := (hb.cell (World.block_lt_of_cell? _ _ (hHeld.1))).trans (hHeld.1)
           have HS1_ := (hb.cell (World.block_lt_of_cell? _ _ (hHeld.2.1))).trans (hHeld.2.1)
           have HS2_ := (hb.cell (World.block_lt_of_cell? _ _ (hHeld.2.2))).trans (hHeld.2.2)
           refine ⟨_, rfl, ?_⟩
           replace HO_3:= Aside0.mk (Kd.R_below z24_ hb)
           replace HO_4:= Aside0.mk (Kd.R_below z26_ hb)
           replace HO_5:= Aside0.mk (Kd.R_below z23_ hb)
           replace HO_14:= Aside0.mk (Kd.R_below z20_ hb)
           replace HB:= Aside0.mk (below_step z16_ hb)
           clear hb
           refine hK.out _ _ ⟨HS0_, HS1_, HS2_⟩ (fun hHeld => ?_)
           clear hK K
           refine norm_ (a' := ?_) ?_ ?_
           rotate_left
           · show Act.put _ (some 156) _ = _
             simp only [Act.put, List.setIfInBounds_toArray, List.set_cons_zero, List.set_cons_succ, i64_w, i32_w]
             rfl
           refine pz_ 23 157 32 16777215 HT_ ?_
           refine pz_ 24 158 32 33554431 HT_ ?_
           refine pz_ 25 159 32 67108863 HT_ ?_
           refine pu_ 26 160 32 134217727 HT_ ?_
           refine pu_ 27 161 32 268435455 HT_ ?_
           refine pu_ 28 162 32 536870911 HT_ ?_
           refine pu_ 29 163 32 1073741823 HT_ ?_
           refine pu_ 30 164 32 2147483647 HT_ ?_
           refine pz_ 31 165 32 4294967295 HT_ ?_
           refine dn_ HT_ ?_
           go_wp2
           go_ret
           exact ⟨by first | rfl | (simp [errW_none, errW_some] <;> rfl) | (simp only [← hji70]; first | rfl | (simp [errW_none, errW_some] <;> rfl)) | (simp [*, errW_none, errW_some] <;> rfl), z16_⟩
         rw [if_neg c74] at H
         have c74b0 := decide_eq_false c74
         clear c74
         obtain ⟨c78, H⟩ := in_ H
         have c78b0 := decide_eq_true c78
         clear c78
         by_cases c79 : (rd t439 x16_3) < 1
         · rw [if_pos c79] at H
           have c79b0 := decide_eq_true c79
           clear c79
           obtain rfl := Option.some.inj H
           have p480 : 0 ≤ (x16_3 : Int) := of_decide_eq_true z31_
           have q480 : x16_3 < (t438.length : Int) := of_decide_eq_true z31_
           obtain ⟨ad480, e480, hx480_0⟩ := Kd.at_int (Kd.R_reads' HO_4.out).2.2 x16_3 p480 q480
           obtain rfl : ad456 = ad480 := (by injection e480)
           replace p480 := eq_true p480
           replace q480 := eq_true q480
           try go_wp2_with (first | ((with_reducible refine gate_callee (f := 25) rfl ?_); refine goesL_ (some 127) rfl rfl Try.func25 (by kernel_rfl) rfl #[.int .i64 (rd t438 x16_3)] rfl z14_ ?_; (with_reducible refine (impl_CoreOf.calls k3 (rd t438 x16_3) t481 t482 true _ A66.out).mono ?_); rintro e w80 ⟨rfl, hb⟩; refine ⟨_, rfl, ?_⟩; replace HO_3:= Aside0.mk (Kd.R_below z24_ hb); replace HO_4:= Aside0.mk (Kd.R_below z26_ hb); replace HO_5:= Aside0.mk (Kd.R_below z23_ hb); replace HO_14:= Aside0.mk (Kd.R_below z20_ hb); replace HB:= Aside0.mk (below_step z16_ hb); clear hb))
           replace HO_3:= Aside0.mk (Kd.R_drew HO_3.out)
           replace HO_4:= Aside0.mk (Kd.R_drew HO_4.out)
           replace HO_5:= Aside0.mk (Kd.R_drew HO_5.out)
           replace HO_14:= Aside0.mk (Kd.R_drew HO_14.out)
           replace HB:= Aside0.mk (below_drew1 HB.out)
           have p484 : 0 ≤ (x16_3 : Int) := of_decide_eq_true z31_
           have q484 : x16_3 < (t438.length : Int) := of_decide_eq_true z31_
           obtain ⟨ad484, e484, hx484_0⟩ := Kd.at_int (Kd.R_reads' HO_4.out).2.2 x16_3 p484 q484
           obtain rfl : ad456 = ad484 := (by injection e484)
           replace p484 := eq_true p484
           replace q484 := eq_true q484
           have p485 : 0 ≤ (x16_3 : Int) := of_decide_eq_true z31_
           have q485 : x16_3 < (t438.length : Int) := of_decide_eq_true z31_
           obtain ⟨ad485, e485, hx485_0⟩ := Kd.at_int (Kd.R_reads' HO_4.out).2.2 x16_3 p485 q485
           obtain rfl : ad456 = ad485 := (by injection e485)
           replace p485 := eq_true p485
           replace q485 := eq_true q485
           have p486 : 0 ≤ ((ji70) : Int) := of_decide_eq_true z31_
           have q486 : (ji70) < (t438.length : Int) := of_decide_eq_true z31_
           obtain ⟨ad486, e486, hx486_0⟩ := Kd.at_int (Kd.R_reads' HO_4.out).2.2 (ji70) p486 q486
           obtain rfl : ad456 = ad486 := (by injection e486)
           replace p486 := eq_true p486
           replace q486 := eq_true q486
           have p488 : 0 ≤ (x16_3 : Int) := of_decide_eq_true z31_
           have q488 : x16_3 < (t439.length : Int) := of_decide_eq_true z31_
           obtain ⟨Aos_, cos_, hslice_⟩ := Kd.R_slice HO_5.out; subst hslice_
           obtain ⟨ad488, e488, hx488_0⟩ := Kd.at_int (Kd.R_reads' HO_5.out).2.2 x16_3 p488 q488
           cases e488
           replace p488 := eq_true p488
           replace q488 := eq_true q488
           refine start_ (n := 32) (S := fun w' => w'.cell? (ad456.add (x16_3).toNat) = some (.int .i64 (rd t438 x16_3)) ∧ w'.cell? (ad456.add (x16_3).toNat) = some (.int .i64 (rd t438 x16_3)) ∧ w'.cell? (ad456.add ((ji70)).toNat) = some (.int .i64 (rd t438 (ji70))) ∧ w'.cell? (ad488.add (x16_3).toNat) = some (.int .i64 (rd t439 x16_3))) (ds := []) (bs_ 32 0) (by kernel_rfl) rfl rfl ⟨hx484_0, hx485_0, hx486_0, hx488_0⟩ (fun hHeld => ?_); refine with_tabW laws_FnNormal.tab21 laws_FnNormal.bits21 (fun HT_ HW_ => ?_)
           generalize w80.drew = w81 at HO_3 HO_4 HO_5 HO_14 HB hx484_0 hx485_0 hx486_0 hx488_0 hHeld ⊢
           refine pz_ 0 134 32 1 HT_ ?_
           refine pz_ 1 135 32 3 HT_ ?_
           refine pz_ 2 136 32 7 HT_ ?_
           refine pz_ 3 137 32 15 HT_ ?_
           refine pz_ 4 138 32 31 HT_ ?_
           refine pz_ 5 139 32 63 HT_ ?_
           refine ta_ 6 140 32 127 HT_ HW_ hHeld ?_
           refine pz_ 7 141 32 255 HT_ ?_
           refine pz_ 8 142 32 511 HT_ ?_
           refine pz_ 9 143 32 1023 HT_ ?_
           refine pz_ 10 144 32 2047 HT_ ?_
           refine pz_ 11 145 32 4095 HT_ ?_
           refine pz_ 12 146 32 8191 HT_ ?_
           refine pz_ 13 147 32 16383 HT_ ?_
           refine pz_ 14 148 32 32767 HT_ ?_
           refine pz_ 15 149 32 65535 HT_ ?_
           refine pz_ 16 150 32 131071 HT_ ?_
           refine pz_ 18 152 32 393215 HT_ ?_
           refine pz_ 19 153 32 917503 HT_ ?_
           refine pz_ 20 154 32 1966079 HT_ ?_
           refine ta_ 17 151 32 2097151 HT_ HW_ hHeld ?_
           refine ta_ 21 155 32 4194303 HT_ HW_ hHeld ?_
           refine on_ 22 156 32 8388607 HT_ (fun K hK => ?_)
           refine goes_ Try.func26 (by kernel_rfl) rfl #[.int .i64 (rd t438 x16_3), .int .i64 (rd t438 (ji70))] (by rfl) rfl rfl (by (try simp only [List.map_toArray, List.map_cons, List.map_nil]); first | done | (simp only [hji70]; rfl) | rfl | (simp only [List.length_drop, List.length_take]; rfl)) ?_
           with_reducible refine (impl_GcdOf.calls k3 (rd t438 x16_3) (rd t438 (ji70)) t487 _ A73.out).mono ?_
           rintro e w82 ⟨rfl, hb⟩
           have HS0_ := (hb.cell (World.block_lt_of_cell? _ _ (hHeld.1))).trans (hHeld.1)
           have HS1_ := (hb.cell (World.block_lt_of_cell? _ _ (hHeld.2.1))).trans (hHeld.2.1)
           have HS2_ := (hb.cell (World.block_lt_of_cell? _ _ (hHeld.2.2.1))).trans (hHeld.2.2.1)
           have HS3_ := (hb.cell (World.block_lt_of_cell? _ _ (hHeld.2.2.2))).trans (hHeld.2.2.2)
           refine ⟨_, rfl, ?_⟩
           replace HO_3:= Aside0.mk (Kd.R_below z24_ hb)
           replace HO_4:= Aside0.mk (Kd.R_below z26_ hb)
           replace HO_5:= Aside0.mk (Kd.R_below z23_ hb)
           replace HO_14:= Aside0.mk (Kd.R_below z20_ hb)
           replace HB:= Aside0.mk (below_step z16_ hb)
           clear hb
           obtain ⟨Ao83, co83, eo83⟩ := Kd.R_slice HO_5.out
           (first | subst eo83 | (injection eo83 with f1_ f2_ f3_; have f4_ := f1_.symm; have f5_ := f3_.symm; clear f1_ f2_ f3_; subst f4_; subst f5_))
           refine hK.out _ _ ⟨HS0_, HS1_, HS2_, HS3_⟩ (fun hHeld => ?_)
           clear hK K
           refine norm_ (a' := ?_) ?_ ?_
           rotate_left
           · show Act.put _ (some 156) _ = _
             simp only [Act.put, List.setIfInBounds_toArray, List.set_cons_zero, List.set_cons_succ, i64_w, i32_w]
             rfl
           refine pz_ 23 157 32 16777215 HT_ ?_
           refine pz_ 24 158 32 33554431 HT_ ?_
           refine pz_ 25 159 32 67108863 HT_ ?_
           refine pz_ 26 160 32 134217727 HT_ ?_
           refine pz_ 27 161 32 268435455 HT_ ?_
           refine pz_ 28 162 32 536870911 HT_ ?_
           refine ta_ 29 163 32 1073741823 HT_ HW_ hHeld ?_
           refine pz_ 30 164 32 2147483647 HT_ ?_
           refine pz_ 31 165 32 4294967295 HT_ ?_
           refine dn_ HT_ ?_
           go_wp2
           go_ret
           exact ⟨by first | rfl | (simp [errW_none, errW_some] <;> rfl) | (simp only [← hji70]; first | rfl | (simp [errW_none, errW_some] <;> rfl)) | (simp [*, errW_none, errW_some] <;> rfl), z16_⟩
         rw [if_neg c79] at H
         have c79b0 := decide_eq_false c79
         clear c79
         have H' := Aside0.mk H
         clear H
         have p480 : 0 ≤ (x16_3 : Int) := of_decide_eq_true z31_
         have q480 : x16_3 < (t438.length : Int) := of_decide_eq_true z31_
         obtain ⟨ad480, e480, hx480_0⟩ := Kd.at_int (Kd.R_reads' HO_4.out).2.2 x16_3 p480 q480
         obtain rfl : ad456 = ad480 := (by injection e480)
         replace p480 := eq_true p480
         replace q480 := eq_true q480
         try go_wp2_with (first | ((with_reducible refine gate_callee (f := 25) rfl ?_); refine goesL_ (some 127) rfl rfl Try.func25 (by kernel_rfl) rfl #[.int .i64 (rd t438 x16_3)] rfl z14_ ?_; (with_reducible refine (impl_CoreOf.calls k3 (rd t438 x16_3) t481 t482 true _ A66.out).mono ?_); rintro e w84 ⟨rfl, hb⟩; refine ⟨_, rfl, ?_⟩; replace HO_3:= Aside0.mk (Kd.R_below z24_ hb); replace HO_4:= Aside0.mk (Kd.R_below z26_ hb); replace HO_5:= Aside0.mk (Kd.R_below z23_ hb); replace HO_14:= Aside0.mk (Kd.R_below z20_ hb); replace HB:= Aside0.mk (below_step z16_ hb); clear hb))
         replace HO_3:= Aside0.mk (Kd.R_drew HO_3.out)
         replace HO_4:= Aside0.mk (Kd.R_drew HO_4.out)
         replace HO_5:= Aside0.mk (Kd.R_drew HO_5.out)
         replace HO_14:= Aside0.mk (Kd.R_drew HO_14.out)
         replace HB:= Aside0.mk (below_drew1 HB.out)
         have p484 : 0 ≤ (x16_3 : Int) := of_decide_eq_true z31_
         have q484 : x16_3 < (t438.length : Int) := of_decide_eq_true z31_
         obtain ⟨ad484, e484, hx484_0⟩ := Kd.at_int (Kd.R_reads' HO_4.out).2.2 x16_3 p484 q484
         obtain rfl : ad456 = ad484 := (by injection e484)
         replace p484 := eq_true p484
         replace q484 := eq_true q484
         have p485 : 0 ≤ (x16_3 : Int) := of_decide_eq_true z31_
         have q485 : x16_3 < (t438.length : Int) := of_decide_eq_true z31_
         obtain ⟨ad485, e485, hx485_0⟩ := Kd.at_int (Kd.R_reads' HO_4.out).2.2 x16_3 p485 q485
         obtain rfl : ad456 = ad485 := (by injection e485)
         replace p485 := eq_true p485
         replace q485 := eq_true q485
         have p486 : 0 ≤ ((ji70) : Int) := of_decide_eq_true z31_
         have q486 : (ji70) < (t438.length : Int) := of_decide_eq_true z31_
         obtain ⟨ad486, e486, hx486_0⟩ := Kd.at_int (Kd.R_reads' HO_4.out).2.2 (ji70) p486 q486
         obtain rfl : ad456 = ad486 := (by injection e486)
         replace p486 := eq_true p486
         replace q486 := eq_true q486
         have p488 : 0 ≤ (x16_3 : Int) := of_decide_eq_true z31_
         have q488 : x16_3 < (t439.length : Int) := of_decide_eq_true z31_
         obtain ⟨Aos_, cos_, hslice_⟩ := Kd.R_slice HO_5.out; subst hslice_
         obtain ⟨ad488, e488, hx488_0⟩ := Kd.at_int (Kd.R_reads' HO_5.out).2.2 x16_3 p488 q488
         cases e488
         replace p488 := eq_true p488
         replace q488 := eq_true q488
         refine start_ (n := 32) (S := fun w' => w'.cell? (ad456.add (x16_3).toNat) = some (.int .i64 (rd t438 x16_3)) ∧ w'.cell? (ad456.add (x16_3).toNat) = some (.int .i64 (rd t438 x16_3)) ∧ w'.cell? (ad456.add ((ji70)).toNat) = some (.int .i64 (rd t438 (ji70))) ∧ w'.cell? (ad488.add (x16_3).toNat) = some (.int .i64 (rd t439 x16_3))) (ds := []) (bs_ 32 0) (by kernel_rfl) rfl rfl ⟨hx484_0, hx485_0, hx486_0, hx488_0⟩ (fun hHeld => ?_); refine with_tabW laws_FnNormal.tab21 laws_FnNormal.bits21 (fun HT_ HW_ => ?_)
         generalize w84.drew = w85 at HO_3 HO_4 HO_5 HO_14 HB hx484_0 hx485_0 hx486_0 hx488_0 hHeld ⊢
         refine pz_ 0 134 32 1 HT_ ?_
         refine pz_ 1 135 32 3 HT_ ?_
         refine pz_ 2 136 32 7 HT_ ?_
         refine pz_ 3 137 32 15 HT_ ?_
         refine pz_ 4 138 32 31 HT_ ?_
         refine pz_ 5 139 32 63 HT_ ?_
         refine ta_ 6 140 32 127 HT_ HW_ hHeld ?_
         refine pz_ 7 141 32 255 HT_ ?_
         refine pz_ 8 142 32 511 HT_ ?_
         refine pz_ 9 143 32 1023 HT_ ?_
         refine pz_ 10 144 32 2047 HT_ ?_
         refine pz_ 11 145 32 4095 HT_ ?_
         refine pz_ 12 146 32 8191 HT_ ?_
         refine pz_ 13 147 32 16383 HT_ ?_
         refine pz_ 14 148 32 32767 HT_ ?_
         refine pz_ 15 149 32 65535 HT_ ?_
         refine pz_ 16 150 32 131071 HT_ ?_
         refine pz_ 18 152 32 393215 HT_ ?_
         refine pz_ 19 153 32 917503 HT_ ?_
         refine pz_ 20 154 32 1966079 HT_ ?_
         refine ta_ 17 151 32 2097151 HT_ HW_ hHeld ?_
         refine ta_ 21 155 32 4194303 HT_ HW_ hHeld ?_
         refine on_ 22 156 32 8388607 HT_ (fun K hK => ?_)
         refine goes_ Try.func26 (by kernel_rfl) rfl #[.int .i64 (rd t438 x16_3), .int .i64 (rd t438 (ji70))] (by rfl) rfl rfl (by (try simp only [List.map_toArray, List.map_cons, List.map_nil]); first | done | (simp only [hji70]; rfl) | rfl | (simp only [List.length_drop, List.length_take]; rfl)) ?_
         with_reducible refine (impl_GcdOf.calls k3 (rd t438 x16_3) (rd t438 (ji70)) t487 _ A73.out).mono ?_
         rintro e w86 ⟨rfl, hb⟩
         have HS0_ := (hb.cell (World.block_lt_of_cell? _ _ (hHeld.1))).trans (hHeld.1)
         have HS1_ := (hb.cell (World.block_lt_of_cell? _ _ (hHeld.2.1))).trans (hHeld.2.1)
         have HS2_ := (hb.cell (World.block_lt_of_cell? _ _ (hHeld.2.2.1))).trans (hHeld.2.2.1)
         have HS3_ := (hb.cell (World.block_lt_of_cell? _ _ (hHeld.2.2.2))).trans (hHeld.2.2.2)
         refine ⟨_, rfl, ?_⟩
         replace HO_3:= Aside0.mk (Kd.R_below z24_ hb)
         replace HO_4:= Aside0.mk (Kd.R_below z26_ hb)
         replace HO_5:= Aside0.mk (Kd.R_below z23_ hb)
         replace HO_14:= Aside0.mk (Kd.R_below z20_ hb)
         replace HB:= Aside0.mk (below_step z16_ hb)
         clear hb
         obtain ⟨Ao87, co87, eo87⟩ := Kd.R_slice HO_5.out
         (first | subst eo87 | (injection eo87 with f1_ f2_ f3_; have f4_ := f1_.symm; have f5_ := f3_.symm; clear f1_ f2_ f3_; subst f4_; subst f5_))
         refine hK.out _ _ ⟨HS0_, HS1_, HS2_, HS3_⟩ (fun hHeld => ?_)
         clear hK K
         refine norm_ (a' := ?_) ?_ ?_
         rotate_left
         · show Act.put _ (some 156) _ = _
           simp only [Act.put, List.setIfInBounds_toArray, List.set_cons_zero, List.set_cons_succ, i64_w, i32_w]
           rfl
         refine pz_ 23 157 32 16777215 HT_ ?_
         refine pz_ 24 158 32 33554431 HT_ ?_
         refine pz_ 25 159 32 67108863 HT_ ?_
         refine pz_ 26 160 32 134217727 HT_ ?_
         refine pz_ 27 161 32 268435455 HT_ ?_
         refine pz_ 28 162 32 536870911 HT_ ?_
         refine ta_ 29 163 32 1073741823 HT_ HW_ hHeld ?_
         refine pz_ 30 164 32 2147483647 HT_ ?_
         refine pz_ 31 165 32 4294967295 HT_ ?_
         refine dn_ HT_ ?_
         go_wp2
         go_roundg k3
         case measure => have := HJ5.out; have := HK2.out; have := HK3.out; omega
         case rel => exact ⟨(wrap64 (x16_3 + 1)), z32_, H', ⟨by have := HJ5.out; have := HK2.out; have := HK3.out; omega⟩, ⟨z24_⟩, ⟨z26_⟩, ⟨z23_⟩, ⟨z20_⟩, ⟨z16_⟩⟩
       replace c67 := Bool.eq_false_iff.mpr c67
       subst c67
       rw [jt_] at H
       obtain ⟨ji92, hji92⟩ : ∃ j_ : Int, (Int.tmod (wrap64 (x16_3 + 1)) 3) = j_ := ⟨_, rfl⟩
       replace H : (if 0 ≤ (ji92) then (if (ji92) < (t438.length : Int) then ((impl_GcdOf.f k3 (rd t438 x16_3) (rd t438 (ji92))).bind fun t491 => (if t491 > 1 then (some false) else (if x16_3 < (t439.length : Int) then (if (rd t439 x16_3) < 1 then (some false) else (laws_FnNormal.l1 k3 t435 t438 t439 t459 t463 t465 x14_2 (wrap64 (x16_3 + 1)))) else (none)))) else (none)) else (none)) = some r := by first | (rw [hji92] at H; exact H) | (simp only [hji92] at H ⊢; exact H)
       obtain ⟨c93, H⟩ := in_ H
       have c93b0 := decide_eq_true c93
       clear c93
       obtain ⟨c94, H⟩ := in_ H
       have c94b0 := decide_eq_true c94
       clear c94
       obtain ⟨t491, A95, H⟩ := bi_ H
       by_cases c96 : t491 > 1
       · rw [if_pos c96] at H
         have c96b0 := decide_eq_true c96
         clear c96
         obtain rfl := Option.some.inj H
         have p480 : 0 ≤ (x16_3 : Int) := of_decide_eq_true z31_
         have q480 : x16_3 < (t438.length : Int) := of_decide_eq_true z31_
         obtain ⟨ad480, e480, hx480_0⟩ := Kd.at_int (Kd.R_reads' HO_4.out).2.2 x16_3 p480 q480
         obtain rfl : ad456 = ad480 := (by injection e480)
         replace p480 := eq_true p480
         replace q480 := eq_true q480
         try go_wp2_with (first | ((with_reducible refine gate_callee (f := 25) rfl ?_); refine goesL_ (some 127) rfl rfl Try.func25 (by kernel_rfl) rfl #[.int .i64 (rd t438 x16_3)] rfl z14_ ?_; (with_reducible refine (impl_CoreOf.calls k3 (rd t438 x16_3) t481 t482 false _ A66.out).mono ?_); rintro e w97 ⟨rfl, hb⟩; refine ⟨_, rfl, ?_⟩; replace HO_3:= Aside0.mk (Kd.R_below z24_ hb); replace HO_4:= Aside0.mk (Kd.R_below z26_ hb); replace HO_5:= Aside0.mk (Kd.R_below z23_ hb); replace HO_14:= Aside0.mk (Kd.R_below z20_ hb); replace HB:= Aside0.mk (below_step z16_ hb); clear hb))
         replace HO_3:= Aside0.mk (Kd.R_drew HO_3.out)
         replace HO_4:= Aside0.mk (Kd.R_drew HO_4.out)
         replace HO_5:= Aside0.mk (Kd.R_drew HO_5.out)
         replace HO_14:= Aside0.mk (Kd.R_drew HO_14.out)
         replace HB:= Aside0.mk (below_drew1 HB.out)
         have p489 : 0 ≤ (x16_3 : Int) := of_decide_eq_true z31_
         have q489 : x16_3 < (t438.length : Int) := of_decide_eq_true z31_
         obtain ⟨ad489, e489, hx489_0⟩ := Kd.at_int (Kd.R_reads' HO_4.out).2.2 x16_3 p489 q489
         obtain rfl : ad456 = ad489 := (by injection e489)
         replace p489 := eq_true p489
         replace q489 := eq_true q489
         have p490 : 0 ≤ ((ji92) : Int) := of_decide_eq_true z31_
         have q490 : (ji92) < (t438.length : Int) := of_decide_eq_true z31_
         obtain ⟨ad490, e490, hx490_0⟩ := Kd.at_int (Kd.R_reads' HO_4.out).2.2 (ji92) p490 q490
         obtain rfl : ad456 = ad490 := (by injection e490)
         replace p490 := eq_true p490
         replace q490 := eq_true q490
         refine start_ (n := 32) (S := fun w' => w'.cell? (ad456.add (x16_3).toNat) = some (.int .i64 (rd t438 x16_3)) ∧ w'.cell? (ad456.add ((ji92)).toNat) = some (.int .i64 (rd t438 (ji92)))) (ds := []) (bs_ 32 0) (by kernel_rfl) rfl rfl ⟨hx489_0, hx490_0⟩ (fun hHeld => ?_); refine with_tabW laws_FnNormal.tab21 laws_FnNormal.bits21 (fun HT_ HW_ => ?_)
         generalize w97.drew = w98 at HO_3 HO_4 HO_5 HO_14 HB hx489_0 hx490_0 hHeld ⊢
         refine pz_ 0 134 32 1 HT_ ?_
         refine pz_ 1 135 32 3 HT_ ?_
         refine pu_ 2 136 32 7 HT_ ?_
         refine pu_ 3 137 32 15 HT_ ?_
         refine pu_ 4 138 32 31 HT_ ?_
         refine pu_ 5 139 32 63 HT_ ?_
         refine pu_ 6 140 32 127 HT_ ?_
         refine pu_ 7 141 32 255 HT_ ?_
         refine pu_ 8 142 32 511 HT_ ?_
         refine pu_ 9 143 32 1023 HT_ ?_
         refine pu_ 10 144 32 2047 HT_ ?_
         refine pu_ 11 145 32 4095 HT_ ?_
         refine pz_ 12 146 32 8191 HT_ ?_
         refine pz_ 13 147 32 16383 HT_ ?_
         refine pz_ 14 148 32 32767 HT_ ?_
         refine pz_ 15 149 32 65535 HT_ ?_
         refine pz_ 16 150 32 131071 HT_ ?_
         refine pz_ 18 152 32 393215 HT_ ?_
         refine pz_ 19 153 32 917503 HT_ ?_
         refine pz_ 20 154 32 1966079 HT_ ?_
         refine ta_ 17 151 32 2097151 HT_ HW_ hHeld ?_
         refine ta_ 21 155 32 4194303 HT_ HW_ hHeld ?_
         refine on_ 22 156 32 8388607 HT_ (fun K hK => ?_)
         refine goes_ Try.func26 (by kernel_rfl) rfl #[.int .i64 (rd t438 x16_3), .int .i64 (rd t438 (ji92))] (by rfl) rfl rfl (by (try simp only [List.map_toArray, List.map_cons, List.map_nil]); first | done | (simp only [hji92]; rfl) | rfl | (simp only [List.length_drop, List.length_take]; rfl)) ?_
         with_reducible refine (impl_GcdOf.calls k3 (rd t438 x16_3) (rd t438 (ji92)) t491 _ A95.out).mono ?_
         rintro e w99 ⟨rfl, hb⟩
         have HS0_ := (hb.cell (World.block_lt_of_cell? _ _ (hHeld.1))).trans (hHeld.1)
         have HS1_ := (hb.cell (World.block_lt_of_cell? _ _ (hHeld.2))).trans (hHeld.2)
         refine ⟨_, rfl, ?_⟩
         replace HO_3:= Aside0.mk (Kd.R_below z24_ hb)
         replace HO_4:= Aside0.mk (Kd.R_below z26_ hb)
         replace HO_5:= Aside0.mk (Kd.R_below z23_ hb)
         replace HO_14:= Aside0.mk (Kd.R_below z20_ hb)
         replace HB:= Aside0.mk (below_step z16_ hb)
         clear hb
         refine hK.out _ _ ⟨HS0_, HS1_⟩ (fun hHeld => ?_)
         clear hK K
         refine norm_ (a' := ?_) ?_ ?_
         rotate_left
         · show Act.put _ (some 156) _ = _
           simp only [Act.put, List.setIfInBounds_toArray, List.set_cons_zero, List.set_cons_succ, i64_w, i32_w]
           rfl
         refine pz_ 23 157 32 16777215 HT_ ?_
         refine pz_ 24 158 32 33554431 HT_ ?_
         refine pz_ 25 159 32 67108863 HT_ ?_
         refine pu_ 26 160 32 134217727 HT_ ?_
         refine pu_ 27 161 32 268435455 HT_ ?_
         refine pu_ 28 162 32 536870911 HT_ ?_
         refine pu_ 29 163 32 1073741823 HT_ ?_
         refine pu_ 30 164 32 2147483647 HT_ ?_
         refine pz_ 31 165 32 4294967295 HT_ ?_
         refine dn_ HT_ ?_
         go_wp2
         go_ret
         exact ⟨by first | rfl | (simp [errW_none, errW_some] <;> rfl) | (simp only [← hji92]; first | rfl | (simp [errW_none, errW_some] <;> rfl)) | (simp [*, errW_none, errW_some] <;> rfl), z16_⟩
       rw [if_neg c96] at H
       have c96b0 := decide_eq_false c96
       clear c96
       obtain ⟨c100, H⟩ := in_ H
       have c100b0 := decide_eq_true c100
       clear c100
       by_cases c101 : (rd t439 x16_3) < 1
       · rw [if_pos c101] at H
         have c101b0 := decide_eq_true c101
         clear c101
         obtain rfl := Option.some.inj H
         have p480 : 0 ≤ (x16_3 : Int) := of_decide_eq_true z31_
         have q480 : x16_3 < (t438.length : Int) := of_decide_eq_true z31_
         obtain ⟨ad480, e480, hx480_0⟩ := Kd.at_int (Kd.R_reads' HO_4.out).2.2 x16_3 p480 q480
         obtain rfl : ad456 = ad480 := (by injection e480)
         replace p480 := eq_true p480
         replace q480 := eq_true q480
         try go_wp2_with (first | ((with_reducible refine gate_callee (f := 25) rfl ?_); refine goesL_ (some 127) rfl rfl Try.func25 (by kernel_rfl) rfl #[.int .i64 (rd t438 x16_3)] rfl z14_ ?_; (with_reducible refine (impl_CoreOf.calls k3 (rd t438 x16_3) t481 t482 false _ A66.out).mono ?_); rintro e w102 ⟨rfl, hb⟩; refine ⟨_, rfl, ?_⟩; replace HO_3:= Aside0.mk (Kd.R_below z24_ hb); replace HO_4:= Aside0.mk (Kd.R_below z26_ hb); replace HO_5:= Aside0.mk (Kd.R_below z23_ hb); replace HO_14:= Aside0.mk (Kd.R_below z20_ hb); replace HB:= Aside0.mk (below_step z16_ hb); clear hb))
         replace HO_3:= Aside0.mk (Kd.R_drew HO_3.out)
         replace HO_4:= Aside0.mk (Kd.R_drew HO_4.out)
         replace HO_5:= Aside0.mk (Kd.R_drew HO_5.out)
         replace HO_14:= Aside0.mk (Kd.R_drew HO_14.out)
         replace HB:= Aside0.mk (below_drew1 HB.out)
         have p489 : 0 ≤ (x16_3 : Int) := of_decide_eq_true z31_
         have q489 : x16_3 < (t438.length : Int) := of_decide_eq_true z31_
         obtain ⟨ad489, e489, hx489_0⟩ := Kd.at_int (Kd.R_reads' HO_4.out).2.2 x16_3 p489 q489
         obtain rfl : ad456 = ad489 := (by injection e489)
         replace p489 := eq_true p489
         replace q489 := eq_true q489
         have p490 : 0 ≤ ((ji92) : Int) := of_decide_eq_true z31_
         have q490 : (ji92) < (t438.length : Int) := of_decide_eq_true z31_
         obtain ⟨ad490, e490, hx490_0⟩ := Kd.at_int (Kd.R_reads' HO_4.out).2.2 (ji92) p490 q490
         obtain rfl : ad456 = ad490 := (by injection e490)
         replace p490 := eq_true p490
         replace q490 := eq_true q490
         have p492 : 0 ≤ (x16_3 : Int) := of_decide_eq_true z31_
         have q492 : x16_3 < (t439.length : Int) := of_decide_eq_true z31_
         obtain ⟨Aos_, cos_, hslice_⟩ := Kd.R_slice HO_5.out; subst hslice_
         obtain ⟨ad492, e492, hx492_0⟩ := Kd.at_int (Kd.R_reads' HO_5.out).2.2 x16_3 p492 q492
         cases e492
         replace p492 := eq_true p492
         replace q492 := eq_true q492
         refine start_ (n := 32) (S := fun w' => w'.cell? (ad456.add (x16_3).toNat) = some (.int .i64 (rd t438 x16_3)) ∧ w'.cell? (ad456.add ((ji92)).toNat) = some (.int .i64 (rd t438 (ji92))) ∧ w'.cell? (ad492.add (x16_3).toNat) = some (.int .i64 (rd t439 x16_3))) (ds := []) (bs_ 32 0) (by kernel_rfl) rfl rfl ⟨hx489_0, hx490_0, hx492_0⟩ (fun hHeld => ?_); refine with_tabW laws_FnNormal.tab21 laws_FnNormal.bits21 (fun HT_ HW_ => ?_)
         generalize w102.drew = w103 at HO_3 HO_4 HO_5 HO_14 HB hx489_0 hx490_0 hx492_0 hHeld ⊢
         refine pz_ 0 134 32 1 HT_ ?_
         refine pz_ 1 135 32 3 HT_ ?_
         refine pu_ 2 136 32 7 HT_ ?_
         refine pu_ 3 137 32 15 HT_ ?_
         refine pu_ 4 138 32 31 HT_ ?_
         refine pu_ 5 139 32 63 HT_ ?_
         refine pu_ 6 140 32 127 HT_ ?_
         refine pu_ 7 141 32 255 HT_ ?_
         refine pu_ 8 142 32 511 HT_ ?_
         refine pu_ 9 143 32 1023 HT_ ?_
         refine pu_ 10 144 32 2047 HT_ ?_
         refine pu_ 11 145 32 4095 HT_ ?_
         refine pz_ 12 146 32 8191 HT_ ?_
         refine pz_ 13 147 32 16383 HT_ ?_
         refine pz_ 14 148 32 32767 HT_ ?_
         refine pz_ 15 149 32 65535 HT_ ?_
         refine pz_ 16 150 32 131071 HT_ ?_
         refine pz_ 18 152 32 393215 HT_ ?_
         refine pz_ 19 153 32 917503 HT_ ?_
         refine pz_ 20 154 32 1966079 HT_ ?_
         refine ta_ 17 151 32 2097151 HT_ HW_ hHeld ?_
         refine ta_ 21 155 32 4194303 HT_ HW_ hHeld ?_
         refine on_ 22 156 32 8388607 HT_ (fun K hK => ?_)
         refine goes_ Try.func26 (by kernel_rfl) rfl #[.int .i64 (rd t438 x16_3), .int .i64 (rd t438 (ji92))] (by rfl) rfl rfl (by (try simp only [List.map_toArray, List.map_cons, List.map_nil]); first | done | (simp only [hji92]; rfl) | rfl | (simp only [List.length_drop, List.length_take]; rfl)) ?_
         with_reducible refine (impl_GcdOf.calls k3 (rd t438 x16_3) (rd t438 (ji92)) t491 _ A95.out).mono ?_
         rintro e w104 ⟨rfl, hb⟩
         have HS0_ := (hb.cell (World.block_lt_of_cell? _ _ (hHeld.1))).trans (hHeld.1)
         have HS1_ := (hb.cell (World.block_lt_of_cell? _ _ (hHeld.2.1))).trans (hHeld.2.1)
         have HS2_ := (hb.cell (World.block_lt_of_cell? _ _ (hHeld.2.2))).trans (hHeld.2.2)
         refine ⟨_, rfl, ?_⟩
         replace HO_3:= Aside0.mk (Kd.R_below z24_ hb)
         replace HO_4:= Aside0.mk (Kd.R_below z26_ hb)
         replace HO_5:= Aside0.mk (Kd.R_below z23_ hb)
         replace HO_14:= Aside0.mk (Kd.R_below z20_ hb)
         replace HB:= Aside0.mk (below_step z16_ hb)
         clear hb
         obtain ⟨Ao105, co105, eo105⟩ := Kd.R_slice HO_5.out
         (first | subst eo105 | (injection eo105 with f1_ f2_ f3_; have f4_ := f1_.symm; have f5_ := f3_.symm; clear f1_ f2_ f3_; subst f4_; subst f5_))
         refine hK.out _ _ ⟨HS0_, HS1_, HS2_⟩ (fun hHeld => ?_)
         clear hK K
         refine norm_ (a' := ?_) ?_ ?_
         rotate_left
         · show Act.put _ (some 156) _ = _
           simp only [Act.put, List.setIfInBounds_toArray, List.set_cons_zero, List.set_cons_succ, i64_w, i32_w]
           rfl
         refine pz_ 23 157 32 16777215 HT_ ?_
         refine pz_ 24 158 32 33554431 HT_ ?_
         refine pz_ 25 159 32 67108863 HT_ ?_
         refine pz_ 26 160 32 134217727 HT_ ?_
         refine pz_ 27 161 32 268435455 HT_ ?_
         refine pz_ 28 162 32 536870911 HT_ ?_
         refine ta_ 29 163 32 1073741823 HT_ HW_ hHeld ?_
         refine pz_ 30 164 32 2147483647 HT_ ?_
         refine pz_ 31 165 32 4294967295 HT_ ?_
         refine dn_ HT_ ?_
         go_wp2
         go_ret
         exact ⟨by first | rfl | (simp [errW_none, errW_some] <;> rfl) | (simp only [← hji92]; first | rfl | (simp [errW_none, errW_some] <;> rfl)) | (simp [*, errW_none, errW_some] <;> rfl), z16_⟩
       rw [if_neg c101] at H
       have c101b0 := decide_eq_false c101
       clear c101
       have H' := Aside0.mk H
       clear H
       have p480 : 0 ≤ (x16_3 : Int) := of_decide_eq_true z31_
       have q480 : x16_3 < (t438.length : Int) := of_decide_eq_true z31_
       obtain ⟨ad480, e480, hx480_0⟩ := Kd.at_int (Kd.R_reads' HO_4.out).2.2 x16_3 p480 q480
       obtain rfl : ad456 = ad480 := (by injection e480)
       replace p480 := eq_true p480
       replace q480 := eq_true q480
       try go_wp2_with (first | ((with_reducible refine gate_callee (f := 25) rfl ?_); refine goesL_ (some 127) rfl rfl Try.func25 (by kernel_rfl) rfl #[.int .i64 (rd t438 x16_3)] rfl z14_ ?_; (with_reducible refine (impl_CoreOf.calls k3 (rd t438 x16_3) t481 t482 false _ A66.out).mono ?_); rintro e w106 ⟨rfl, hb⟩; refine ⟨_, rfl, ?_⟩; replace HO_3:= Aside0.mk (Kd.R_below z24_ hb); replace HO_4:= Aside0.mk (Kd.R_below z26_ hb); replace HO_5:= Aside0.mk (Kd.R_below z23_ hb); replace HO_14:= Aside0.mk (Kd.R_below z20_ hb); replace HB:= Aside0.mk (below_step z16_ hb); clear hb))
       replace HO_3:= Aside0.mk (Kd.R_drew HO_3.out)
       replace HO_4:= Aside0.mk (Kd.R_drew HO_4.out)
       replace HO_5:= Aside0.mk (Kd.R_drew HO_5.out)
       replace HO_14:= Aside0.mk (Kd.R_drew HO_14.out)
       replace HB:= Aside0.mk (below_drew1 HB.out)
       have p489 : 0 ≤ (x16_3 : Int) := of_decide_eq_true z31_
       have q489 : x16_3 < (t438.length : Int) := of_decide_eq_true z31_
       obtain ⟨ad489, e489, hx489_0⟩ := Kd.at_int (Kd.R_reads' HO_4.out).2.2 x16_3 p489 q489
       obtain rfl : ad456 = ad489 := (by injection e489)
       replace p489 := eq_true p489
       replace q489 := eq_true q489
       have p490 : 0 ≤ ((ji92) : Int) := of_decide_eq_true z31_
       have q490 : (ji92) < (t438.length : Int) := of_decide_eq_true z31_
       obtain ⟨ad490, e490, hx490_0⟩ := Kd.at_int (Kd.R_reads' HO_4.out).2.2 (ji92) p490 q490
       obtain rfl : ad456 = ad490 := (by injection e490)
       replace p490 := eq_true p490
       replace q490 := eq_true q490
       have p492 : 0 ≤ (x16_3 : Int) := of_decide_eq_true z31_
       have q492 : x16_3 < (t439.length : Int) := of_decide_eq_true z31_
       obtain ⟨Aos_, cos_, hslice_⟩ := Kd.R_slice HO_5.out; subst hslice_
       obtain ⟨ad492, e492, hx492_0⟩ := Kd.at_int (Kd.R_reads' HO_5.out).2.2 x16_3 p492 q492
       cases e492
       replace p492 := eq_true p492
       replace q492 := eq_true q492
       refine start_ (n := 32) (S := fun w' => w'.cell? (ad456.add (x16_3).toNat) = some (.int .i64 (rd t438 x16_3)) ∧ w'.cell? (ad456.add ((ji92)).toNat) = some (.int .i64 (rd t438 (ji92))) ∧ w'.cell? (ad492.add (x16_3).toNat) = some (.int .i64 (rd t439 x16_3))) (ds := []) (bs_ 32 0) (by kernel_rfl) rfl rfl ⟨hx489_0, hx490_0, hx492_0⟩ (fun hHeld => ?_); refine with_tabW laws_FnNormal.tab21 laws_FnNormal.bits21 (fun HT_ HW_ => ?_)
       generalize w106.drew = w107 at HO_3 HO_4 HO_5 HO_14 HB hx489_0 hx490_0 hx492_0 hHeld ⊢
       refine pz_ 0 134 32 1 HT_ ?_
       refine pz_ 1 135 32 3 HT_ ?_
       refine pu_ 2 136 32 7 HT_ ?_
       refine pu_ 3 137 32 15 HT_ ?_
       refine pu_ 4 138 32 31 HT_ ?_
       refine pu_ 5 139 32 63 HT_ ?_
       refine pu_ 6 140 32 127 HT_ ?_
       refine pu_ 7 141 32 255 HT_ ?_
       refine pu_ 8 142 32 511 HT_ ?_
       refine pu_ 9 143 32 1023 HT_ ?_
       refine pu_ 10 144 32 2047 HT_ ?_
       refine pu_ 11 145 32 4095 HT_ ?_
       refine pz_ 12 146 32 8191 HT_ ?_
       refine pz_ 13 147 32 16383 HT_ ?_
       refine pz_ 14 148 32 32767 HT_ ?_
       refine pz_ 15 149 32 65535 HT_ ?_
       refine pz_ 16 150 32 131071 HT_ ?_
       refine pz_ 18 152 32 393215 HT_ ?_
       refine pz_ 19 153 32 917503 HT_ ?_
       refine pz_ 20 154 32 1966079 HT_ ?_
       refine ta_ 17 151 32 2097151 HT_ HW_ hHeld ?_
       refine ta_ 21 155 32 4194303 HT_ HW_ hHeld ?_
       refine on_ 22 156 32 8388607 HT_ (fun K hK => ?_)
       refine goes_ Try.func26 (by kernel_rfl) rfl #[.int .i64 (rd t438 x16_3), .int .i64 (rd t438 (ji92))] (by rfl) rfl rfl (by (try simp only [List.map_toArray, List.map_cons, List.map_nil]); first | done | (simp only [hji92]; rfl) | rfl | (simp only [List.length_drop, List.length_take]; rfl)) ?_
       with_reducible refine (impl_GcdOf.calls k3 (rd t438 x16_3) (rd t438 (ji92)) t491 _ A95.out).mono ?_
       rintro e w108 ⟨rfl, hb⟩
       have HS0_ := (hb.cell (World.block_lt_of_cell? _ _ (hHeld.1))).trans (hHeld.1)
       have HS1_ := (hb.cell (World.block_lt_of_cell? _ _ (hHeld.2.1))).trans (hHeld.2.1)
       have HS2_ := (hb.cell (World.block_lt_of_cell? _ _ (hHeld.2.2))).trans (hHeld.2.2)
       refine ⟨_, rfl, ?_⟩
       replace HO_3:= Aside0.mk (Kd.R_below z24_ hb)
       replace HO_4:= Aside0.mk (Kd.R_below z26_ hb)
       replace HO_5:= Aside0.mk (Kd.R_below z23_ hb)
       replace HO_14:= Aside0.mk (Kd.R_below z20_ hb)
       replace HB:= Aside0.mk (below_step z16_ hb)
       clear hb
       obtain ⟨Ao109, co109, eo109⟩ := Kd.R_slice HO_5.out
       (first | subst eo109 | (injection eo109 with f1_ f2_ f3_; have f4_ := f1_.symm; have f5_ := f3_.symm; clear f1_ f2_ f3_; subst f4_; subst f5_))
       refine hK.out _ _ ⟨HS0_, HS1_, HS2_⟩ (fun hHeld => ?_)
       clear hK K
       refine norm_ (a' := ?_) ?_ ?_
       rotate_left
       · show Act.put _ (some 156) _ = _
         simp only [Act.put, List.setIfInBounds_toArray, List.set_cons_zero, List.set_cons_succ, i64_w, i32_w]
         rfl
       refine pz_ 23 157 32 16777215 HT_ ?_
       refine pz_ 24 158 32 33554431 HT_ ?_
       refine pz_ 25 159 32 67108863 HT_ ?_
       refine pz_ 26 160 32 134217727 HT_ ?_
       refine pz_ 27 161 32 268435455 HT_ ?_
       refine pz_ 28 162 32 536870911 HT_ ?_
       refine ta_ 29 163 32 1073741823 HT_ HW_ hHeld ?_
       refine pz_ 30 164 32 2147483647 HT_ ?_
       refine pz_ 31 165 32 4294967295 HT_ ?_
       refine dn_ HT_ ?_
       go_wp2
       go_roundg k3
       case measure => have := HJ5.out; have := HK2.out; have := HK3.out; omega
       case rel => exact ⟨(wrap64 (x16_3 + 1)), z32_, H', ⟨by have := HJ5.out; have := HK2.out; have := HK3.out; omega⟩, ⟨z24_⟩, ⟨z26_⟩, ⟨z23_⟩, ⟨z20_⟩, ⟨z16_⟩⟩

/-- THE ONE PURE STATEMENT of laws_FnNormal: yours. -/
def laws_FnNormal.Pure : Prop := ∀ (l0 : List Int), l0.length ≤ maxLen → l0.length * 1 ≤ 140737488351232 → (∀ x ∈ l0, (Lit.int .u8 x).wf = true) → ∃ k, laws_FnNormal.f k l0 = some true
theorem laws_FnNormal.walk (P : laws_FnNormal.Pure) (a0 : Option Addr) (len0 cap0 : Nat) (z0 : List Int) (w : World) (w0 : (a0 = none ∧ len0 = 0 ∧ cap0 = 0 ∧ z0 = []) ∨ ∃ x, a0 = some x ∧ len0 ≤ cap0 ∧ cap0 ≤ maxLen ∧ z0.length = cap0 ∧ (∀ i, i < z0.length → w.cell? (x.add i) = some (.int .u8 (z0.getD i 0))) ∧ ∀ n ∈ z0, (Lit.int .u8 n).wf = true) (y0 : len0 * 1 ≤ 140737488351232) :
 Calls Try.prog 5 #[.slice a0 len0 cap0] w fun e w' => e = .returned (.bool true) ∧ Below w.heap.size w w' := by
 obtain ⟨l0, rfl, hr0, hm0, hw0, hc0⟩ := ReadsInt.ofRowC w0
 obtain ⟨k, h⟩ := P l0 hm0 y0 hw0
 refine (laws_FnNormal.calls k _ _ l0 true w (Kd.C_of_reads (d := (0 : Int)) (h1 := fun _ => rfl) hr0) hc0 h).mono ?_
 rintro e w' ⟨rfl, hd⟩
 exact ⟨rfl, hd⟩

end Go.Proofs.Ytdeahlommlgceaa.PFnNormal

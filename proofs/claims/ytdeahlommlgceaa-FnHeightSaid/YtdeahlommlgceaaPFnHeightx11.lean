-- Written by a program of this repo (wip/gen/gen.py) over the kit's print.
-- (slim)
import Derived.Test.YtdeahlommlgceaaPFnHeightx0
import Derived.Test.YtdeahlommlgceaaPFnHeightx1
import Derived.Test.YtdeahlommlgceaaPFnHeightx8
import Derived.Test.YtdeahlommlgceaaPFnHeightx9
import Derived.Test.YtdeahlommlgceaaPFnHeightx10
namespace Go.Proofs.Ytdeahlommlgceaa.PFnHeight
open Go.RowKit Go.Proofs.YtdeahlommlgceaaW.PrintWords Go.Proofs.YtdeahlommlgceaaW.PrintLast Go.Proofs.YtdeahlommlgceaaW.PrintMore
attribute [local go_sem] max2_int min2_int max_two min_two max_three min_three max_four min_four   -- for this text's walks alone
set_option linter.unusedVariables false
set_option maxHeartbeats 8000000
set_option maxRecDepth 100000
set_option linter.unusedSimpArgs false

/-! ### laws_FnHeight: function 10 -/
mutual
def laws_FnHeight.j0 : Nat → List Int → List Int → Int → Int → Bool → Option (Bool)
 | 0, _, _, _, _, _ => none
 | k + 1, x3, x4, x5, x6, x32 => if x32 = true then (some (x5 == x6)) else ((impl_ZeroPlain.f k x3 x4).bind fun bt422 => ((impl_ZeroHeight.f k x3 bt422.1).bind fun t426 => (laws_FnHeight.l0 k x4 x5 bt422.1 bt422.2 t426 false 0)))
def laws_FnHeight.l0 : Nat → List Int → Int → List Int → Bool → Int → Bool → Int → Option (Bool)
 | 0, _, _, _, _, _, _, _ => none
 | k + 1, x4, x5, x7, x8, x9, x10, x11 => if x11 < (x4.length : Int) then (if x10 = true then (laws_FnHeight.j2 k x4 x5 x7 x8 x9 true x11) else (if 0 ≤ x11 then ((laws_sizeOf.f (rd x4 x11)).bind fun t428 => (laws_FnHeight.j2 k x4 x5 x7 x8 x9 (t428 == x5) x11)) else (none))) else (if x8 = true then (if x10 = true then (if x5 ≥ 1 then (if x9 = 0 then (none) else (some ((Int.tmod x5 x9) == 0))) else (some false)) else (some false)) else (some false))
def laws_FnHeight.j2 : Nat → List Int → Int → List Int → Bool → Int → Bool → Int → Option (Bool)
 | 0, _, _, _, _, _, _, _ => none
 | k + 1, x4, x5, x7, x8, x9, x10, x11 => if 0 ≤ x11 then (if x11 < (x4.length : Int) then ((laws_sizeOf.f (rd x4 x11)).bind fun t430 => (if t430 > x5 then (some false) else ((laws_sizeOf.f (rd x4 x11)).bind fun t432 => (if x11 < (x7.length : Int) then ((laws_sizeOf.f (rd x7 x11)).bind fun t434 => (if (wrap64 (t432 * x9)) = (wrap64 (t434 * x5)) then (laws_FnHeight.l0 k x4 x5 x7 x8 x9 x10 (wrap64 (x11 + 1))) else (some false))) else (none))))) else (none)) else (none)
end
def laws_FnHeight.f (k : Nat) (l0 : List Int) : Option (Bool) := if (l0.length : Int) > 1048576 then (some true) else ((spec_DrawZeroHeight.f k l0).bind fun bt414 => ((impl_ZeroHeight.f k bt414.1 bt414.2).bind fun t420 => ((spec_ZeroHeight.f k bt414.1 bt414.2).bind fun t421 => (if t420 = t421 then (laws_FnHeight.j0 k bt414.1 bt414.2 t420 t421 (decide (t420 < 0))) else (laws_FnHeight.j0 k bt414.1 bt414.2 t420 t421 true)))))
theorem laws_FnHeight.mono_l : ∀ k, (∀ y0 y1 y2 y3 y4, LeO (laws_FnHeight.j0 k y0 y1 y2 y3 y4) (laws_FnHeight.j0 (k + 1) y0 y1 y2 y3 y4)) ∧ (∀ y0 y1 y2 y3 y4 y5 y6, LeO (laws_FnHeight.l0 k y0 y1 y2 y3 y4 y5 y6) (laws_FnHeight.l0 (k + 1) y0 y1 y2 y3 y4 y5 y6)) ∧ (∀ y0 y1 y2 y3 y4 y5 y6, LeO (laws_FnHeight.j2 k y0 y1 y2 y3 y4 y5 y6) (laws_FnHeight.j2 (k + 1) y0 y1 y2 y3 y4 y5 y6))
 | 0 => ⟨fun _ _ _ _ _ r h => by simp [laws_FnHeight.j0] at h, fun _ _ _ _ _ _ _ r h => by simp [laws_FnHeight.l0] at h, fun _ _ _ _ _ _ _ r h => by simp [laws_FnHeight.j2] at h⟩
 | k + 1 => by
  obtain ⟨ih0, ih1, ih2⟩ := laws_FnHeight.mono_l k
  refine ⟨?_, ?_, ?_⟩
  · intro y0 y1 y2 y3 y4
    unfold laws_FnHeight.j0
    repeat' first
    | (with_reducible exact ih0 _ _ _ _ _)
    | (with_reducible exact ih1 _ _ _ _ _ _ _)
    | (with_reducible exact ih2 _ _ _ _ _ _ _)
    | (with_reducible exact impl_ZeroHeight.mono _ _ _)
    | (with_reducible exact impl_ZeroPlain.mono _ _ _)
    | (with_reducible exact spec_DrawZeroHeight.mono _ _)
    | (with_reducible exact spec_ZeroHeight.mono _ _ _)
    | (with_reducible exact LeO.refl _)
    | (with_reducible exact LeO.none _)
    | (with_reducible refine LeO.ite ?_ ?_)
    | (with_reducible refine LeO.bind ?_ (fun _ => ?_))
    | exact ih0 _ _ _ _ _
    | exact ih1 _ _ _ _ _ _ _
    | exact ih2 _ _ _ _ _ _ _
    | exact impl_ZeroHeight.mono _ _ _
    | exact impl_ZeroPlain.mono _ _ _
    | exact spec_DrawZeroHeight.mono _ _
    | exact spec_ZeroHeight.mono _ _ _
    | exact LeO.none _
    | refine LeO.ite ?_ ?_
    | refine LeO.bind ?_ (fun _ => ?_)
  · intro y0 y1 y2 y3 y4 y5 y6
    unfold laws_FnHeight.l0
    repeat' first
    | (with_reducible exact ih0 _ _ _ _ _)
    | (with_reducible exact ih1 _ _ _ _ _ _ _)
    | (with_reducible exact ih2 _ _ _ _ _ _ _)
    | (with_reducible exact impl_ZeroHeight.mono _ _ _)
    | (with_reducible exact impl_ZeroPlain.mono _ _ _)
    | (with_reducible exact spec_DrawZeroHeight.mono _ _)
    | (with_reducible exact spec_ZeroHeight.mono _ _ _)
    | (with_reducible exact LeO.refl _)
    | (with_reducible exact LeO.none _)
    | (with_reducible refine LeO.ite ?_ ?_)
    | (with_reducible refine LeO.bind ?_ (fun _ => ?_))
    | exact ih0 _ _ _ _ _
    | exact ih1 _ _ _ _ _ _ _
    | exact ih2 _ _ _ _ _ _ _
    | exact impl_ZeroHeight.mono _ _ _
    | exact impl_ZeroPlain.mono _ _ _
    | exact spec_DrawZeroHeight.mono _ _
    | exact spec_ZeroHeight.mono _ _ _
    | exact LeO.none _
    | refine LeO.ite ?_ ?_
    | refine LeO.bind ?_ (fun _ => ?_)
  · intro y0 y1 y2 y3 y4 y5 y6
    unfold laws_FnHeight.j2
    repeat' first
    | (with_reducible exact ih0 _ _ _ _ _)
    | (with_reducible exact ih1 _ _ _ _ _ _ _)
    | (with_reducible exact ih2 _ _ _ _ _ _ _)
    | (with_reducible exact impl_ZeroHeight.mono _ _ _)
    | (with_reducible exact impl_ZeroPlain.mono _ _ _)
    | (with_reducible exact spec_DrawZeroHeight.mono _ _)
    | (with_reducible exact spec_ZeroHeight.mono _ _ _)
    | (with_reducible exact LeO.refl _)
    | (with_reducible exact LeO.none _)
    | (with_reducible refine LeO.ite ?_ ?_)
    | (with_reducible refine LeO.bind ?_ (fun _ => ?_))
    | exact ih0 _ _ _ _ _
    | exact ih1 _ _ _ _ _ _ _
    | exact ih2 _ _ _ _ _ _ _
    | exact impl_ZeroHeight.mono _ _ _
    | exact impl_ZeroPlain.mono _ _ _
    | exact spec_DrawZeroHeight.mono _ _
    | exact spec_ZeroHeight.mono _ _ _
    | exact LeO.none _
    | refine LeO.ite ?_ ?_
    | refine LeO.bind ?_ (fun _ => ?_)
theorem laws_FnHeight.mono : ∀ a0 k, LeO (laws_FnHeight.f k a0) (laws_FnHeight.f (k + 1) a0) := by
 intro a0 k
 obtain ⟨ih0, ih1, ih2⟩ := laws_FnHeight.mono_l k
 unfold laws_FnHeight.f
 repeat' first
  | (with_reducible exact ih0 _ _ _ _ _)
  | (with_reducible exact ih1 _ _ _ _ _ _ _)
  | (with_reducible exact ih2 _ _ _ _ _ _ _)
  | (with_reducible exact impl_ZeroHeight.mono _ _ _)
  | (with_reducible exact impl_ZeroPlain.mono _ _ _)
  | (with_reducible exact spec_DrawZeroHeight.mono _ _)
  | (with_reducible exact spec_ZeroHeight.mono _ _ _)
  | (with_reducible exact LeO.refl _)
  | (with_reducible exact LeO.none _)
  | (with_reducible refine LeO.ite ?_ ?_)
  | (with_reducible refine LeO.bind ?_ (fun _ => ?_))
  | exact ih0 _ _ _ _ _
  | exact ih1 _ _ _ _ _ _ _
  | exact ih2 _ _ _ _ _ _ _
  | exact impl_ZeroHeight.mono _ _ _
  | exact impl_ZeroPlain.mono _ _ _
  | exact spec_DrawZeroHeight.mono _ _
  | exact spec_ZeroHeight.mono _ _ _
  | exact LeO.none _
  | refine LeO.ite ?_ ?_
  | refine LeO.bind ?_ (fun _ => ?_)
def laws_FnHeight.T15 : Bool × List (List Nat × List Nat) := (true, [([], []), ([], []), ([0, 1], [0, 1]), ([2], [2]), ([3], [3]), ([], []), ([4, 5], [4, 5]), ([6, 4], [6]), ([7], [7]), ([7], [7]), ([8, 9, 7], [7, 8, 9]), ([10, 7], [7, 10]), ([11, 7, 7], [7, 11]), ([7], [7]), ([12, 13, 7], [7, 12, 13]), ([7], [7]), ([7], [7]), ([15, 16, 7], [7, 15, 16]), ([17, 7], [7, 17]), ([18, 12, 7], [7, 18]), ([7], [7]), ([19, 20, 7], [7, 19, 20]), ([14, 21, 7], [7, 14, 21]), ([7, 22], [7, 22])])
def laws_FnHeight.B15 : List Nat := [0, 0, 3, 7, 15, 0, 63, 127, 255, 255, 1023, 2047, 4095, 255, 16383, 255, 255, 98559, 229631, 499711, 255, 2072575, 4194303, 8388607]
theorem laws_FnHeight.tab15 : rtab .any (opsOf Try.f10 15) = laws_FnHeight.T15 := by kernel_rfl
theorem laws_FnHeight.bits15 : waitsOk laws_FnHeight.T15.2 laws_FnHeight.B15 = true := by kernel_rfl
theorem laws_FnHeight.calls (k : Nat) (A0 : Option Addr) (c0 : Nat) (l0 : List Int) (r : Bool) (w : World) (hr0 : Kd.C (Kd.int .u8) w A0 l0.length l0) (hc0 : l0.length ≤ c0) (h : laws_FnHeight.f k l0 = some r) :
 Calls Try.prog 10 #[.slice A0 l0.length c0] w fun e w' => e = .returned (.bool r) ∧ Below w.heap.size w w' := by
 have HR0 := Aside0.mk hr0
 have HC0 := Aside0.mk hc0
 clear hr0 hc0
 have HB := Aside0.mk (Below.refl w.heap.size w)
 have H : (if (l0.length : Int) > 1048576 then (some true) else ((spec_DrawZeroHeight.f k l0).bind fun bt414 => ((impl_ZeroHeight.f k bt414.1 bt414.2).bind fun t420 => ((spec_ZeroHeight.f k bt414.1 bt414.2).bind fun t421 => (if t420 = t421 then (laws_FnHeight.j0 k bt414.1 bt414.2 t420 t421 (decide (t420 < 0))) else (laws_FnHeight.j0 k bt414.1 bt414.2 t420 t421 true)))))) = some r := h
 clear h
 by_cases c2 : (l0.length : Int) > 1048576
 · rw [if_pos c2] at H
   have c2b0 : decide (1048576 < (l0.length : Int)) = true := decide_eq_true c2
   have c2b1 : decide (1048576 < l0.length) = true := decide_eq_true (by omega)
   clear c2
   obtain rfl := Option.some.inj H
   go_enter Try.func10, Try.ntmps10
   go_wp2
   go_ret
   exact ⟨z20_, z7_⟩
 · rw [if_neg c2] at H
   have c2b0 : decide (1048576 < (l0.length : Int)) = false := decide_eq_false c2
   have c2b1 : decide (1048576 < l0.length) = false := decide_eq_false (by omega)
   clear c2
   replace H := Option.bind_eq_some_iff.mp H
   obtain ⟨⟨t414, t415⟩, A30, H⟩ := H
   replace H : ((impl_ZeroHeight.f k t414 t415).bind fun t420 => ((spec_ZeroHeight.f k t414 t415).bind fun t421 => (if t420 = t421 then (laws_FnHeight.j0 k t414 t415 t420 t421 (decide (t420 < 0))) else (laws_FnHeight.j0 k t414 t415 t420 t421 true)))) = some r := H
   have A3 := Aside0.mk A30
   clear A30
   replace H := Option.bind_eq_some_iff.mp H
   obtain ⟨t420, A40, H⟩ := H
   replace H : ((spec_ZeroHeight.f k t414 t415).bind fun t421 => (if t420 = t421 then (laws_FnHeight.j0 k t414 t415 t420 t421 (decide (t420 < 0))) else (laws_FnHeight.j0 k t414 t415 t420 t421 true))) = some r := H
   have A4 := Aside0.mk A40
   clear A40
   replace H := Option.bind_eq_some_iff.mp H
   obtain ⟨t421, A50, H⟩ := H
   replace H : (if t420 = t421 then (laws_FnHeight.j0 k t414 t415 t420 t421 (decide (t420 < 0))) else (laws_FnHeight.j0 k t414 t415 t420 t421 true)) = some r := H
   have A5 := Aside0.mk A50
   clear A50
   have HC6 := Aside0.mk H
   clear H
   go_enter Try.func10, Try.ntmps10
   go_upto_region 6 with (first | ((with_reducible refine gate_callee (f := 46) rfl ?_); refine goesL_ (some 17) rfl rfl Try.func46 (by kernel_rfl) rfl #[.slice A0 l0.length c0] rfl z5_ ?_; (with_reducible refine (spec_DrawZeroHeight.calls k _ _ l0 t414 t415 _ ?side1 ?side2 A3.out).mono ?_); (case side1 => repeat (first | exact HR0.out | (with_reducible refine Kd.C_alloc ?_ _) | (with_reducible refine Kd.C_drewN ?_ _) | (with_reducible refine Kd.C_drew ?_))); (case side2 => exact HC0.out); rintro e w7 ⟨v416, v418, rfl, ho0, ho1, hb⟩; refine ⟨_, rfl, ?_⟩; have n0_ := Aside0.mk (Kd.R_lower ho0 (below_size z7_)); have n1_ := Aside0.mk (Kd.R_lower ho1 (below_size z7_)); have n2_ := Aside0.mk (below_step z7_ hb); clear HB; have HO417 := n0_; have HO419 := n1_; have HB := n2_; clear n0_ n1_ n2_; (try clear hb); (try clear hb2); (try clear hk); (try clear hi); (try clear ho0); (try clear ho1); obtain ⟨Ao8, co8, eo8⟩ := Kd.R_slice HO417.out; subst eo8; obtain ⟨Ao9, co9, eo9⟩ := Kd.R_slice HO419.out; subst eo9) | ((with_reducible refine gate_callee (f := 47) rfl ?_); refine goesL_ (some 22) rfl rfl Try.func47 (by kernel_rfl) rfl #[.slice Ao8 t414.length co8, .slice Ao9 t415.length co9] rfl z5_ ?_; (with_reducible refine (impl_ZeroHeight.calls k _ _ t414 _ _ t415 t420 _ ?side1 ?side2 ?side3 ?side4 A4.out).mono ?_); (case side1 => repeat (first | exact (Kd.R_reads' HO417.out).2.2 | (with_reducible refine Kd.C_alloc ?_ _) | (with_reducible refine Kd.C_drewN ?_ _) | (with_reducible refine Kd.C_drew ?_))); (case side2 => exact (Kd.R_reads' HO417.out).2.1); (case side3 => repeat (first | exact (Kd.R_reads' HO419.out).2.2 | (with_reducible refine Kd.C_alloc ?_ _) | (with_reducible refine Kd.C_drewN ?_ _) | (with_reducible refine Kd.C_drew ?_))); (case side4 => exact (Kd.R_reads' HO419.out).2.1); rintro e w10 ⟨rfl, hb⟩; refine ⟨_, rfl, ?_⟩; have n0_ := Aside0.mk (Kd.R_below z9_ hb); have n1_ := Aside0.mk (Kd.R_below z10_ hb); have n2_ := Aside0.mk (below_step z7_ hb); clear HO417; clear HO419; clear HB; have HO417 := n0_; have HO419 := n1_; have HB := n2_; clear n0_ n1_ n2_; (try clear hb); (try clear hb2); (try clear hk); (try clear hi)) | ((with_reducible refine gate_callee (f := 48) rfl ?_); refine goesL_ (some 25) rfl rfl Try.func48 (by kernel_rfl) rfl #[.slice Ao8 t414.length co8, .slice Ao9 t415.length co9] rfl z5_ ?_; (with_reducible refine (spec_ZeroHeight.calls k _ _ t414 _ _ t415 t421 _ ?side1 ?side2 ?side3 ?side4 A5.out).mono ?_); (case side1 => repeat (first | exact (Kd.R_reads' HO417.out).2.2 | (with_reducible refine Kd.C_alloc ?_ _) | (with_reducible refine Kd.C_drewN ?_ _) | (with_reducible refine Kd.C_drew ?_))); (case side2 => exact (Kd.R_reads' HO417.out).2.1); (case side3 => repeat (first | exact (Kd.R_reads' HO419.out).2.2 | (with_reducible refine Kd.C_alloc ?_ _) | (with_reducible refine Kd.C_drewN ?_ _) | (with_reducible refine Kd.C_drew ?_))); (case side4 => exact (Kd.R_reads' HO419.out).2.1); rintro e w11 ⟨rfl, hb⟩; refine ⟨_, rfl, ?_⟩; have n0_ := Aside0.mk (Kd.R_below z9_ hb); have n1_ := Aside0.mk (Kd.R_below z10_ hb); have n2_ := Aside0.mk (below_step z7_ hb); clear HO417; clear HO419; clear HB; have HO417 := n0_; have HO419 := n1_; have HB := n2_; clear n0_ n1_ n2_; (try clear hb); (try clear hb2); (try clear hk); (try clear hi)))
   (try simp only [Act.put, List.setIfInBounds_toArray, List.set_cons_zero, List.set_cons_succ])
   go_cut [32] (fun v32 wc => ∃ (kq : Nat) (x32_5 : Bool), v32 = .bool x32_5 ∧ Aside0 (laws_FnHeight.j0 kq t414 t415 t420 t421 x32_5 = some r) ∧ Aside0 (kq ≤ k) ∧ Aside0 (Kd.R (Kd.int .i64) 3 wc w.heap.size (fun k_ => some k_ ≠ ((.slice Ao9 t415.length co9) : Value).ownBlock) (.slice Ao8 t414.length co8) t414) ∧ Aside0 (Kd.R (Kd.int .i64) 3 wc w.heap.size (fun k_ => some k_ ≠ ((.slice Ao8 t414.length co8) : Value).ownBlock) (.slice Ao9 t415.length co9) t415) ∧ Aside0 (Below w.heap.size w wc))
   case first =>
    have H := HC6.out
    clear HC6
    by_cases c12 : t420 = t421
    · rw [if_pos c12] at H
      have c12b0 : (t420 == t421) = true := beq_iff_eq.mpr c12
      have c12b1 : (t420 != t421) = false := bne_eq_false_iff_eq.mpr c12
      clear c12
      (first | rw [c12b0] | (simp only [i64_w, i32_w]; rw [c12b0]) | skip)
      have H' := Aside0.mk H
      clear H
      go_wp2
      go_meet
      case rel => exact ⟨_, (decide (t420 < 0)), z23_, H', ⟨z24_⟩, ⟨z9_⟩, ⟨z10_⟩, ⟨z7_⟩⟩
    · rw [if_neg c12] at H
      have c12b0 : (t420 == t421) = false := beq_eq_false_iff_ne.mpr c12
      have c12b1 : (t420 != t421) = true := bne_iff_ne.mpr c12
      (first | rw [c12b0] | (simp only [i64_w, i32_w]; rw [c12b0]) | skip)
      have H' := Aside0.mk H
      clear H
      go_wp2
      go_meet
      case rel => exact ⟨_, (true), z23_, H', ⟨z24_⟩, ⟨z9_⟩, ⟨z10_⟩, ⟨z7_⟩⟩
   case rest =>
    clear HC6
    try clear c1
    try clear c2
    try clear c2b0
    try clear c2b1
    try clear p2
    try clear c4
    try clear c10
    try clear c12
    try clear c12b0
    try clear c12b1
    obtain ⟨kq, x32_5, rfl, HA, HJ5, HO_3, HO_4, HB⟩ := hcut
    cases kq with
    | zero => exact absurd HA.out (by simp [laws_FnHeight.j0])
    | succ kj5 =>
     have H := HA.out
     clear HA
     simp only [laws_FnHeight.j0] at H
     by_cases c13 : x32_5 = true
     · subst c13
       have H1 : (some (t420 == t421)) = some r := by rw [if_pos rfl] at H; exact H
       clear H
       have H := H1
       clear H1
       obtain rfl := Option.some.inj H
       go_wp2
       go_ret
       exact ⟨z20_, z7_⟩
     · replace c13 := Bool.eq_false_iff.mpr c13
       subst c13
       have H1 : ((impl_ZeroPlain.f kj5 t414 t415).bind fun bt422 => ((impl_ZeroHeight.f kj5 t414 bt422.1).bind fun t426 => (laws_FnHeight.l0 kj5 t415 t420 bt422.1 bt422.2 t426 false 0))) = some r := by rw [if_neg (show ¬ (false = true) by decide)] at H; exact H
       clear H
       have H := H1
       clear H1
       replace H := Option.bind_eq_some_iff.mp H
       obtain ⟨⟨t422, t423⟩, A140, H⟩ := H
       replace H : ((impl_ZeroHeight.f kj5 t414 t422).bind fun t426 => (laws_FnHeight.l0 kj5 t415 t420 t422 t423 t426 false 0)) = some r := H
       have A14 := Aside0.mk A140
       clear A140
       replace H := Option.bind_eq_some_iff.mp H
       obtain ⟨t426, A150, H⟩ := H
       replace H : (laws_FnHeight.l0 kj5 t415 t420 t422 t423 t426 false 0) = some r := H
       have A15 := Aside0.mk A150
       clear A150
       have H' := Aside0.mk H
       clear H
       go_wp2_with (first | ((with_reducible refine gate_callee (f := 49) rfl ?_); refine goesL_ (some 39) rfl rfl Try.func49 (by kernel_rfl) rfl #[.slice Ao8 t414.length co8, .slice Ao9 t415.length co9] rfl z5_ ?_; (with_reducible refine (impl_ZeroPlain.calls kj5 _ _ t414 _ _ t415 t422 t423 _ ?side1 ?side2 ?side3 ?side4 A14.out).mono ?_); (case side1 => repeat (first | exact (Kd.R_reads' HO_3.out).2.2 | (with_reducible refine Kd.C_alloc ?_ _) | (with_reducible refine Kd.C_drewN ?_ _) | (with_reducible refine Kd.C_drew ?_))); (case side2 => exact (Kd.R_reads' HO_3.out).2.1); (case side3 => repeat (first | exact (Kd.R_reads' HO_4.out).2.2 | (with_reducible refine Kd.C_alloc ?_ _) | (with_reducible refine Kd.C_drewN ?_ _) | (with_reducible refine Kd.C_drew ?_))); (case side4 => exact (Kd.R_reads' HO_4.out).2.1); rintro e w16 ⟨v424, rfl, ho0, hb⟩; refine ⟨_, rfl, ?_⟩; have n0_ := Aside0.mk (Kd.R_elder' z17_ (Kd.R_base ho0) hb); have n1_ := Aside0.mk (Kd.R_elder' z18_ (Kd.R_base ho0) hb); have n2_ := Aside0.mk (Kd.R_lower (Kd.R_new' (Kd.R_new' ho0 (Kd.R_lt z17_)) (Kd.R_lt z18_)) (below_size z7_)); have n3_ := Aside0.mk (below_step z7_ hb); clear HO_3; clear HO_4; clear HB; have HO_3 := n0_; have HO_4 := n1_; have HO425 := n2_; have HB := n3_; clear n0_ n1_ n2_ n3_; (try clear hb); (try clear hb2); (try clear hk); (try clear hi); (try clear ho0); obtain ⟨Ao17, co17, eo17⟩ := Kd.R_slice HO425.out; subst eo17) | ((with_reducible refine gate_callee (f := 47) rfl ?_); refine goesL_ (some 44) rfl rfl Try.func47 (by kernel_rfl) rfl #[.slice Ao8 t414.length co8, .slice Ao17 t422.length co17] rfl z5_ ?_; (with_reducible refine (impl_ZeroHeight.calls kj5 _ _ t414 _ _ t422 t426 _ ?side1 ?side2 ?side3 ?side4 A15.out).mono ?_); (case side1 => repeat (first | exact (Kd.R_reads' HO_3.out).2.2 | (with_reducible refine Kd.C_alloc ?_ _) | (with_reducible refine Kd.C_drewN ?_ _) | (with_reducible refine Kd.C_drew ?_))); (case side2 => exact (Kd.R_reads' HO_3.out).2.1); (case side3 => repeat (first | exact (Kd.R_reads' HO425.out).2.2 | (with_reducible refine Kd.C_alloc ?_ _) | (with_reducible refine Kd.C_drewN ?_ _) | (with_reducible refine Kd.C_drew ?_))); (case side4 => exact (Kd.R_reads' HO425.out).2.1); rintro e w18 ⟨rfl, hb⟩; refine ⟨_, rfl, ?_⟩; have n0_ := Aside0.mk (Kd.R_below z17_ hb); have n1_ := Aside0.mk (Kd.R_below z18_ hb); have n2_ := Aside0.mk (Kd.R_below (by (with_reducible repeat (first | apply Kd.R_alloc | apply Kd.R_drewN | apply Kd.R_drew)); exact HO425.out) hb); have n3_ := Aside0.mk (below_step z7_ hb); clear HO_3; clear HO_4; clear HO425; clear HB; have HO_3 := n0_; have HO_4 := n1_; have HO425 := n2_; have HB := n3_; clear n0_ n1_ n2_ n3_; (try clear hb); (try clear hb2); (try clear hk); (try clear hi)))
       go_loopg [10, 11] kj5 (fun kq v10 v11 w' => ∃ (x10_2 : Bool) (x11_2 : Int), v10 = .bool x10_2 ∧ v11 = .int .i64 x11_2 ∧ Aside0 (laws_FnHeight.l0 kq t415 t420 t422 t423 t426 x10_2 x11_2 = some r) ∧ Aside0 (kq ≤ kj5) ∧ Aside0 (Kd.R (Kd.int .i64) 3 w' w.heap.size (fun k_ => some k_ ≠ ((.slice Ao17 t422.length co17) : Value).ownBlock) (.slice Ao9 t415.length co9) t415) ∧ Aside0 (Kd.R (Kd.int .i64) 3 w' w.heap.size (fun k_ => some k_ ≠ ((.slice Ao9 t415.length co9) : Value).ownBlock) (.slice Ao17 t422.length co17) t422) ∧ Aside0 (Below w.heap.size w w'))
       case atStart => exact ⟨(false), (0), z23_, z23_, H', ⟨Nat.le_refl _⟩, ⟨by (with_reducible repeat (first | apply Kd.R_alloc | apply Kd.R_drewN | apply Kd.R_drew)); exact Kd.R_mono HO_4.out (fun _ hk => hk.2)⟩, ⟨by (with_reducible repeat (first | apply Kd.R_alloc | apply Kd.R_drewN | apply Kd.R_drew)); exact Kd.R_mono HO425.out (fun _ hk => hk.2)⟩, ⟨z7_⟩⟩
       case round =>
        clear H'
        try clear c1
        try clear c2
        try clear c2b0
        try clear c2b1
        try clear p2
        try clear c4
        try clear c10
        try clear c12
        try clear c12b0
        try clear c12b1
        try clear c13
        try clear p2
        obtain ⟨x10_2, x11_2, rfl, rfl, HA, HK2, HO_4, HO_7, HB⟩ := hrel
        cases gk with
        | zero => exact absurd HA.out (by simp [laws_FnHeight.l0])
        | succ k2 =>
         have H := HA.out
         clear HA
         simp only [laws_FnHeight.l0] at H
         by_cases c19 : x11_2 < (t415.length : Int)
         · rw [if_pos c19] at H
           have c19b0 : decide (x11_2 < (t415.length : Int)) = true := decide_eq_true c19
           clear c19
           have HC20 := Aside0.mk H
           clear H
           go_upto_region 14 with (fail)
           go_cut [10] (fun v10 wc => ∃ (kq : Nat) (x10_19 : Bool), v10 = .bool x10_19 ∧ Aside0 (laws_FnHeight.j2 kq t415 t420 t422 t423 t426 x10_19 x11_2 = some r) ∧ Aside0 (kq ≤ k2) ∧ Aside0 (Kd.R (Kd.int .i64) 3 wc w.heap.size (fun k_ => some k_ ≠ ((.slice Ao17 t422.length co17) : Value).ownBlock) (.slice Ao9 t415.length co9) t415) ∧ Aside0 (Kd.R (Kd.int .i64) 3 wc w.heap.size (fun k_ => some k_ ≠ ((.slice Ao9 t415.length co9) : Value).ownBlock) (.slice Ao17 t422.length co17) t422) ∧ Aside0 (Below w.heap.size w wc))
           case first =>
            have H := HC20.out
            clear HC20
            by_cases c21 : x10_2 = true
            · subst c21
              have H1 : (laws_FnHeight.j2 k2 t415 t420 t422 t423 t426 true x11_2) = some r := by rw [if_pos rfl] at H; exact H
              clear H
              have H := H1
              clear H1
              have H' := Aside0.mk H
              clear H
              go_wp2
              go_meet
              case rel => exact ⟨_, (true), z23_, H', ⟨by have := HJ5.out; have := HK2.out; first | omega | exact Nat.le_refl _⟩, ⟨z18_⟩, ⟨z19_⟩, ⟨z7_⟩⟩
            · replace c21 := Bool.eq_false_iff.mpr c21
              subst c21
              have H1 : (if 0 ≤ x11_2 then ((laws_sizeOf.f (rd t415 x11_2)).bind fun t428 => (laws_FnHeight.j2 k2 t415 t420 t422 t423 t426 (t428 == t420) x11_2)) else (none)) = some r := by rw [if_neg (show ¬ (false = true) by decide)] at H; exact H
              clear H
              have H := H1
              clear H1
              by_cases c22 : 0 ≤ x11_2
              · rw [if_pos c22] at H
                have c22b0 : decide (0 ≤ x11_2) = true := decide_eq_true c22
                clear c22
                (first | rw [c22b0] | (simp only [i64_w, i32_w]; rw [c22b0]) | skip)
                replace H := Option.bind_eq_some_iff.mp H
                obtain ⟨t428, A230, H⟩ := H
                replace H : (laws_FnHeight.j2 k2 t415 t420 t422 t423 t426 (t428 == t420) x11_2) = some r := H
                have A23 := Aside0.mk A230
                clear A230
                have H' := Aside0.mk H
                clear H
                have p427 : 0 ≤ (x11_2 : Int) := of_decide_eq_true z22_
                have q427 : x11_2 < (t415.length : Int) := of_decide_eq_true z22_
                obtain ⟨ad427, e427, hx427_0⟩ := Kd.at_int (Kd.R_reads' HO_4.out).2.2 x11_2 p427 q427
                cases e427
                replace p427 := eq_true p427
                replace q427 := eq_true q427
                go_wp2_with (first | (go_at_call 23; (with_reducible refine (laws_sizeOf.calls (rd t415 x11_2) t428 _ A23.out).mono ?_); rintro e w24 ⟨rfl, hb⟩; have n0_ := Aside0.mk (Kd.R_below z18_ hb); have n1_ := Aside0.mk (Kd.R_below z19_ hb); have n2_ := Aside0.mk (below_step z7_ hb); clear HO_4; clear HO_7; clear HB; have HO_4 := n0_; have HO_7 := n1_; have HB := n2_; clear n0_ n1_ n2_; (try clear hb); (try clear hb2); (try clear hk); (try clear hi)))
                go_meet
                case rel => exact ⟨_, ((t428 == t420)), z23_, H', ⟨by have := HJ5.out; have := HK2.out; first | omega | exact Nat.le_refl _⟩, ⟨z18_⟩, ⟨z19_⟩, ⟨z7_⟩⟩
              · rw [if_neg c22] at H
                exact absurd H (by simp)
           case rest =>
            clear HC20
            try clear c1
            try clear c2
            try clear c2b0
            try clear c2b1
            try clear p2
            try clear c4
            try clear p4
            try clear q4
            try clear hx4
            try clear c10
            try clear c12
            try clear c12b0
            try clear c12b1
            try clear c13
            try clear c19
            try clear c19b0
            try clear c21
            try clear c22
            try clear c22b0
            try clear hx427_0
            try clear p2
            try clear p427
            try clear q427
            obtain ⟨kq, x10_19, rfl, HA, HJ19, HO_4, HO_7, HB⟩ := hcut
            cases kq with
            | zero => exact absurd HA.out (by simp [laws_FnHeight.j2])
            | succ kj19 =>
             have H := HA.out
             clear HA
             simp only [laws_FnHeight.j2] at H
             by_cases c25 : 0 ≤ x11_2
             · rw [if_pos c25] at H
               have c25b0 : decide (0 ≤ x11_2) = true := decide_eq_true c25
               clear c25
               by_cases c26 : x11_2 < (t415.length : Int)
               · rw [if_pos c26] at H
                 have c26b0 : decide (x11_2 < (t415.length : Int)) = true := decide_eq_true c26
                 clear c26
                 replace H := Option.bind_eq_some_iff.mp H
                 obtain ⟨t430, A270, H⟩ := H
                 replace H : (if t430 > t420 then (some false) else ((laws_sizeOf.f (rd t415 x11_2)).bind fun t432 => (if x11_2 < (t422.length : Int) then ((laws_sizeOf.f (rd t422 x11_2)).bind fun t434 => (if (wrap64 (t432 * t426)) = (wrap64 (t434 * t420)) then (laws_FnHeight.l0 kj19 t415 t420 t422 t423 t426 x10_19 (wrap64 (x11_2 + 1))) else (some false))) else (none)))) = some r := H
                 have A27 := Aside0.mk A270
                 clear A270
                 by_cases c28 : t430 > t420
                 · rw [if_pos c28] at H
                   have c28b0 : decide (t420 < t430) = true := decide_eq_true c28
                   clear c28
                   obtain rfl := Option.some.inj H
                   try go_wp2
                   have n0_ := Aside0.mk (Kd.R_drew HO_4.out)
                   have n1_ := Aside0.mk (Kd.R_drew HO_7.out)
                   have n2_ := Aside0.mk (below_drew1 HB.out)
                   clear HO_4
                   clear HO_7
                   clear HB
                   have HO_4 := n0_
                   have HO_7 := n1_
                   have HB := n2_
                   clear n0_ n1_ n2_
                   have p429 : 0 ≤ (x11_2 : Int) := of_decide_eq_true z22_
                   have q429 : x11_2 < (t415.length : Int) := of_decide_eq_true z22_
                   obtain ⟨ad429, e429, hx429_0⟩ := Kd.at_int (Kd.R_reads' HO_4.out).2.2 x11_2 p429 q429
                   cases e429
                   replace p429 := eq_true p429
                   replace q429 := eq_true q429
                   refine start_ (n := 24) (S := fun w' => w'.cell? (ad429.add (x11_2).toNat) = some (.int .i64 (rd t415 x11_2))) (ds := []) #[false, false, false, false, false, false, false, false, false, false, false, false, false, false, false, false, false, false, false, false, false, false, false, false] (by kernel_rfl) rfl rfl (hx429_0) (fun hHeld => ?_); refine with_tabW laws_FnHeight.tab15 laws_FnHeight.bits15 (fun HT_ HW_ => ?_)
                   generalize wc.drew = w29 at HO_4 HO_7 HB hx429_0 hHeld ⊢
                   refine pure_ (i := 0) (N := some 61) (v := ?_) (a' := ?_) #[true, false, false, false, false, false, false, false, false, false, false, false, false, false, false, false, false, false, false, false, false, false, false, false] rfl rfl (any_of HT_.out (by kernel_rfl)) (fun _ _ _ h => h) (Or.inl ⟨by rfl, ?_⟩) ?_ ?_
                   rotate_left
                   · intro w'
                     go_simp
                     with_reducible rfl
                   rotate_left
                   · simp only [Act.put, List.setIfInBounds_toArray, List.set_cons_zero, List.set_cons_succ, i64_w, i32_w]
                     rfl
                   refine pure_ (i := 1) (N := some 62) (v := ?_) (a' := ?_) #[true, true, false, false, false, false, false, false, false, false, false, false, false, false, false, false, false, false, false, false, false, false, false, false] rfl rfl (any_of HT_.out (by kernel_rfl)) (fun _ _ _ h => h) (Or.inl ⟨by rfl, ?_⟩) ?_ ?_
                   rotate_left
                   · intro w'
                     go_simp
                     with_reducible rfl
                   rotate_left
                   · simp only [Act.put, List.setIfInBounds_toArray, List.set_cons_zero, List.set_cons_succ, i64_w, i32_w]
                     rfl
                   refine pure_ (i := 2) (N := some 63) (v := ?_) (a' := ?_) #[true, true, true, false, false, false, false, false, false, false, false, false, false, false, false, false, false, false, false, false, false, false, false, false] rfl rfl (any_of HT_.out (by kernel_rfl)) (fun _ _ _ h => h) (Or.inl ⟨by rfl, ?_⟩) ?_ ?_
                   rotate_left
                   · intro w'
                     go_simp
                     with_reducible rfl
                   rotate_left
                   · simp only [Act.put, List.setIfInBounds_toArray, List.set_cons_zero, List.set_cons_succ, i64_w, i32_w]
                     rfl
                   refine pure_ (i := 5) (N := some 66) (v := ?_) (a' := ?_) #[true, true, true, false, false, true, false, false, false, false, false, false, false, false, false, false, false, false, false, false, false, false, false, false] rfl rfl (any_of HT_.out (by kernel_rfl)) (fun _ _ _ h => h) (Or.inl ⟨by rfl, ?_⟩) ?_ ?_
                   rotate_left
                   · intro w'
                     go_simp
                     with_reducible rfl
                   rotate_left
                   · simp only [Act.put, List.setIfInBounds_toArray, List.set_cons_zero, List.set_cons_succ, i64_w, i32_w]
                     rfl
                   refine take_ (i := 3) (N := some 64) (v := ?_) (a' := ?_) #[true, true, true, true, false, true, false, false, false, false, false, false, false, false, false, false, false, false, false, false, false, false, false, false] rfl rfl (take_ofW HT_.out HW_.out (by kernel_rfl)) (fun _ _ _ h => h) (Or.inl ⟨by rfl, ?_⟩) hHeld ?_ ?_
                   rotate_left
                   · intro w' s0
                     go_simp
                     with_reducible rfl
                   rotate_left
                   · simp only [Act.put, List.setIfInBounds_toArray, List.set_cons_zero, List.set_cons_succ, i64_w, i32_w]
                     rfl
                   refine one_ (i := 4) (N := some 65) #[true, true, true, true, true, true, false, false, false, false, false, false, false, false, false, false, false, false, false, false, false, false, false, false] rfl rfl (one_of HT_.out (by kernel_rfl)) (by decide) (fun K hK => ?_)
                   refine goes_ Try.func23 (by kernel_rfl) rfl #[.int .i64 (rd t415 x11_2)] (by rfl) rfl rfl z5_ ?_
                   with_reducible refine (laws_sizeOf.calls (rd t415 x11_2) t430 _ A27.out).mono ?_
                   rintro e w30 ⟨rfl, hb⟩
                   have HS0_ := (hb.cell (World.block_lt_of_cell? _ _ (hHeld))).trans (hHeld)
                   refine ⟨_, rfl, ?_⟩
                   have n0_ := Aside0.mk (Kd.R_below z18_ hb)
                   have n1_ := Aside0.mk (Kd.R_below z19_ hb)
                   have n2_ := Aside0.mk (below_step z7_ hb)
                   clear HO_4
                   clear HO_7
                   clear HB
                   have HO_4 := n0_
                   have HO_7 := n1_
                   have HB := n2_
                   clear n0_ n1_ n2_
                   (try clear hb)
                   (try clear hb2)
                   (try clear hk)
                   (try clear hi)
                   refine hK.out _ _ (HS0_) (fun hHeld => ?_)
                   clear hK K
                   refine norm_ (a' := ?_) ?_ ?_
                   rotate_left
                   · show Act.put _ (some 65) _ = _
                     simp only [Act.put, List.setIfInBounds_toArray, List.set_cons_zero, List.set_cons_succ, i64_w, i32_w]
                     rfl
                   refine pure_ (i := 6) (N := some 67) (v := ?_) (a' := ?_) #[true, true, true, true, true, true, true, false, false, false, false, false, false, false, false, false, false, false, false, false, false, false, false, false] rfl rfl (any_of HT_.out (by kernel_rfl)) (fun _ _ _ h => h) (Or.inl ⟨by rfl, ?_⟩) ?_ ?_
                   rotate_left
                   · intro w'
                     go_simp
                     with_reducible rfl
                   rotate_left
                   · simp only [Act.put, List.setIfInBounds_toArray, List.set_cons_zero, List.set_cons_succ, i64_w, i32_w]
                     rfl
                   refine pure_ (i := 7) (N := some 68) (v := ?_) (a' := ?_) #[true, true, true, true, true, true, true, true, false, false, false, false, false, false, false, false, false, false, false, false, false, false, false, false] rfl rfl (any_of HT_.out (by kernel_rfl)) (fun _ _ _ h => h) (Or.inl ⟨by rfl, ?_⟩) ?_ ?_
                   rotate_left
                   · intro w'
                     go_simp
                     with_reducible rfl
                   rotate_left
                   · simp only [Act.put, List.setIfInBounds_toArray, List.set_cons_zero, List.set_cons_succ, i64_w, i32_w]
                     rfl
                   refine pure_ (i := 8) (N := some 69) (v := undef) (a' := ?_) #[true, true, true, true, true, true, true, true, true, false, false, false, false, false, false, false, false, false, false, false, false, false, false, false] rfl rfl (any_of HT_.out (by kernel_rfl)) (fun _ _ _ h => h) (Or.inr ⟨by rfl, rfl⟩) ?_ ?_
                   rotate_left
                   · simp only [Act.put, List.setIfInBounds_toArray, List.set_cons_zero, List.set_cons_succ, i64_w, i32_w]
                     rfl
                   refine pure_ (i := 9) (N := some 70) (v := undef) (a' := ?_) #[true, true, true, true, true, true, true, true, true, true, false, false, false, false, false, false, false, false, false, false, false, false, false, false] rfl rfl (any_of HT_.out (by kernel_rfl)) (fun _ _ _ h => h) (Or.inr ⟨by rfl, rfl⟩) ?_ ?_
                   rotate_left
                   · simp only [Act.put, List.setIfInBounds_toArray, List.set_cons_zero, List.set_cons_succ, i64_w, i32_w]
                     rfl
                   refine pure_ (i := 10) (N := some 71) (v := undef) (a' := ?_) #[true, true, true, true, true, true, true, true, true, true, true, false, false, false, false, false, false, false, false, false, false, false, false, false] rfl rfl (any_of HT_.out (by kernel_rfl)) (fun _ _ _ h => h) (Or.inr ⟨by rfl, rfl⟩) ?_ ?_
                   rotate_left
                   · simp only [Act.put, List.setIfInBounds_toArray, List.set_cons_zero, List.set_cons_succ, i64_w, i32_w]
                     rfl
                   refine pure_ (i := 11) (N := some 72) (v := undef) (a' := ?_) #[true, true, true, true, true, true, true, true, true, true, true, true, false, false, false, false, false, false, false, false, false, false, false, false] rfl rfl (any_of HT_.out (by kernel_rfl)) (fun _ _ _ h => h) (Or.inr ⟨by rfl, rfl⟩) ?_ ?_
                   rotate_left
                   · simp only [Act.put, List.setIfInBounds_toArray, List.set_cons_zero, List.set_cons_succ, i64_w, i32_w]
                     rfl
                   refine pure_ (i := 12) (N := some 73) (v := undef) (a' := ?_) #[true, true, true, true, true, true, true, true, true, true, true, true, true, false, false, false, false, false, false, false, false, false, false, false] rfl rfl (any_of HT_.out (by kernel_rfl)) (fun _ _ _ h => h) (Or.inr ⟨by rfl, rfl⟩) ?_ ?_
                   rotate_left
                   · simp only [Act.put, List.setIfInBounds_toArray, List.set_cons_zero, List.set_cons_succ, i64_w, i32_w]
                     rfl
                   refine pure_ (i := 13) (N := some 74) (v := undef) (a' := ?_) #[true, true, true, true, true, true, true, true, true, true, true, true, true, true, false, false, false, false, false, false, false, false, false, false] rfl rfl (any_of HT_.out (by kernel_rfl)) (fun _ _ _ h => h) (Or.inr ⟨by rfl, rfl⟩) ?_ ?_
                   rotate_left
                   · simp only [Act.put, List.setIfInBounds_toArray, List.set_cons_zero, List.set_cons_succ, i64_w, i32_w]
                     rfl
                   refine pure_ (i := 14) (N := some 75) (v := undef) (a' := ?_) #[true, true, true, true, true, true, true, true, true, true, true, true, true, true, true, false, false, false, false, false, false, false, false, false] rfl rfl (any_of HT_.out (by kernel_rfl)) (fun _ _ _ h => h) (Or.inr ⟨by rfl, rfl⟩) ?_ ?_
                   rotate_left
                   · simp only [Act.put, List.setIfInBounds_toArray, List.set_cons_zero, List.set_cons_succ, i64_w, i32_w]
                     rfl
                   refine pure_ (i := 15) (N := some 76) (v := undef) (a' := ?_) #[true, true, true, true, true, true, true, true, true, true, true, true, true, true, true, true, false, false, false, false, false, false, false, false] rfl rfl (any_of HT_.out (by kernel_rfl)) (fun _ _ _ h => h) (Or.inr ⟨by rfl, rfl⟩) ?_ ?_
                   rotate_left
                   · simp only [Act.put, List.setIfInBounds_toArray, List.set_cons_zero, List.set_cons_succ, i64_w, i32_w]
                     rfl
                   refine pure_ (i := 16) (N := some 77) (v := undef) (a' := ?_) #[true, true, true, true, true, true, true, true, true, true, true, true, true, true, true, true, true, false, false, false, false, false, false, false] rfl rfl (any_of HT_.out (by kernel_rfl)) (fun _ _ _ h => h) (Or.inr ⟨by rfl, rfl⟩) ?_ ?_
                   rotate_left
                   · simp only [Act.put, List.setIfInBounds_toArray, List.set_cons_zero, List.set_cons_succ, i64_w, i32_w]
                     rfl
                   refine pure_ (i := 17) (N := some 78) (v := undef) (a' := ?_) #[true, true, true, true, true, true, true, true, true, true, true, true, true, true, true, true, true, true, false, false, false, false, false, false] rfl rfl (any_of HT_.out (by kernel_rfl)) (fun _ _ _ h => h) (Or.inr ⟨by rfl, rfl⟩) ?_ ?_
                   rotate_left
                   · simp only [Act.put, List.setIfInBounds_toArray, List.set_cons_zero, List.set_cons_succ, i64_w, i32_w]
                     rfl
                   refine pure_ (i := 18) (N := some 79) (v := undef) (a' := ?_) #[true, true, true, true, true, true, true, true, true, true, true, true, true, true, true, true, true, true, true, false, false, false, false, false] rfl rfl (any_of HT_.out (by kernel_rfl)) (fun _ _ _ h => h) (Or.inr ⟨by rfl, rfl⟩) ?_ ?_
                   rotate_left
                   · simp only [Act.put, List.setIfInBounds_toArray, List.set_cons_zero, List.set_cons_succ, i64_w, i32_w]
                     rfl
                   refine pure_ (i := 19) (N := some 80) (v := undef) (a' := ?_) #[true, true, true, true, true, true, true, true, true, true, true, true, true, true, true, true, true, true, true, true, false, false, false, false] rfl rfl (any_of HT_.out (by kernel_rfl)) (fun _ _ _ h => h) (Or.inr ⟨by rfl, rfl⟩) ?_ ?_
                   rotate_left
                   · simp only [Act.put, List.setIfInBounds_toArray, List.set_cons_zero, List.set_cons_succ, i64_w, i32_w]
                     rfl
                   refine pure_ (i := 20) (N := some 81) (v := undef) (a' := ?_) #[true, true, true, true, true, true, true, true, true, true, true, true, true, true, true, true, true, true, true, true, true, false, false, false] rfl rfl (any_of HT_.out (by kernel_rfl)) (fun _ _ _ h => h) (Or.inr ⟨by rfl, rfl⟩) ?_ ?_
                   rotate_left
                   · simp only [Act.put, List.setIfInBounds_toArray, List.set_cons_zero, List.set_cons_succ, i64_w, i32_w]
                     rfl
                   refine pure_ (i := 21) (N := some 82) (v := undef) (a' := ?_) #[true, true, true, true, true, true, true, true, true, true, true, true, true, true, true, true, true, true, true, true, true, true, false, false] rfl rfl (any_of HT_.out (by kernel_rfl)) (fun _ _ _ h => h) (Or.inr ⟨by rfl, rfl⟩) ?_ ?_
                   rotate_left
                   · simp only [Act.put, List.setIfInBounds_toArray, List.set_cons_zero, List.set_cons_succ, i64_w, i32_w]
                     rfl
                   refine pure_ (i := 22) (N := some 83) (v := undef) (a' := ?_) #[true, true, true, true, true, true, true, true, true, true, true, true, true, true, true, true, true, true, true, true, true, true, true, false] rfl rfl (any_of HT_.out (by kernel_rfl)) (fun _ _ _ h => h) (Or.inr ⟨by rfl, rfl⟩) ?_ ?_
                   rotate_left
                   · simp only [Act.put, List.setIfInBounds_toArray, List.set_cons_zero, List.set_cons_succ, i64_w, i32_w]
                     rfl
                   refine pure_ (i := 23) (N := some 84) (v := ?_) (a' := ?_) #[true, true, true, true, true, true, true, true, true, true, true, true, true, true, true, true, true, true, true, true, true, true, true, true] rfl rfl (any_of HT_.out (by kernel_rfl)) (fun _ _ _ h => h) (Or.inl ⟨by rfl, ?_⟩) ?_ ?_
                   rotate_left
                   · intro w'
                     go_simp
                     with_reducible rfl
                   rotate_left
                   · simp only [Act.put, List.setIfInBounds_toArray, List.set_cons_zero, List.set_cons_succ, i64_w, i32_w]
                     rfl
                   refine done_ (done_of HT_.out (by kernel_rfl)) ?_
                   try go_wp2
                   go_ret
                   exact ⟨z20_, z7_⟩
                 · rw [if_neg c28] at H
                   have c28b0 : decide (t420 < t430) = false := decide_eq_false c28
                   clear c28
                   replace H := Option.bind_eq_some_iff.mp H
                   obtain ⟨t432, A310, H⟩ := H
                   replace H : (if x11_2 < (t422.length : Int) then ((laws_sizeOf.f (rd t422 x11_2)).bind fun t434 => (if (wrap64 (t432 * t426)) = (wrap64 (t434 * t420)) then (laws_FnHeight.l0 kj19 t415 t420 t422 t423 t426 x10_19 (wrap64 (x11_2 + 1))) else (some false))) else (none)) = some r := H
                   have A31 := Aside0.mk A310
                   clear A310
                   by_cases c32 : x11_2 < (t422.length : Int)
                   · rw [if_pos c32] at H
                     have c32b0 : decide (x11_2 < (t422.length : Int)) = true := decide_eq_true c32
                     clear c32
                     replace H := Option.bind_eq_some_iff.mp H
                     obtain ⟨t434, A330, H⟩ := H
                     replace H : (if (wrap64 (t432 * t426)) = (wrap64 (t434 * t420)) then (laws_FnHeight.l0 kj19 t415 t420 t422 t423 t426 x10_19 (wrap64 (x11_2 + 1))) else (some false)) = some r := H
                     have A33 := Aside0.mk A330
                     clear A330
                     by_cases c34 : (wrap64 (t432 * t426)) = (wrap64 (t434 * t420))
                     · rw [if_pos c34] at H
                       have c34b0 : ((wrap64 (t432 * t426)) == (wrap64 (t434 * t420))) = true := beq_iff_eq.mpr c34
                       have c34b1 : ((wrap64 (t432 * t426)) != (wrap64 (t434 * t420))) = false := bne_eq_false_iff_eq.mpr c34
                       clear c34
                       have H' := Aside0.mk H
                       clear H
                       try go_wp2
                       have n0_ := Aside0.mk (Kd.R_drew HO_4.out)
                       have n1_ := Aside0.mk (Kd.R_drew HO_7.out)
                       have n2_ := Aside0.mk (below_drew1 HB.out)
                       clear HO_4
                       clear HO_7
                       clear HB
                       have HO_4 := n0_
                       have HO_7 := n1_
                       have HB := n2_
                       clear n0_ n1_ n2_
                       have p429 : 0 ≤ (x11_2 : Int) := of_decide_eq_true z22_
                       have q429 : x11_2 < (t415.length : Int) := of_decide_eq_true z22_
                       obtain ⟨ad429, e429, hx429_0⟩ := Kd.at_int (Kd.R_reads' HO_4.out).2.2 x11_2 p429 q429
                       cases e429
                       replace p429 := eq_true p429
                       replace q429 := eq_true q429
                       have p431 : 0 ≤ (x11_2 : Int) := of_decide_eq_true z22_
                       have q431 : x11_2 < (t415.length : Int) := of_decide_eq_true z22_
                       obtain ⟨ad431, e431, hx431_0⟩ := Kd.at_int (Kd.R_reads' HO_4.out).2.2 x11_2 p431 q431
                       obtain rfl : ad429 = ad431 := (by injection e431)
                       replace p431 := eq_true p431
                       replace q431 := eq_true q431
                       have p433 : 0 ≤ (x11_2 : Int) := of_decide_eq_true z22_
                       have q433 : x11_2 < (t422.length : Int) := of_decide_eq_true z22_
                       obtain ⟨ad433, e433, hx433_0⟩ := Kd.at_int (Kd.R_reads' HO_7.out).2.2 x11_2 p433 q433
                       cases e433
                       replace p433 := eq_true p433
                       replace q433 := eq_true q433
                       refine start_ (n := 24) (S := fun w' => w'.cell? (ad429.add (x11_2).toNat) = some (.int .i64 (rd t415 x11_2)) ∧ w'.cell? (ad429.add (x11_2).toNat) = some (.int .i64 (rd t415 x11_2)) ∧ w'.cell? (ad433.add (x11_2).toNat) = some (.int .i64 (rd t422 x11_2))) (ds := []) #[false, false, false, false, false, false, false, false, false, false, false, false, false, false, false, false, false, false, false, false, false, false, false, false] (by kernel_rfl) rfl rfl ⟨hx429_0, hx431_0, hx433_0⟩ (fun hHeld => ?_); refine with_tabW laws_FnHeight.tab15 laws_FnHeight.bits15 (fun HT_ HW_ => ?_)
                       generalize wc.drew = w35 at HO_4 HO_7 HB hx429_0 hx431_0 hx433_0 hHeld ⊢
                       refine pure_ (i := 0) (N := some 61) (v := ?_) (a' := ?_) #[true, false, false, false, false, false, false, false, false, false, false, false, false, false, false, false, false, false, false, false, false, false, false, false] rfl rfl (any_of HT_.out (by kernel_rfl)) (fun _ _ _ h => h) (Or.inl ⟨by rfl, ?_⟩) ?_ ?_
                       rotate_left
                       · intro w'
                         go_simp
                         with_reducible rfl
                       rotate_left
                       · simp only [Act.put, List.setIfInBounds_toArray, List.set_cons_zero, List.set_cons_succ, i64_w, i32_w]
                         rfl
                       refine pure_ (i := 1) (N := some 62) (v := ?_) (a' := ?_) #[true, true, false, false, false, false, false, false, false, false, false, false, false, false, false, false, false, false, false, false, false, false, false, false] rfl rfl (any_of HT_.out (by kernel_rfl)) (fun _ _ _ h => h) (Or.inl ⟨by rfl, ?_⟩) ?_ ?_
                       rotate_left
                       · intro w'
                         go_simp
                         with_reducible rfl
                       rotate_left
                       · simp only [Act.put, List.setIfInBounds_toArray, List.set_cons_zero, List.set_cons_succ, i64_w, i32_w]
                         rfl
                       refine pure_ (i := 2) (N := some 63) (v := ?_) (a' := ?_) #[true, true, true, false, false, false, false, false, false, false, false, false, false, false, false, false, false, false, false, false, false, false, false, false] rfl rfl (any_of HT_.out (by kernel_rfl)) (fun _ _ _ h => h) (Or.inl ⟨by rfl, ?_⟩) ?_ ?_
                       rotate_left
                       · intro w'
                         go_simp
                         with_reducible rfl
                       rotate_left
                       · simp only [Act.put, List.setIfInBounds_toArray, List.set_cons_zero, List.set_cons_succ, i64_w, i32_w]
                         rfl
                       refine pure_ (i := 5) (N := some 66) (v := ?_) (a' := ?_) #[true, true, true, false, false, true, false, false, false, false, false, false, false, false, false, false, false, false, false, false, false, false, false, false] rfl rfl (any_of HT_.out (by kernel_rfl)) (fun _ _ _ h => h) (Or.inl ⟨by rfl, ?_⟩) ?_ ?_
                       rotate_left
                       · intro w'
                         go_simp
                         with_reducible rfl
                       rotate_left
                       · simp only [Act.put, List.setIfInBounds_toArray, List.set_cons_zero, List.set_cons_succ, i64_w, i32_w]
                         rfl
                       refine take_ (i := 3) (N := some 64) (v := ?_) (a' := ?_) #[true, true, true, true, false, true, false, false, false, false, false, false, false, false, false, false, false, false, false, false, false, false, false, false] rfl rfl (take_ofW HT_.out HW_.out (by kernel_rfl)) (fun _ _ _ h => h) (Or.inl ⟨by rfl, ?_⟩) hHeld ?_ ?_
                       rotate_left
                       · rintro w' ⟨s0, s1, s2⟩
                         go_simp
                         with_reducible rfl
                       rotate_left
                       · simp only [Act.put, List.setIfInBounds_toArray, List.set_cons_zero, List.set_cons_succ, i64_w, i32_w]
                         rfl
                       refine one_ (i := 4) (N := some 65) #[true, true, true, true, true, true, false, false, false, false, false, false, false, false, false, false, false, false, false, false, false, false, false, false] rfl rfl (one_of HT_.out (by kernel_rfl)) (by decide) (fun K hK => ?_)
                       refine goes_ Try.func23 (by kernel_rfl) rfl #[.int .i64 (rd t415 x11_2)] (by rfl) rfl rfl z5_ ?_
                       with_reducible refine (laws_sizeOf.calls (rd t415 x11_2) t430 _ A27.out).mono ?_
                       rintro e w36 ⟨rfl, hb⟩
                       have HS0_ := (hb.cell (World.block_lt_of_cell? _ _ (hHeld.1))).trans (hHeld.1)
                       have HS1_ := (hb.cell (World.block_lt_of_cell? _ _ (hHeld.2.1))).trans (hHeld.2.1)
                       have HS2_ := (hb.cell (World.block_lt_of_cell? _ _ (hHeld.2.2))).trans (hHeld.2.2)
                       refine ⟨_, rfl, ?_⟩
                       have n0_ := Aside0.mk (Kd.R_below z18_ hb)
                       have n1_ := Aside0.mk (Kd.R_below z19_ hb)
                       have n2_ := Aside0.mk (below_step z7_ hb)
                       clear HO_4
                       clear HO_7
                       clear HB
                       have HO_4 := n0_
                       have HO_7 := n1_
                       have HB := n2_
                       clear n0_ n1_ n2_
                       (try clear hb)
                       (try clear hb2)
                       (try clear hk)
                       (try clear hi)
                       refine hK.out _ _ ⟨HS0_, HS1_, HS2_⟩ (fun hHeld => ?_)
                       clear hK K
                       refine norm_ (a' := ?_) ?_ ?_
                       rotate_left
                       · show Act.put _ (some 65) _ = _
                         simp only [Act.put, List.setIfInBounds_toArray, List.set_cons_zero, List.set_cons_succ, i64_w, i32_w]
                         rfl
                       refine pure_ (i := 6) (N := some 67) (v := ?_) (a' := ?_) #[true, true, true, true, true, true, true, false, false, false, false, false, false, false, false, false, false, false, false, false, false, false, false, false] rfl rfl (any_of HT_.out (by kernel_rfl)) (fun _ _ _ h => h) (Or.inl ⟨by rfl, ?_⟩) ?_ ?_
                       rotate_left
                       · intro w'
                         go_simp
                         with_reducible rfl
                       rotate_left
                       · simp only [Act.put, List.setIfInBounds_toArray, List.set_cons_zero, List.set_cons_succ, i64_w, i32_w]
                         rfl
                       refine pure_ (i := 7) (N := some 68) (v := ?_) (a' := ?_) #[true, true, true, true, true, true, true, true, false, false, false, false, false, false, false, false, false, false, false, false, false, false, false, false] rfl rfl (any_of HT_.out (by kernel_rfl)) (fun _ _ _ h => h) (Or.inl ⟨by rfl, ?_⟩) ?_ ?_
                       rotate_left
                       · intro w'
                         go_simp
                         with_reducible rfl
                       rotate_left
                       · simp only [Act.put, List.setIfInBounds_toArray, List.set_cons_zero, List.set_cons_succ, i64_w, i32_w]
                         rfl
                       refine pure_ (i := 8) (N := some 69) (v := ?_) (a' := ?_) #[true, true, true, true, true, true, true, true, true, false, false, false, false, false, false, false, false, false, false, false, false, false, false, false] rfl rfl (any_of HT_.out (by kernel_rfl)) (fun _ _ _ h => h) (Or.inl ⟨by rfl, ?_⟩) ?_ ?_
                       rotate_left
                       · intro w'
                         go_simp
                         with_reducible rfl
                       rotate_left
                       · simp only [Act.put, List.setIfInBounds_toArray, List.set_cons_zero, List.set_cons_succ, i64_w, i32_w]
                         rfl
                       refine pure_ (i := 9) (N := some 70) (v := ?_) (a' := ?_) #[true, true, true, true, true, true, true, true, true, true, false, false, false, false, false, false, false, false, false, false, false, false, false, false] rfl rfl (any_of HT_.out (by kernel_rfl)) (fun _ _ _ h => h) (Or.inl ⟨by rfl, ?_⟩) ?_ ?_
                       rotate_left
                       · intro w'
                         go_simp
                         with_reducible rfl
                       rotate_left
                       · simp only [Act.put, List.setIfInBounds_toArray, List.set_cons_zero, List.set_cons_succ, i64_w, i32_w]
                         rfl
                       refine pure_ (i := 10) (N := some 71) (v := ?_) (a' := ?_) #[true, true, true, true, true, true, true, true, true, true, true, false, false, false, false, false, false, false, false, false, false, false, false, false] rfl rfl (any_of HT_.out (by kernel_rfl)) (fun _ _ _ h => h) (Or.inl ⟨by rfl, ?_⟩) ?_ ?_
                       rotate_left
                       · intro w'
                         go_simp
                         with_reducible rfl
                       rotate_left
                       · simp only [Act.put, List.setIfInBounds_toArray, List.set_cons_zero, List.set_cons_succ, i64_w, i32_w]
                         rfl
                       refine pure_ (i := 13) (N := some 74) (v := ?_) (a' := ?_) #[true, true, true, true, true, true, true, true, true, true, true, false, false, true, false, false, false, false, false, false, false, false, false, false] rfl rfl (any_of HT_.out (by kernel_rfl)) (fun _ _ _ h => h) (Or.inl ⟨by rfl, ?_⟩) ?_ ?_
                       rotate_left
                       · intro w'
                         go_simp
                         with_reducible rfl
                       rotate_left
                       · simp only [Act.put, List.setIfInBounds_toArray, List.set_cons_zero, List.set_cons_succ, i64_w, i32_w]
                         rfl
                       refine pure_ (i := 15) (N := some 76) (v := ?_) (a' := ?_) #[true, true, true, true, true, true, true, true, true, true, true, false, false, true, false, true, false, false, false, false, false, false, false, false] rfl rfl (any_of HT_.out (by kernel_rfl)) (fun _ _ _ h => h) (Or.inl ⟨by rfl, ?_⟩) ?_ ?_
                       rotate_left
                       · intro w'
                         go_simp
                         with_reducible rfl
                       rotate_left
                       · simp only [Act.put, List.setIfInBounds_toArray, List.set_cons_zero, List.set_cons_succ, i64_w, i32_w]
                         rfl
                       refine pure_ (i := 16) (N := some 77) (v := ?_) (a' := ?_) #[true, true, true, true, true, true, true, true, true, true, true, false, false, true, false, true, true, false, false, false, false, false, false, false] rfl rfl (any_of HT_.out (by kernel_rfl)) (fun _ _ _ h => h) (Or.inl ⟨by rfl, ?_⟩) ?_ ?_
                       rotate_left
                       · intro w'
                         go_simp
                         with_reducible rfl
                       rotate_left
                       · simp only [Act.put, List.setIfInBounds_toArray, List.set_cons_zero, List.set_cons_succ, i64_w, i32_w]
                         rfl
                       refine pure_ (i := 17) (N := some 78) (v := ?_) (a' := ?_) #[true, true, true, true, true, true, true, true, true, true, true, false, false, true, false, true, true, true, false, false, false, false, false, false] rfl rfl (any_of HT_.out (by kernel_rfl)) (fun _ _ _ h => h) (Or.inl ⟨by rfl, ?_⟩) ?_ ?_
                       rotate_left
                       · intro w'
                         go_simp
                         with_reducible rfl
                       rotate_left
                       · simp only [Act.put, List.setIfInBounds_toArray, List.set_cons_zero, List.set_cons_succ, i64_w, i32_w]
                         rfl
                       refine pure_ (i := 20) (N := some 81) (v := ?_) (a' := ?_) #[true, true, true, true, true, true, true, true, true, true, true, false, false, true, false, true, true, true, false, false, true, false, false, false] rfl rfl (any_of HT_.out (by kernel_rfl)) (fun _ _ _ h => h) (Or.inl ⟨by rfl, ?_⟩) ?_ ?_
                       rotate_left
                       · intro w'
                         go_simp
                         with_reducible rfl
                       rotate_left
                       · simp only [Act.put, List.setIfInBounds_toArray, List.set_cons_zero, List.set_cons_succ, i64_w, i32_w]
                         rfl
                       refine take_ (i := 11) (N := some 72) (v := ?_) (a' := ?_) #[true, true, true, true, true, true, true, true, true, true, true, true, false, true, false, true, true, true, false, false, true, false, false, false] rfl rfl (take_ofW HT_.out HW_.out (by kernel_rfl)) (fun _ _ _ h => h) (Or.inl ⟨by rfl, ?_⟩) hHeld ?_ ?_
                       rotate_left
                       · rintro w' ⟨s0, s1, s2⟩
                         go_simp
                         with_reducible rfl
                       rotate_left
                       · simp only [Act.put, List.setIfInBounds_toArray, List.set_cons_zero, List.set_cons_succ, i64_w, i32_w]
                         rfl
                       refine take_ (i := 18) (N := some 79) (v := ?_) (a' := ?_) #[true, true, true, true, true, true, true, true, true, true, true, true, false, true, false, true, true, true, true, false, true, false, false, false] rfl rfl (take_ofW HT_.out HW_.out (by kernel_rfl)) (fun _ _ _ h => h) (Or.inl ⟨by rfl, ?_⟩) hHeld ?_ ?_
                       rotate_left
                       · rintro w' ⟨s0, s1, s2⟩
                         go_simp
                         with_reducible rfl
                       rotate_left
                       · simp only [Act.put, List.setIfInBounds_toArray, List.set_cons_zero, List.set_cons_succ, i64_w, i32_w]
                         rfl
                       refine one_ (i := 12) (N := some 73) #[true, true, true, true, true, true, true, true, true, true, true, true, true, true, false, true, true, true, true, false, true, false, false, false] rfl rfl (one_of HT_.out (by kernel_rfl)) (by decide) (fun K hK => ?_)
                       refine goes_ Try.func23 (by kernel_rfl) rfl #[.int .i64 (rd t415 x11_2)] (by rfl) rfl rfl z5_ ?_
                       with_reducible refine (laws_sizeOf.calls (rd t415 x11_2) t432 _ A31.out).mono ?_
                       rintro e w37 ⟨rfl, hb⟩
                       have HS0_ := (hb.cell (World.block_lt_of_cell? _ _ (hHeld.1))).trans (hHeld.1)
                       have HS1_ := (hb.cell (World.block_lt_of_cell? _ _ (hHeld.2.1))).trans (hHeld.2.1)
                       have HS2_ := (hb.cell (World.block_lt_of_cell? _ _ (hHeld.2.2))).trans (hHeld.2.2)
                       refine ⟨_, rfl, ?_⟩
                       have n0_ := Aside0.mk (Kd.R_below z18_ hb)
                       have n1_ := Aside0.mk (Kd.R_below z19_ hb)
                       have n2_ := Aside0.mk (below_step z7_ hb)
                       clear HO_4
                       clear HO_7
                       clear HB
                       have HO_4 := n0_
                       have HO_7 := n1_
                       have HB := n2_
                       clear n0_ n1_ n2_
                       (try clear hb)
                       (try clear hb2)
                       (try clear hk)
                       (try clear hi)
                       refine hK.out _ _ ⟨HS0_, HS1_, HS2_⟩ (fun hHeld => ?_)
                       clear hK K
                       refine norm_ (a' := ?_) ?_ ?_
                       rotate_left
                       · show Act.put _ (some 73) _ = _
                         simp only [Act.put, List.setIfInBounds_toArray, List.set_cons_zero, List.set_cons_succ, i64_w, i32_w]
                         rfl
                       refine pure_ (i := 14) (N := some 75) (v := ?_) (a' := ?_) #[true, true, true, true, true, true, true, true, true, true, true, true, true, true, true, true, true, true, true, false, true, false, false, false] rfl rfl (any_of HT_.out (by kernel_rfl)) (fun _ _ _ h => h) (Or.inl ⟨by rfl, ?_⟩) ?_ ?_
                       rotate_left
                       · intro w'
                         go_simp
                         with_reducible rfl
                       rotate_left
                       · simp only [Act.put, List.setIfInBounds_toArray, List.set_cons_zero, List.set_cons_succ, i64_w, i32_w]
                         rfl
                       refine one_ (i := 19) (N := some 80) #[true, true, true, true, true, true, true, true, true, true, true, true, true, true, true, true, true, true, true, true, true, false, false, false] rfl rfl (one_of HT_.out (by kernel_rfl)) (by decide) (fun K hK => ?_)
                       refine goes_ Try.func23 (by kernel_rfl) rfl #[.int .i64 (rd t422 x11_2)] (by rfl) rfl rfl z5_ ?_
                       with_reducible refine (laws_sizeOf.calls (rd t422 x11_2) t434 _ A33.out).mono ?_
                       rintro e w38 ⟨rfl, hb⟩
                       have HS0_ := (hb.cell (World.block_lt_of_cell? _ _ (hHeld.1))).trans (hHeld.1)
                       have HS1_ := (hb.cell (World.block_lt_of_cell? _ _ (hHeld.2.1))).trans (hHeld.2.1)
                       have HS2_ := (hb.cell (World.block_lt_of_cell? _ _ (hHeld.2.2))).trans (hHeld.2.2)
                       refine ⟨_, rfl, ?_⟩
                       have n0_ := Aside0.mk (Kd.R_below z18_ hb)
                       have n1_ := Aside0.mk (Kd.R_below z19_ hb)
                       have n2_ := Aside0.mk (below_step z7_ hb)
                       clear HO_4
                       clear HO_7
                       clear HB
                       have HO_4 := n0_
                       have HO_7 := n1_
                       have HB := n2_
                       clear n0_ n1_ n2_
                       (try clear hb)
                       (try clear hb2)
                       (try clear hk)
                       (try clear hi)
                       refine hK.out _ _ ⟨HS0_, HS1_, HS2_⟩ (fun hHeld => ?_)
                       clear hK K
                       refine norm_ (a' := ?_) ?_ ?_
                       rotate_left
                       · show Act.put _ (some 80) _ = _
                         simp only [Act.put, List.setIfInBounds_toArray, List.set_cons_zero, List.set_cons_succ, i64_w, i32_w]
                         rfl
                       refine pure_ (i := 21) (N := some 82) (v := ?_) (a' := ?_) #[true, true, true, true, true, true, true, true, true, true, true, true, true, true, true, true, true, true, true, true, true, true, false, false] rfl rfl (any_of HT_.out (by kernel_rfl)) (fun _ _ _ h => h) (Or.inl ⟨by rfl, ?_⟩) ?_ ?_
                       rotate_left
                       · intro w'
                         go_simp
                         with_reducible rfl
                       rotate_left
                       · simp only [Act.put, List.setIfInBounds_toArray, List.set_cons_zero, List.set_cons_succ, i64_w, i32_w]
                         rfl
                       refine pure_ (i := 22) (N := some 83) (v := ?_) (a' := ?_) #[true, true, true, true, true, true, true, true, true, true, true, true, true, true, true, true, true, true, true, true, true, true, true, false] rfl rfl (any_of HT_.out (by kernel_rfl)) (fun _ _ _ h => h) (Or.inl ⟨by rfl, ?_⟩) ?_ ?_
                       rotate_left
                       · intro w'
                         go_simp
                         with_reducible rfl
                       rotate_left
                       · simp only [Act.put, List.setIfInBounds_toArray, List.set_cons_zero, List.set_cons_succ, i64_w, i32_w]
                         rfl
                       refine pure_ (i := 23) (N := some 84) (v := ?_) (a' := ?_) #[true, true, true, true, true, true, true, true, true, true, true, true, true, true, true, true, true, true, true, true, true, true, true, true] rfl rfl (any_of HT_.out (by kernel_rfl)) (fun _ _ _ h => h) (Or.inl ⟨by rfl, ?_⟩) ?_ ?_
                       rotate_left
                       · intro w'
                         go_simp
                         with_reducible rfl
                       rotate_left
                       · simp only [Act.put, List.setIfInBounds_toArray, List.set_cons_zero, List.set_cons_succ, i64_w, i32_w]
                         rfl
                       refine done_ (done_of HT_.out (by kernel_rfl)) ?_
                       try go_wp2
                       go_roundg kj19
                       case measure => have := HJ5.out; have := HK2.out; have := HJ19.out; omega
                       case rel => exact ⟨(x10_19), (wrap64 (x11_2 + 1)), z23_, z23_, H', ⟨by have := HJ5.out; have := HK2.out; have := HJ19.out; omega⟩, ⟨z18_⟩, ⟨z19_⟩, ⟨z7_⟩⟩
                     · rw [if_neg c34] at H
                       have c34b0 : ((wrap64 (t432 * t426)) == (wrap64 (t434 * t420))) = false := beq_eq_false_iff_ne.mpr c34
                       have c34b1 : ((wrap64 (t432 * t426)) != (wrap64 (t434 * t420))) = true := bne_iff_ne.mpr c34
                       obtain rfl := Option.some.inj H
                       try go_wp2
                       have n0_ := Aside0.mk (Kd.R_drew HO_4.out)
                       have n1_ := Aside0.mk (Kd.R_drew HO_7.out)
                       have n2_ := Aside0.mk (below_drew1 HB.out)
                       clear HO_4
                       clear HO_7
                       clear HB
                       have HO_4 := n0_
                       have HO_7 := n1_
                       have HB := n2_
                       clear n0_ n1_ n2_
                       have p429 : 0 ≤ (x11_2 : Int) := of_decide_eq_true z22_
                       have q429 : x11_2 < (t415.length : Int) := of_decide_eq_true z22_
                       obtain ⟨ad429, e429, hx429_0⟩ := Kd.at_int (Kd.R_reads' HO_4.out).2.2 x11_2 p429 q429
                       cases e429
                       replace p429 := eq_true p429
                       replace q429 := eq_true q429
                       have p431 : 0 ≤ (x11_2 : Int) := of_decide_eq_true z22_
                       have q431 : x11_2 < (t415.length : Int) := of_decide_eq_true z22_
                       obtain ⟨ad431, e431, hx431_0⟩ := Kd.at_int (Kd.R_reads' HO_4.out).2.2 x11_2 p431 q431
                       obtain rfl : ad429 = ad431 := (by injection e431)
                       replace p431 := eq_true p431
                       replace q431 := eq_true q431
                       have p433 : 0 ≤ (x11_2 : Int) := of_decide_eq_true z22_
                       have q433 : x11_2 < (t422.length : Int) := of_decide_eq_true z22_
                       obtain ⟨ad433, e433, hx433_0⟩ := Kd.at_int (Kd.R_reads' HO_7.out).2.2 x11_2 p433 q433
                       cases e433
                       replace p433 := eq_true p433
                       replace q433 := eq_true q433
                       refine start_ (n := 24) (S := fun w' => w'.cell? (ad429.add (x11_2).toNat) = some (.int .i64 (rd t415 x11_2)) ∧ w'.cell? (ad429.add (x11_2).toNat) = some (.int .i64 (rd t415 x11_2)) ∧ w'.cell? (ad433.add (x11_2).toNat) = some (.int .i64 (rd t422 x11_2))) (ds := []) #[false, false, false, false, false, false, false, false, false, false, false, false, false, false, false, false, false, false, false, false, false, false, false, false] (by kernel_rfl) rfl rfl ⟨hx429_0, hx431_0, hx433_0⟩ (fun hHeld => ?_); refine with_tabW laws_FnHeight.tab15 laws_FnHeight.bits15 (fun HT_ HW_ => ?_)
                       generalize wc.drew = w39 at HO_4 HO_7 HB hx429_0 hx431_0 hx433_0 hHeld ⊢
                       refine pure_ (i := 0) (N := some 61) (v := ?_) (a' := ?_) #[true, false, false, false, false, false, false, false, false, false, false, false, false, false, false, false, false, false, false, false, false, false, false, false] rfl rfl (any_of HT_.out (by kernel_rfl)) (fun _ _ _ h => h) (Or.inl ⟨by rfl, ?_⟩) ?_ ?_
                       rotate_left
                       · intro w'
                         go_simp
                         with_reducible rfl
                       rotate_left
                       · simp only [Act.put, List.setIfInBounds_toArray, List.set_cons_zero, List.set_cons_succ, i64_w, i32_w]
                         rfl
                       refine pure_ (i := 1) (N := some 62) (v := ?_) (a' := ?_) #[true, true, false, false, false, false, false, false, false, false, false, false, false, false, false, false, false, false, false, false, false, false, false, false] rfl rfl (any_of HT_.out (by kernel_rfl)) (fun _ _ _ h => h) (Or.inl ⟨by rfl, ?_⟩) ?_ ?_
                       rotate_left
                       · intro w'
                         go_simp
                         with_reducible rfl
                       rotate_left
                       · simp only [Act.put, List.setIfInBounds_toArray, List.set_cons_zero, List.set_cons_succ, i64_w, i32_w]
                         rfl
                       refine pure_ (i := 2) (N := some 63) (v := ?_) (a' := ?_) #[true, true, true, false, false, false, false, false, false, false, false, false, false, false, false, false, false, false, false, false, false, false, false, false] rfl rfl (any_of HT_.out (by kernel_rfl)) (fun _ _ _ h => h) (Or.inl ⟨by rfl, ?_⟩) ?_ ?_
                       rotate_left
                       · intro w'
                         go_simp
                         with_reducible rfl
                       rotate_left
                       · simp only [Act.put, List.setIfInBounds_toArray, List.set_cons_zero, List.set_cons_succ, i64_w, i32_w]
                         rfl
                       refine pure_ (i := 5) (N := some 66) (v := ?_) (a' := ?_) #[true, true, true, false, false, true, false, false, false, false, false, false, false, false, false, false, false, false, false, false, false, false, false, false] rfl rfl (any_of HT_.out (by kernel_rfl)) (fun _ _ _ h => h) (Or.inl ⟨by rfl, ?_⟩) ?_ ?_
                       rotate_left
                       · intro w'
                         go_simp
                         with_reducible rfl
                       rotate_left
                       · simp only [Act.put, List.setIfInBounds_toArray, List.set_cons_zero, List.set_cons_succ, i64_w, i32_w]
                         rfl
                       refine take_ (i := 3) (N := some 64) (v := ?_) (a' := ?_) #[true, true, true, true, false, true, false, false, false, false, false, false, false, false, false, false, false, false, false, false, false, false, false, false] rfl rfl (take_ofW HT_.out HW_.out (by kernel_rfl)) (fun _ _ _ h => h) (Or.inl ⟨by rfl, ?_⟩) hHeld ?_ ?_
                       rotate_left
                       · rintro w' ⟨s0, s1, s2⟩
                         go_simp
                         with_reducible rfl
                       rotate_left
                       · simp only [Act.put, List.setIfInBounds_toArray, List.set_cons_zero, List.set_cons_succ, i64_w, i32_w]
                         rfl
                       refine one_ (i := 4) (N := some 65) #[true, true, true, true, true, true, false, false, false, false, false, false, false, false, false, false, false, false, false, false, false, false, false, false] rfl rfl (one_of HT_.out (by kernel_rfl)) (by decide) (fun K hK => ?_)
                       refine goes_ Try.func23 (by kernel_rfl) rfl #[.int .i64 (rd t415 x11_2)] (by rfl) rfl rfl z5_ ?_
                       with_reducible refine (laws_sizeOf.calls (rd t415 x11_2) t430 _ A27.out).mono ?_
                       rintro e w40 ⟨rfl, hb⟩
                       have HS0_ := (hb.cell (World.block_lt_of_cell? _ _ (hHeld.1))).trans (hHeld.1)
                       have HS1_ := (hb.cell (World.block_lt_of_cell? _ _ (hHeld.2.1))).trans (hHeld.2.1)
                       have HS2_ := (hb.cell (World.block_lt_of_cell? _ _ (hHeld.2.2))).trans (hHeld.2.2)
                       refine ⟨_, rfl, ?_⟩
                       have n0_ := Aside0.mk (Kd.R_below z18_ hb)
                       have n1_ := Aside0.mk (Kd.R_below z19_ hb)
                       have n2_ := Aside0.mk (below_step z7_ hb)
                       clear HO_4
                       clear HO_7
                       clear HB
                       have HO_4 := n0_
                       have HO_7 := n1_
                       have HB := n2_
                       clear n0_ n1_ n2_
                       (try clear hb)
                       (try clear hb2)
                       (try clear hk)
                       (try clear hi)
                       refine hK.out _ _ ⟨HS0_, HS1_, HS2_⟩ (fun hHeld => ?_)
                       clear hK K
                       refine norm_ (a' := ?_) ?_ ?_
                       rotate_left
                       · show Act.put _ (some 65) _ = _
                         simp only [Act.put, List.setIfInBounds_toArray, List.set_cons_zero, List.set_cons_succ, i64_w, i32_w]
                         rfl
                       refine pure_ (i := 6) (N := some 67) (v := ?_) (a' := ?_) #[true, true, true, true, true, true, true, false, false, false, false, false, false, false, false, false, false, false, false, false, false, false, false, false] rfl rfl (any_of HT_.out (by kernel_rfl)) (fun _ _ _ h => h) (Or.inl ⟨by rfl, ?_⟩) ?_ ?_
                       rotate_left
                       · intro w'
                         go_simp
                         with_reducible rfl
                       rotate_left
                       · simp only [Act.put, List.setIfInBounds_toArray, List.set_cons_zero, List.set_cons_succ, i64_w, i32_w]
                         rfl
                       refine pure_ (i := 7) (N := some 68) (v := ?_) (a' := ?_) #[true, true, true, true, true, true, true, true, false, false, false, false, false, false, false, false, false, false, false, false, false, false, false, false] rfl rfl (any_of HT_.out (by kernel_rfl)) (fun _ _ _ h => h) (Or.inl ⟨by rfl, ?_⟩) ?_ ?_
                       rotate_left
                       · intro w'
                         go_simp
                         with_reducible rfl
                       rotate_left
                       · simp only [Act.put, List.setIfInBounds_toArray, List.set_cons_zero, List.set_cons_succ, i64_w, i32_w]
                         rfl
                       refine pure_ (i := 8) (N := some 69) (v := ?_) (a' := ?_) #[true, true, true, true, true, true, true, true, true, false, false, false, false, false, false, false, false, false, false, false, false, false, false, false] rfl rfl (any_of HT_.out (by kernel_rfl)) (fun _ _ _ h => h) (Or.inl ⟨by rfl, ?_⟩) ?_ ?_
                       rotate_left
                       · intro w'
                         go_simp
                         with_reducible rfl
                       rotate_left
                       · simp only [Act.put, List.setIfInBounds_toArray, List.set_cons_zero, List.set_cons_succ, i64_w, i32_w]
                         rfl
                       refine pure_ (i := 9) (N := some 70) (v := ?_) (a' := ?_) #[true, true, true, true, true, true, true, true, true, true, false, false, false, false, false, false, false, false, false, false, false, false, false, false] rfl rfl (any_of HT_.out (by kernel_rfl)) (fun _ _ _ h => h) (Or.inl ⟨by rfl, ?_⟩) ?_ ?_
                       rotate_left
                       · intro w'
                         go_simp
                         with_reducible rfl
                       rotate_left
                       · simp only [Act.put, List.setIfInBounds_toArray, List.set_cons_zero, List.set_cons_succ, i64_w, i32_w]
                         rfl
                       refine pure_ (i := 10) (N := some 71) (v := ?_) (a' := ?_) #[true, true, true, true, true, true, true, true, true, true, true, false, false, false, false, false, false, false, false, false, false, false, false, false] rfl rfl (any_of HT_.out (by kernel_rfl)) (fun _ _ _ h => h) (Or.inl ⟨by rfl, ?_⟩) ?_ ?_
                       rotate_left
                       · intro w'
                         go_simp
                         with_reducible rfl
                       rotate_left
                       · simp only [Act.put, List.setIfInBounds_toArray, List.set_cons_zero, List.set_cons_succ, i64_w, i32_w]
                         rfl
                       refine pure_ (i := 13) (N := some 74) (v := ?_) (a' := ?_) #[true, true, true, true, true, true, true, true, true, true, true, false, false, true, false, false, false, false, false, false, false, false, false, false] rfl rfl (any_of HT_.out (by kernel_rfl)) (fun _ _ _ h => h) (Or.inl ⟨by rfl, ?_⟩) ?_ ?_
                       rotate_left
                       · intro w'
                         go_simp
                         with_reducible rfl
                       rotate_left
                       · simp only [Act.put, List.setIfInBounds_toArray, List.set_cons_zero, List.set_cons_succ, i64_w, i32_w]
                         rfl
                       refine pure_ (i := 15) (N := some 76) (v := ?_) (a' := ?_) #[true, true, true, true, true, true, true, true, true, true, true, false, false, true, false, true, false, false, false, false, false, false, false, false] rfl rfl (any_of HT_.out (by kernel_rfl)) (fun _ _ _ h => h) (Or.inl ⟨by rfl, ?_⟩) ?_ ?_
                       rotate_left
                       · intro w'
                         go_simp
                         with_reducible rfl
                       rotate_left
                       · simp only [Act.put, List.setIfInBounds_toArray, List.set_cons_zero, List.set_cons_succ, i64_w, i32_w]
                         rfl
                       refine pure_ (i := 16) (N := some 77) (v := ?_) (a' := ?_) #[true, true, true, true, true, true, true, true, true, true, true, false, false, true, false, true, true, false, false, false, false, false, false, false] rfl rfl (any_of HT_.out (by kernel_rfl)) (fun _ _ _ h => h) (Or.inl ⟨by rfl, ?_⟩) ?_ ?_
                       rotate_left
                       · intro w'
                         go_simp
                         with_reducible rfl
                       rotate_left
                       · simp only [Act.put, List.setIfInBounds_toArray, List.set_cons_zero, List.set_cons_succ, i64_w, i32_w]
                         rfl
                       refine pure_ (i := 17) (N := some 78) (v := ?_) (a' := ?_) #[true, true, true, true, true, true, true, true, true, true, true, false, false, true, false, true, true, true, false, false, false, false, false, false] rfl rfl (any_of HT_.out (by kernel_rfl)) (fun _ _ _ h => h) (Or.inl ⟨by rfl, ?_⟩) ?_ ?_
                       rotate_left
                       · intro w'
                         go_simp
                         with_reducible rfl
                       rotate_left
                       · simp only [Act.put, List.setIfInBounds_toArray, List.set_cons_zero, List.set_cons_succ, i64_w, i32_w]
                         rfl
                       refine pure_ (i := 20) (N := some 81) (v := ?_) (a' := ?_) #[true, true, true, true, true, true, true, true, true, true, true, false, false, true, false, true, true, true, false, false, true, false, false, false] rfl rfl (any_of HT_.out (by kernel_rfl)) (fun _ _ _ h => h) (Or.inl ⟨by rfl, ?_⟩) ?_ ?_
                       rotate_left
                       · intro w'
                         go_simp
                         with_reducible rfl
                       rotate_left
                       · simp only [Act.put, List.setIfInBounds_toArray, List.set_cons_zero, List.set_cons_succ, i64_w, i32_w]
                         rfl
                       refine take_ (i := 11) (N := some 72) (v := ?_) (a' := ?_) #[true, true, true, true, true, true, true, true, true, true, true, true, false, true, false, true, true, true, false, false, true, false, false, false] rfl rfl (take_ofW HT_.out HW_.out (by kernel_rfl)) (fun _ _ _ h => h) (Or.inl ⟨by rfl, ?_⟩) hHeld ?_ ?_
                       rotate_left
                       · rintro w' ⟨s0, s1, s2⟩
                         go_simp
                         with_reducible rfl
                       rotate_left
                       · simp only [Act.put, List.setIfInBounds_toArray, List.set_cons_zero, List.set_cons_succ, i64_w, i32_w]
                         rfl
                       refine take_ (i := 18) (N := some 79) (v := ?_) (a' := ?_) #[true, true, true, true, true, true, true, true, true, true, true, true, false, true, false, true, true, true, true, false, true, false, false, false] rfl rfl (take_ofW HT_.out HW_.out (by kernel_rfl)) (fun _ _ _ h => h) (Or.inl ⟨by rfl, ?_⟩) hHeld ?_ ?_
                       rotate_left
                       · rintro w' ⟨s0, s1, s2⟩
                         go_simp
                         with_reducible rfl
                       rotate_left
                       · simp only [Act.put, List.setIfInBounds_toArray, List.set_cons_zero, List.set_cons_succ, i64_w, i32_w]
                         rfl
                       refine one_ (i := 12) (N := some 73) #[true, true, true, true, true, true, true, true, true, true, true, true, true, true, false, true, true, true, true, false, true, false, false, false] rfl rfl (one_of HT_.out (by kernel_rfl)) (by decide) (fun K hK => ?_)
                       refine goes_ Try.func23 (by kernel_rfl) rfl #[.int .i64 (rd t415 x11_2)] (by rfl) rfl rfl z5_ ?_
                       with_reducible refine (laws_sizeOf.calls (rd t415 x11_2) t432 _ A31.out).mono ?_
                       rintro e w41 ⟨rfl, hb⟩
                       have HS0_ := (hb.cell (World.block_lt_of_cell? _ _ (hHeld.1))).trans (hHeld.1)
                       have HS1_ := (hb.cell (World.block_lt_of_cell? _ _ (hHeld.2.1))).trans (hHeld.2.1)
                       have HS2_ := (hb.cell (World.block_lt_of_cell? _ _ (hHeld.2.2))).trans (hHeld.2.2)
                       refine ⟨_, rfl, ?_⟩
                       have n0_ := Aside0.mk (Kd.R_below z18_ hb)
                       have n1_ := Aside0.mk (Kd.R_below z19_ hb)
                       have n2_ := Aside0.mk (below_step z7_ hb)
                       clear HO_4
                       clear HO_7
                       clear HB
                       have HO_4 := n0_
                       have HO_7 := n1_
                       have HB := n2_
                       clear n0_ n1_ n2_
                       (try clear hb)
                       (try clear hb2)
                       (try clear hk)
                       (try clear hi)
                       refine hK.out _ _ ⟨HS0_, HS1_, HS2_⟩ (fun hHeld => ?_)
                       clear hK K
                       refine norm_ (a' := ?_) ?_ ?_
                       rotate_left
                       · show Act.put _ (some 73) _ = _
                         simp only [Act.put, List.setIfInBounds_toArray, List.set_cons_zero, List.set_cons_succ, i64_w, i32_w]
                         rfl
                       refine pure_ (i := 14) (N := some 75) (v := ?_) (a' := ?_) #[true, true, true, true, true, true, true, true, true, true, true, true, true, true, true, true, true, true, true, false, true, false, false, false] rfl rfl (any_of HT_.out (by kernel_rfl)) (fun _ _ _ h => h) (Or.inl ⟨by rfl, ?_⟩) ?_ ?_
                       rotate_left
                       · intro w'
                         go_simp
                         with_reducible rfl
                       rotate_left
                       · simp only [Act.put, List.setIfInBounds_toArray, List.set_cons_zero, List.set_cons_succ, i64_w, i32_w]
                         rfl
                       refine one_ (i := 19) (N := some 80) #[true, true, true, true, true, true, true, true, true, true, true, true, true, true, true, true, true, true, true, true, true, false, false, false] rfl rfl (one_of HT_.out (by kernel_rfl)) (by decide) (fun K hK => ?_)
                       refine goes_ Try.func23 (by kernel_rfl) rfl #[.int .i64 (rd t422 x11_2)] (by rfl) rfl rfl z5_ ?_
                       with_reducible refine (laws_sizeOf.calls (rd t422 x11_2) t434 _ A33.out).mono ?_
                       rintro e w42 ⟨rfl, hb⟩
                       have HS0_ := (hb.cell (World.block_lt_of_cell? _ _ (hHeld.1))).trans (hHeld.1)
                       have HS1_ := (hb.cell (World.block_lt_of_cell? _ _ (hHeld.2.1))).trans (hHeld.2.1)
                       have HS2_ := (hb.cell (World.block_lt_of_cell? _ _ (hHeld.2.2))).trans (hHeld.2.2)
                       refine ⟨_, rfl, ?_⟩
                       have n0_ := Aside0.mk (Kd.R_below z18_ hb)
                       have n1_ := Aside0.mk (Kd.R_below z19_ hb)
                       have n2_ := Aside0.mk (below_step z7_ hb)
                       clear HO_4
                       clear HO_7
                       clear HB
                       have HO_4 := n0_
                       have HO_7 := n1_
                       have HB := n2_
                       clear n0_ n1_ n2_
                       (try clear hb)
                       (try clear hb2)
                       (try clear hk)
                       (try clear hi)
                       refine hK.out _ _ ⟨HS0_, HS1_, HS2_⟩ (fun hHeld => ?_)
                       clear hK K
                       refine norm_ (a' := ?_) ?_ ?_
                       rotate_left
                       · show Act.put _ (some 80) _ = _
                         simp only [Act.put, List.setIfInBounds_toArray, List.set_cons_zero, List.set_cons_succ, i64_w, i32_w]
                         rfl
                       refine pure_ (i := 21) (N := some 82) (v := ?_) (a' := ?_) #[true, true, true, true, true, true, true, true, true, true, true, true, true, true, true, true, true, true, true, true, true, true, false, false] rfl rfl (any_of HT_.out (by kernel_rfl)) (fun _ _ _ h => h) (Or.inl ⟨by rfl, ?_⟩) ?_ ?_
                       rotate_left
                       · intro w'
                         go_simp
                         with_reducible rfl
                       rotate_left
                       · simp only [Act.put, List.setIfInBounds_toArray, List.set_cons_zero, List.set_cons_succ, i64_w, i32_w]
                         rfl
                       refine pure_ (i := 22) (N := some 83) (v := ?_) (a' := ?_) #[true, true, true, true, true, true, true, true, true, true, true, true, true, true, true, true, true, true, true, true, true, true, true, false] rfl rfl (any_of HT_.out (by kernel_rfl)) (fun _ _ _ h => h) (Or.inl ⟨by rfl, ?_⟩) ?_ ?_
                       rotate_left
                       · intro w'
                         go_simp
                         with_reducible rfl
                       rotate_left
                       · simp only [Act.put, List.setIfInBounds_toArray, List.set_cons_zero, List.set_cons_succ, i64_w, i32_w]
                         rfl
                       refine pure_ (i := 23) (N := some 84) (v := ?_) (a' := ?_) #[true, true, true, true, true, true, true, true, true, true, true, true, true, true, true, true, true, true, true, true, true, true, true, true] rfl rfl (any_of HT_.out (by kernel_rfl)) (fun _ _ _ h => h) (Or.inl ⟨by rfl, ?_⟩) ?_ ?_
                       rotate_left
                       · intro w'
                         go_simp
                         with_reducible rfl
                       rotate_left
                       · simp only [Act.put, List.setIfInBounds_toArray, List.set_cons_zero, List.set_cons_succ, i64_w, i32_w]
                         rfl
                       refine done_ (done_of HT_.out (by kernel_rfl)) ?_
                       try go_wp2
                       go_ret
                       exact ⟨z20_, z7_⟩
                   · rw [if_neg c32] at H
                     exact absurd H (by simp)
               · rw [if_neg c26] at H
                 exact absurd H (by simp)
             · rw [if_neg c25] at H
               exact absurd H (by simp)
         · rw [if_neg c19] at H
           have c19b0 : decide (x11_2 < (t415.length : Int)) = false := decide_eq_false c19
           clear c19
           by_cases c43 : t423 = true
           · subst c43
             have H1 : (if x10_2 = true then (if t420 ≥ 1 then (if t426 = 0 then (none) else (some ((Int.tmod t420 t426) == 0))) else (some false)) else (some false)) = some r := by rw [if_pos rfl] at H; exact H
             clear H
             have H := H1
             clear H1
             by_cases c44 : x10_2 = true
             · subst c44
               have H1 : (if t420 ≥ 1 then (if t426 = 0 then (none) else (some ((Int.tmod t420 t426) == 0))) else (some false)) = some r := by rw [if_pos rfl] at H; exact H
               clear H
               have H := H1
               clear H1
               by_cases c45 : t420 ≥ 1
               · rw [if_pos c45] at H
                 have c45b0 : decide (1 ≤ t420) = true := decide_eq_true c45
                 clear c45
                 by_cases c46 : t426 = 0
                 · rw [if_pos c46] at H
                   exact absurd H (by simp)
                 · rw [if_neg c46] at H
                   have c46b0 : (t426 == 0) = false := beq_eq_false_iff_ne.mpr c46
                   have c46b1 : (t426 != 0) = true := bne_iff_ne.mpr c46
                   obtain rfl := Option.some.inj H
                   go_wp2
                   go_ret
                   exact ⟨z20_, z7_⟩
               · rw [if_neg c45] at H
                 have c45b0 : decide (1 ≤ t420) = false := decide_eq_false c45
                 clear c45
                 obtain rfl := Option.some.inj H
                 go_wp2
                 go_ret
                 exact ⟨z20_, z7_⟩
             · replace c44 := Bool.eq_false_iff.mpr c44
               subst c44
               have H1 : (some false) = some r := by rw [if_neg (show ¬ (false = true) by decide)] at H; exact H
               clear H
               have H := H1
               clear H1
               obtain rfl := Option.some.inj H
               go_wp2
               go_ret
               exact ⟨z20_, z7_⟩
           · replace c43 := Bool.eq_false_iff.mpr c43
             subst c43
             have H1 : (some false) = some r := by rw [if_neg (show ¬ (false = true) by decide)] at H; exact H
             clear H
             have H := H1
             clear H1
             obtain rfl := Option.some.inj H
             go_wp2
             go_ret
             exact ⟨z20_, z7_⟩

/-- THE ONE PURE STATEMENT of laws_FnHeight: yours. -/
def laws_FnHeight.Pure : Prop := ∀ (l0 : List Int), l0.length ≤ maxLen → l0.length * 1 ≤ 140737488351232 → (∀ x ∈ l0, (Lit.int .u8 x).wf = true) → ∃ k, laws_FnHeight.f k l0 = some true
theorem laws_FnHeight.walk (P : laws_FnHeight.Pure) (a0 : Option Addr) (len0 cap0 : Nat) (z0 : List Int) (w : World) (w0 : (a0 = none ∧ len0 = 0 ∧ cap0 = 0 ∧ z0 = []) ∨ ∃ x, a0 = some x ∧ len0 ≤ cap0 ∧ cap0 ≤ maxLen ∧ z0.length = cap0 ∧ (∀ i, i < z0.length → w.cell? (x.add i) = some (.int .u8 (z0.getD i 0))) ∧ ∀ n ∈ z0, (Lit.int .u8 n).wf = true) (y0 : len0 * 1 ≤ 140737488351232) :
 Calls Try.prog 10 #[.slice a0 len0 cap0] w fun e w' => e = .returned (.bool true) ∧ Below w.heap.size w w' := by
 obtain ⟨l0, rfl, hr0, hm0, hw0, hc0⟩ := ReadsInt.ofRowC w0
 obtain ⟨k, h⟩ := P l0 hm0 y0 hw0
 refine (laws_FnHeight.calls k _ _ l0 true w (Kd.C_of_reads (d := (0 : Int)) (h1 := fun _ => rfl) hr0) hc0 h).mono ?_
 rintro e w' ⟨rfl, hd⟩
 exact ⟨rfl, hd⟩

end Go.Proofs.Ytdeahlommlgceaa.PFnHeight

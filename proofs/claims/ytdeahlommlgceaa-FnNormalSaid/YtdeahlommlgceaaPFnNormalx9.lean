-- Written by a program of this repo (wip/gen/gen.py) over the kit's print.
-- (slim)
import Derived.Test.YtdeahlommlgceaaPFnNormalx0
import Derived.Test.YtdeahlommlgceaaPFnNormalx3
import Derived.Test.YtdeahlommlgceaaPFnNormalx8
import Derived.Test.YtdeahlommlgceaaSrt
namespace Go.Proofs.Ytdeahlommlgceaa.PFnNormal
open Go.RowKit Go.Proofs.YtdeahlommlgceaaW.PrintWords Go.Proofs.YtdeahlommlgceaaW.PrintLast Go.Proofs.YtdeahlommlgceaaW.PrintMore
attribute [local go_sem] max2_int min2_int max_two min_two max_three min_three max_four min_four   -- for this text's walks alone
set_option linter.unusedVariables false
set_option maxHeartbeats 8000000
set_option maxRecDepth 100000
set_option linter.unusedSimpArgs false

/-! ### impl_CoreOf: function 25 -/
def impl_CoreOf.f (k : Nat) (a0 : Int) : Option (Int × Int × Bool) := if a0 = 0 then (some (0, 0, false)) else ((impl_isNumber.f a0).bind fun t345 => (if t345 = true then ((impl_coreOf.f k a0).bind fun bt346 => (some (bt346.1, bt346.2, true))) else (some (0, 0, false))))
theorem impl_CoreOf.mono : ∀ a0 k, LeO (impl_CoreOf.f k a0) (impl_CoreOf.f (k + 1) a0) := by
 intro a0 k
 unfold impl_CoreOf.f
 exact mo_
theorem impl_CoreOf.calls (k : Nat) (a0 : Int) (r1 : Int) (r2 : Int) (r3 : Bool) (w : World) (h : impl_CoreOf.f k a0 = some (r1, r2, r3)) :
 Calls Try.prog 25 #[.int .i64 a0] w fun e w' => e = .returned (.tuple #[.int .i64 r1, .int .i64 r2, .bool r3]) ∧ Below w.heap.size w w' := by
 have HB := Aside0.mk (Below.refl w.heap.size w)
 have H := h
 clear h
 unfold impl_CoreOf.f at H
 by_cases c2 : a0 = 0
 · rw [if_pos c2] at H
   have c2b0 := beq_iff_eq.mpr c2
   have c2b1 := bne_eq_false_iff_eq.mpr c2
   clear c2
   simp only [Option.some.injEq, Prod.mk.injEq] at H
   obtain ⟨rfl, rfl, rfl⟩ := H
   go_enter Try.func25, Try.ntmps25
   go_wp2
   go_ret3
   exact ⟨z29_, z16_⟩
 rw [if_neg c2] at H
 have c2b0 := beq_eq_false_iff_ne.mpr c2
 have c2b1 := bne_iff_ne.mpr c2
 obtain ⟨t345, A3, H⟩ := bi_ H
 by_cases c4 : t345 = true
 · subst c4
   rw [it_] at H
   obtain ⟨⟨t346, t347⟩, A5, H⟩ := bi_ H
   try dsimp only at H
   simp only [Option.some.injEq, Prod.mk.injEq] at H
   obtain ⟨rfl, rfl, rfl⟩ := H
   go_enter Try.func25, Try.ntmps25
   go_wp2_with (first | (go_at_call 78; (with_reducible refine (impl_isNumber.calls a0 true _ A3.out).mono ?_); rintro e w' ⟨rfl, ⟨nd, rfl⟩⟩) | ((with_reducible refine gate_callee (f := 71) rfl ?_); refine goesL_ (some 16) rfl rfl Try.func71 (by kernel_rfl) rfl #[.int .i64 a0] rfl z14_ ?_; (with_reducible refine (impl_coreOf.calls k a0 t346 t347 _ A5.out).mono ?_); rintro e w6 ⟨rfl, hb⟩; refine ⟨_, rfl, ?_⟩; replace HB:= Aside0.mk (below_step z16_ hb); clear hb))
   go_ret3
   exact ⟨z29_, z16_⟩
 replace c4 := Bool.eq_false_iff.mpr c4
 subst c4
 rw [jt_] at H
 simp only [Option.some.injEq, Prod.mk.injEq] at H
 obtain ⟨rfl, rfl, rfl⟩ := H
 go_enter Try.func25, Try.ntmps25
 go_wp2_with (first | (go_at_call 78; (with_reducible refine (impl_isNumber.calls a0 false _ A3.out).mono ?_); rintro e w' ⟨rfl, ⟨nd, rfl⟩⟩))
 go_ret3
 exact ⟨z29_, z16_⟩

/-! ### impl_GcdOf: function 26 -/
def impl_GcdOf.f (k : Nat) (a0 : Int) (a1 : Int) : Option (Int) := (impl_isNumber.f a0).bind fun t348 => (if t348 = true then ((impl_isNumber.f a1).bind fun t349 => (if t349 = true then ((impl_gcd.f k (([a0, a1] : List Int))).bind fun t353 => (some t353)) else (some (-1)))) else (some (-1)))
theorem impl_GcdOf.mono : ∀ a0 a1 k, LeO (impl_GcdOf.f k a0 a1) (impl_GcdOf.f (k + 1) a0 a1) := by
 intro a0 a1 k
 unfold impl_GcdOf.f
 exact mo_
theorem impl_GcdOf.calls (k : Nat) (a0 : Int) (a1 : Int) (r : Int) (w : World) (h : impl_GcdOf.f k a0 a1 = some r) :
 Calls Try.prog 26 #[.int .i64 a0, .int .i64 a1] w fun e w' => e = .returned (.int .i64 r) ∧ Below w.heap.size w w' := by
 have HB := Aside0.mk (Below.refl w.heap.size w)
 have H := h
 clear h
 unfold impl_GcdOf.f at H
 obtain ⟨t348, A3, H⟩ := bi_ H
 by_cases c4 : t348 = true
 rotate_left
 · replace c4 := Bool.eq_false_iff.mpr c4
   subst c4
   rw [jt_] at H
   obtain rfl := Option.some.inj H
   go_enter Try.func26, Try.ntmps26
   go_wp2_with (first | ((with_reducible refine gate_callee (f := 78) rfl ?_); refine goesL_ (some 6) rfl rfl Try.func78 (by kernel_rfl) rfl #[.int .i64 a0] rfl z14_ ?_; (with_reducible refine (impl_isNumber.calls a0 false _ A3.out).mono ?_); rintro e w' ⟨rfl, ⟨nd, rfl⟩⟩; refine ⟨_, rfl, ?_⟩))
   go_ret
   exact ⟨z29_, z16_⟩
 subst c4
 rw [it_] at H
 obtain ⟨t349, A5, H⟩ := bi_ H
 by_cases c6 : t349 = true
 rotate_left
 · replace c6 := Bool.eq_false_iff.mpr c6
   subst c6
   rw [jt_] at H
   obtain rfl := Option.some.inj H
   go_enter Try.func26, Try.ntmps26
   go_wp2_with (first | ((with_reducible refine gate_callee (f := 78) rfl ?_); refine goesL_ (some 6) rfl rfl Try.func78 (by kernel_rfl) rfl #[.int .i64 a0] rfl z14_ ?_; (with_reducible refine (impl_isNumber.calls a0 true _ A3.out).mono ?_); rintro e w' ⟨rfl, ⟨nd, rfl⟩⟩; refine ⟨_, rfl, ?_⟩) | (go_at_call 78; (with_reducible refine (impl_isNumber.calls a1 false _ A5.out).mono ?_); rintro e w' ⟨rfl, ⟨nd, rfl⟩⟩))
   go_ret
   exact ⟨z29_, z16_⟩
 subst c6
 rw [it_] at H
 generalize h_ : (([a0, a1] : List Int)) = y350 at H
 have Ny350 := Aside0.mk h_.symm
 clear h_
 obtain ⟨t353, A7, H⟩ := bi_ H
 obtain rfl := Option.some.inj H
 go_enter Try.func26, Try.ntmps26
 go_wp2_with (first | ((with_reducible refine gate_callee (f := 78) rfl ?_); refine goesL_ (some 6) rfl rfl Try.func78 (by kernel_rfl) rfl #[.int .i64 a0] rfl z14_ ?_; (with_reducible refine (impl_isNumber.calls a0 true _ A3.out).mono ?_); rintro e w' ⟨rfl, ⟨nd, rfl⟩⟩; refine ⟨_, rfl, ?_⟩) | (go_at_call 78; (with_reducible refine (impl_isNumber.calls a1 true _ A5.out).mono ?_); rintro e w' ⟨rfl, ⟨nd, rfl⟩⟩) | ((with_reducible refine gate_dst (N := 15) rfl ?_); refine Kd.R_lit (Kd.int .i64) _ 3 ?hg (N := 15) ?hd (xs := ([a0, a1] : List Int)) (inner := [.int .i64 a0, .int .i64 a1]) (ok := fun _ => True) (okp := fun _ => True) ?hr ?hp (fun _ hk => hk) trivial (Below.refl _ _) (Nat.le_refl _) (by simp) ?_; (case hd => rfl); (case hg => rfl); (case hr => first | (go_simp; done) | (go_simp; rfl)); (case hp => exact (Reps.one (show Kd.M (Kd.int .i64) _ _ _ a0 [.int .i64 a0] from rfl) (Reps.one (show Kd.M (Kd.int .i64) _ _ _ a1 [.int .i64 a1] from rfl) (Reps.none _ _)))); intro v351 w8 ho9 hb hg_ hnew_; clear hg_ hnew_; (first | rw [← Ny350.out] at ho9 | (simp only [Int.reduceToNat] at ho9; rw [← Ny350.out] at ho9)); have HO352:= Aside0.mk (Kd.R_lower ho9 (below_size z16_)); replace HB:= Aside0.mk (below_step z16_ hb); clear hb ho9; obtain ⟨Ao10, co10, eo10⟩ := Kd.R_slice HO352.out; subst eo10) | ((with_reducible refine gate_callee (f := 79) rfl ?_); refine goesL_ (some 16) rfl rfl Try.func79 (by kernel_rfl) rfl #[.slice Ao10 y350.length co10] rfl z14_ ?_; (with_reducible refine (impl_gcd.calls k _ _ y350 t353 _ ?side1 ?side2 A7.out).mono ?_); (case side1 => repeat (first | exact (Kd.R_reads' HO352.out).2.2 | (with_reducible refine Kd.C_alloc ?_ _) | (with_reducible refine Kd.C_drewN ?_ _) | (with_reducible refine Kd.C_drew ?_))); (case side2 => exact (Kd.R_reads' HO352.out).2.1); rintro e w11 ⟨rfl, hb⟩; refine ⟨_, rfl, ?_⟩; replace HO352:= Aside0.mk (Kd.R_below (by (with_reducible repeat (first | apply Kd.R_alloc | apply Kd.R_drewN | apply Kd.R_drew)); exact HO352.out) hb); replace HB:= Aside0.mk (below_step z16_ hb); clear hb))
 go_ret
 exact ⟨z29_, z16_⟩

/-! ### slices_Index_int_int: function 133 -/
def slices_Index_int_int.l0 : Nat → List Int → Int → Int → Int → Option (Int)
 | 0, _, _, _, _ => none
 | k + 1, x0, x1, x7, x8 => if x8 < x7 then (if 0 ≤ x8 then (if x8 < (x0.length : Int) then (if x1 = (rd x0 x8) then (some x8) else (slices_Index_int_int.l0 k x0 x1 x7 (wrap64 (x8 + 1)))) else (none)) else (none)) else (some (-1))
def slices_Index_int_int.f (k : Nat) (l0 : List Int) (a1 : Int) : Option (Int) := slices_Index_int_int.l0 k l0 a1 (l0.length : Int) 0
theorem slices_Index_int_int.mono_l : ∀ k, (∀ y0 y1 y2 y3, LeO (slices_Index_int_int.l0 k y0 y1 y2 y3) (slices_Index_int_int.l0 (k + 1) y0 y1 y2 y3))
 | 0 => fun _ _ _ _ r h => by simp [slices_Index_int_int.l0] at h
 | k + 1 => by
  have ih0 := slices_Index_int_int.mono_l k
  intro y0 y1 y2 y3
  unfold slices_Index_int_int.l0
  exact mo_
theorem slices_Index_int_int.mono : ∀ a0 a1 k, LeO (slices_Index_int_int.f k a0 a1) (slices_Index_int_int.f (k + 1) a0 a1) := by
 intro a0 a1 k
 have ih0 := slices_Index_int_int.mono_l k
 unfold slices_Index_int_int.f
 exact mo_
theorem slices_Index_int_int.calls (k : Nat) (A0 : Option Addr) (c0 : Nat) (l0 : List Int) (a1 : Int) (r : Int) (w : World) (hr0 : Kd.C (Kd.int .i64) w A0 l0.length l0) (hc0 : l0.length ≤ c0) (h : slices_Index_int_int.f k l0 a1 = some r) :
 Calls Try.prog 133 #[.slice A0 l0.length c0, .int .i64 a1] w fun e w' => e = .returned (.int .i64 r) ∧ Drawn0 w w' := by
 have HR0 := Aside0.mk hr0
 have HC0 := Aside0.mk hc0
 clear hr0 hc0
 have H := h
 clear h
 unfold slices_Index_int_int.f at H
 have H' := Aside0.mk H
 clear H
 go_enter Try.func133, Try.ntmps133
 go_wp2
 go_loopg [8] k (fun kq v8 w' => ∃ (x8_1 : Int), v8 = .int .i64 x8_1 ∧ Aside0 (slices_Index_int_int.l0 kq l0 a1 (l0.length : Int) x8_1 = some r) ∧ Aside0 (kq ≤ k) ∧ Drawn0 w w')
 case atStart => exact ⟨(0), z32_, H', ⟨Nat.le_refl _⟩, z30_⟩
 case round =>
  clear H'
  obtain ⟨x8_1, rfl, HA, HK1, ⟨m1, rfl⟩⟩ := hrel
  cases gk with
  | zero => exact absurd HA.out (by simp [slices_Index_int_int.l0])
  | succ k1 =>
   have H := HA.out
   clear HA
   simp only [slices_Index_int_int.l0] at H
   by_cases c3 : x8_1 < (l0.length : Int)
   rotate_left
   · rw [if_neg c3] at H
     have c3b0 := decide_eq_false c3
     clear c3
     obtain rfl := Option.some.inj H
     go_wp2
     go_ret
     exact ⟨z32_, z30_⟩
   rw [if_pos c3] at H
   have c3b0 := decide_eq_true c3
   clear c3
   obtain ⟨c4, H⟩ := in_ H
   have c4b0 := decide_eq_true c4
   clear c4
   obtain ⟨c5, H⟩ := in_ H
   have c5b0 := decide_eq_true c5
   clear c5
   by_cases c6 : a1 = (rd l0 x8_1)
   · rw [if_pos c6] at H
     have c6b0 := beq_iff_eq.mpr c6
     have c6b1 := bne_eq_false_iff_eq.mpr c6
     clear c6
     obtain rfl := Option.some.inj H
     have p354 : 0 ≤ (x8_1 : Int) := of_decide_eq_true z31_
     have q354 : x8_1 < (l0.length : Int) := of_decide_eq_true z31_
     obtain ⟨ad354, e354, hx354_0⟩ := Kd.at_int HR0.out x8_1 p354 q354
     cases e354
     replace p354 := eq_true p354
     replace q354 := eq_true q354
     go_wp2
     go_ret
     exact ⟨z32_, z30_⟩
   rw [if_neg c6] at H
   have c6b0 := beq_eq_false_iff_ne.mpr c6
   have c6b1 := bne_iff_ne.mpr c6
   have H' := Aside0.mk H
   clear H
   have p354 : 0 ≤ (x8_1 : Int) := of_decide_eq_true z31_
   have q354 : x8_1 < (l0.length : Int) := of_decide_eq_true z31_
   obtain ⟨ad354, e354, hx354_0⟩ := Kd.at_int HR0.out x8_1 p354 q354
   cases e354
   replace p354 := eq_true p354
   replace q354 := eq_true q354
   go_wp2
   go_roundg k1
   case measure => have := HK1.out; omega
   case rel => exact ⟨(wrap64 (x8_1 + 1)), z32_, H', ⟨by have := HK1.out; omega⟩, z30_⟩

/-! ### slices_Contains_int_int: function 111 -/
def slices_Contains_int_int.f (k : Nat) (l0 : List Int) (a1 : Int) : Option (Bool) := (slices_Index_int_int.f k l0 a1).bind fun t355 => (some (decide (t355 ≥ 0)))
theorem slices_Contains_int_int.mono : ∀ a0 a1 k, LeO (slices_Contains_int_int.f k a0 a1) (slices_Contains_int_int.f (k + 1) a0 a1) := by
 intro a0 a1 k
 unfold slices_Contains_int_int.f
 exact mo_
theorem slices_Contains_int_int.calls (k : Nat) (A0 : Option Addr) (c0 : Nat) (l0 : List Int) (a1 : Int) (r : Bool) (w : World) (hr0 : Kd.C (Kd.int .i64) w A0 l0.length l0) (hc0 : l0.length ≤ c0) (h : slices_Contains_int_int.f k l0 a1 = some r) :
 Calls Try.prog 111 #[.slice A0 l0.length c0, .int .i64 a1] w fun e w' => e = .returned (.bool r) ∧ Drawn0 w w' := by
 have HR0 := Aside0.mk hr0
 have HC0 := Aside0.mk hc0
 clear hr0 hc0
 have H := h
 clear h
 unfold slices_Contains_int_int.f at H
 obtain ⟨t355, A3, H⟩ := bi_ H
 obtain rfl := Option.some.inj H
 go_enter Try.func111, Try.ntmps111
 go_wp2_with (first | ((with_reducible refine gate_callee (f := 133) rfl ?_); refine goesL_ (some 7) rfl rfl Try.func133 (by kernel_rfl) rfl #[.slice A0 l0.length c0, .int .i64 a1] rfl z14_ ?_; (with_reducible refine (slices_Index_int_int.calls k _ _ l0 a1 t355 _ ?side1 ?side2 A3.out).mono ?_); (case side1 => repeat (first | exact HR0.out | (with_reducible refine Kd.C_alloc ?_ _) | (with_reducible refine Kd.C_drewN ?_ _) | (with_reducible refine Kd.C_drew ?_))); (case side2 => exact HC0.out); rintro e w' ⟨rfl, ⟨nd, rfl⟩⟩; refine ⟨_, rfl, ?_⟩))
 go_ret
 exact ⟨z32_, z30_⟩

/-! ### slices_Sort_int_int: function 112 -/
def slices_Sort_int_int.f (k : Nat) (l0 : List Int) : Option (List Int) := if 0 < l0.length ∧ l0.length < 4611686018427387904 then some (Go.Proofs.Ytdeahlommlgceaa.Srt.srt l0) else none
theorem slices_Sort_int_int.mono : ∀ a0 k, LeO (slices_Sort_int_int.f k a0) (slices_Sort_int_int.f (k + 1) a0) := fun _ _ => LeO.refl _
theorem slices_Sort_int_int.calls (k : Nat) (P0_ : Nat → Prop) (u9000_ : Value) (l0 : List Int) (r : List Int) (w0 w : World) (hB : Below w0.heap.size w0 w) (ho0 : Kd.R (Kd.int .i64) 3 w w0.heap.size P0_ u9000_ l0) (h : slices_Sort_int_int.f k l0 = some r) :
 Calls Try.prog 112 #[u9000_] w fun e w' => e = .returned (.tuple #[]) ∧ Kd.R (Kd.int .i64) 3 w' w0.heap.size (fun k_ => (P0_ k_ ∨ w.heap.size ≤ k_)) u9000_ r ∧ Below w0.heap.size w0 w' ∧ Kept w w' (fun k_ => P0_ k_) := by
 unfold slices_Sort_int_int.f at h
 by_cases hl : 0 < l0.length ∧ l0.length < 4611686018427387904
 rotate_left
 · rw [if_neg hl] at h
   cases h
 rw [if_pos hl] at h
 injection h with h
 subst h
 exact Go.Proofs.Ytdeahlommlgceaa.Srt.sort_calls P0_ u9000_ l0 w0 w hB ho0 hl.1 hl.2

/-! ### impl_placesOf: function 58 -/
mutual
def impl_placesOf.l0 : Nat → List Int → List Int → Int → Int → Option (List Int)
 | 0, _, _, _, _ => none
 | k + 1, x3, x9, x10, x11 => if x11 < x10 then (if 0 ≤ x11 then (if x11 < (x9.length : Int) then ((impl_primesOf.f k (rd x9 x11)).bind fun t374 => (impl_placesOf.l1 k x3 x9 x10 x11 t374 (t374.length : Int) 0)) else (none)) else (none)) else ((slices_Sort_int_int.f k x3).bind fun t372 => (some t372))
def impl_placesOf.l1 : Nat → List Int → List Int → Int → Int → List Int → Int → Int → Option (List Int)
 | 0, _, _, _, _, _, _, _ => none
 | k + 1, x3, x9, x10, x11, x16, x17, x18 => if x18 < x17 then (if 0 ≤ x18 then (if x18 < (x16.length : Int) then ((slices_Contains_int_int.f k x3 (rd x16 x18)).bind fun t378 => (if t378 = true then (impl_placesOf.l1 k x3 x9 x10 x11 x16 x17 (wrap64 (x18 + 1))) else (if x3.length < 17592186044416 then (impl_placesOf.l1 k (x3 ++ [rd x16 x18]) x9 x10 x11 x16 x17 (wrap64 (x18 + 1))) else (none)))) else (none)) else (none)) else (impl_placesOf.l0 k x3 x9 x10 (wrap64 (x11 + 1)))
end
def impl_placesOf.f (k : Nat) (l0 : List Int) : Option (List Int) := impl_placesOf.l0 k (([0, 2] : List Int)) l0 (l0.length : Int) 0
theorem impl_placesOf.mono_l : ∀ k, (∀ y0 y1 y2 y3, LeO (impl_placesOf.l0 k y0 y1 y2 y3) (impl_placesOf.l0 (k + 1) y0 y1 y2 y3)) ∧ (∀ y0 y1 y2 y3 y4 y5 y6, LeO (impl_placesOf.l1 k y0 y1 y2 y3 y4 y5 y6) (impl_placesOf.l1 (k + 1) y0 y1 y2 y3 y4 y5 y6))
 | 0 => ⟨fun _ _ _ _ r h => by simp [impl_placesOf.l0] at h, fun _ _ _ _ _ _ _ r h => by simp [impl_placesOf.l1] at h⟩
 | k + 1 => by
  obtain ⟨ih0, ih1⟩ := impl_placesOf.mono_l k
  refine ⟨?_, ?_⟩
  · intro y0 y1 y2 y3
    unfold impl_placesOf.l0
    exact mo_
  intro y0 y1 y2 y3 y4 y5 y6
  unfold impl_placesOf.l1
  exact mo_
theorem impl_placesOf.mono : ∀ a0 k, LeO (impl_placesOf.f k a0) (impl_placesOf.f (k + 1) a0) := by
 intro a0 k
 obtain ⟨ih0, ih1⟩ := impl_placesOf.mono_l k
 unfold impl_placesOf.f
 exact mo_
theorem impl_placesOf.calls (k : Nat) (A0 : Option Addr) (c0 : Nat) (l0 : List Int) (r : List Int) (w : World) (hr0 : Kd.C (Kd.int .i64) w A0 l0.length l0) (hc0 : l0.length ≤ c0) (h : impl_placesOf.f k l0 = some r) :
 Calls Try.prog 58 #[.slice A0 l0.length c0] w fun e w' => ∃ v0_ : Value, e = .returned (v0_) ∧ Kd.R (Kd.int .i64) 3 w' w.heap.size (fun _ => True) v0_ r ∧ Below w.heap.size w w' := by
 have HR0 := Aside0.mk hr0
 have HC0 := Aside0.mk hc0
 clear hr0 hc0
 have HB := Aside0.mk (Below.refl w.heap.size w)
 have H := h
 clear h
 unfold impl_placesOf.f at H
 generalize h_ : (([0, 2] : List Int)) = y369 at H
 have Ny369 := Aside0.mk h_.symm
 clear h_
 have H' := Aside0.mk H
 clear H
 go_enter Try.func58, Try.ntmps58
 go_wp2_with (first | ((with_reducible refine gate_dst (N := 8) rfl ?_); refine Kd.R_lit (Kd.int .i64) _ 3 ?hg (N := 8) ?hd (xs := ([0, 2] : List Int)) (inner := [.int .i64 0, .int .i64 2]) (ok := fun _ => True) (okp := fun _ => True) ?hr ?hp (fun _ hk => hk) trivial (Below.refl _ _) (Nat.le_refl _) (by simp) ?_; (case hd => rfl); (case hg => rfl); (case hr => first | (go_simp; done) | (go_simp; rfl)); (case hp => exact (Reps.one (show Kd.M (Kd.int .i64) _ _ _ 0 [.int .i64 0] from rfl) (Reps.one (show Kd.M (Kd.int .i64) _ _ _ 2 [.int .i64 2] from rfl) (Reps.none _ _)))); intro v370 w2 ho3 hb hg_ hnew_; clear hg_ hnew_; (first | rw [← Ny369.out] at ho3 | (simp only [Int.reduceToNat] at ho3; rw [← Ny369.out] at ho3)); have HO371:= Aside0.mk (Kd.R_lower ho3 (below_size z16_)); replace HB:= Aside0.mk (below_step z16_ hb); clear hb ho3))
 go_loopg [3, 11] k (fun kq v3 v11 w' => ∃ (x3_1 : List Int) (x11_1 : Int), v11 = .int .i64 x11_1 ∧ Aside0 (impl_placesOf.l0 kq x3_1 l0 (l0.length : Int) x11_1 = some r) ∧ Aside0 (kq ≤ k) ∧ Aside0 (Kd.R (Kd.int .i64) 3 w' w.heap.size (fun _ => True) v3 x3_1) ∧ Aside0 (Below w.heap.size w w'))
 case atStart => exact ⟨(y369), (0), z32_, H', ⟨Nat.le_refl _⟩, ⟨by (with_reducible repeat (first | apply Kd.R_alloc | apply Kd.R_drewN | apply Kd.R_drew)); exact HO371.out⟩, ⟨z16_⟩⟩
 case round =>
  clear H'
  obtain ⟨x3_1, x11_1, rfl, HA, HK1, HO_3, HB⟩ := hrel
  cases gk with
  | zero => exact absurd HA.out (by simp [impl_placesOf.l0])
  | succ k1 =>
   have H := HA.out
   clear HA
   simp only [impl_placesOf.l0] at H
   by_cases c4 : x11_1 < (l0.length : Int)
   rotate_left
   · rw [if_neg c4] at H
     have c4b0 := decide_eq_false c4
     clear c4
     obtain ⟨t372, A19, H⟩ := bi_ H
     obtain rfl := Option.some.inj H
     obtain ⟨Ao20, co20, eo20⟩ := Kd.R_slice HO_3.out
     subst eo20
     go_wp2_with (first | ((with_reducible refine gate_callee (f := 112) rfl ?_); refine goesL_ (some 33) rfl rfl Try.func112 (by kernel_rfl) rfl #[.slice Ao20 x3_1.length co20] rfl z14_ ?_; (with_reducible refine (slices_Sort_int_int.calls k1 (fun k_ => some k_ = (.slice Ao20 x3_1.length co20 : Value).ownBlock) (.slice Ao20 x3_1.length co20) x3_1 t372 w _ ?side1 ?side2 A19.out).mono ?_); (case side1 => exact z16_); (case side2 => exact Kd.R_tight rfl HO_3.out); rintro e w21 ⟨rfl, hy0, hb, hkp⟩; refine ⟨_, rfl, ?_⟩; replace HO_3:= Aside0.mk (Kd.R_reok rfl hy0 (fun k_ e_ => HO_3.out.1 k_ e_)); replace HB:= Aside0.mk (hb); clear hb hkp hy0))
     go_ret
     exact ⟨_, z29_, z24_, z16_⟩
   rw [if_pos c4] at H
   have c4b0 := decide_eq_true c4
   clear c4
   obtain ⟨c5, H⟩ := in_ H
   have c5b0 := decide_eq_true c5
   clear c5
   obtain ⟨c6, H⟩ := in_ H
   have c6b0 := decide_eq_true c6
   clear c6
   obtain ⟨t374, A7, H⟩ := bi_ H
   have H' := Aside0.mk H
   clear H
   have p373 : 0 ≤ (x11_1 : Int) := of_decide_eq_true z31_
   have q373 : x11_1 < (l0.length : Int) := of_decide_eq_true z31_
   obtain ⟨ad373, e373, hx373_0⟩ := Kd.at_int HR0.out x11_1 p373 q373
   cases e373
   replace hx373_0 := (HB.out.cell (World.block_lt_of_cell? w _ hx373_0)).trans hx373_0
   replace p373 := eq_true p373
   replace q373 := eq_true q373
   go_wp2_with (first | ((with_reducible refine gate_callee (f := 110) rfl ?_); refine goesL_ (some 16) rfl rfl Try.func110 (by kernel_rfl) rfl #[.int .i64 (rd l0 x11_1)] rfl z14_ ?_; (with_reducible refine (impl_primesOf.calls k1 (rd l0 x11_1) t374 _ A7.out).mono ?_); rintro e w8 ⟨v375, rfl, ho0, hb⟩; refine ⟨_, rfl, ?_⟩; have HO376:= Aside0.mk (Kd.R_lower (Kd.R_new' ho0 (Kd.R_lt z24_)) (below_size z16_)); replace HO_3:= Aside0.mk (Kd.R_elder' z24_ (Kd.R_base ho0) hb); replace HB:= Aside0.mk (below_step z16_ hb); clear hb ho0; obtain ⟨Ao9, co9, eo9⟩ := Kd.R_slice HO376.out; subst eo9))
   go_loopg [3, 18] k1 (fun kq v3 v18 w' => ∃ (x3_2 : List Int) (x18_2 : Int), v18 = .int .i64 x18_2 ∧ Aside0 (impl_placesOf.l1 kq x3_2 l0 (l0.length : Int) x11_1 t374 (t374.length : Int) x18_2 = some r) ∧ Aside0 (kq ≤ k1) ∧ Aside0 (Kd.R (Kd.int .i64) 3 w' w.heap.size (fun k_ => some k_ ≠ ((.slice Ao9 t374.length co9) : Value).ownBlock) v3 x3_2) ∧ Aside0 (Kd.R (Kd.int .i64) 3 w' w.heap.size (fun k_ => some k_ ≠ (v3 : Value).ownBlock) (.slice Ao9 t374.length co9) t374) ∧ Aside0 (Below w.heap.size w w'))
   case atStart => exact ⟨(x3_1), (0), z32_, H', ⟨Nat.le_refl _⟩, ⟨by (with_reducible repeat (first | apply Kd.R_alloc | apply Kd.R_drewN | apply Kd.R_drew)); exact Kd.R_mono HO_3.out (fun _ hk => hk.2)⟩, ⟨by (with_reducible repeat (first | apply Kd.R_alloc | apply Kd.R_drewN | apply Kd.R_drew)); exact Kd.R_mono HO376.out (fun _ hk => hk.2)⟩, ⟨z16_⟩⟩
   case round =>
    clear H'
    clear c4b0 c5b0 c6b0 hx373_0 p373 q373
    obtain ⟨x3_2, x18_2, rfl, HA, HK2, HO_3, HO_16, HB⟩ := hrel
    cases gk with
    | zero => exact absurd HA.out (by simp [impl_placesOf.l1])
    | succ k2 =>
     have H := HA.out
     clear HA
     simp only [impl_placesOf.l1] at H
     by_cases c10 : x18_2 < (t374.length : Int)
     rotate_left
     · rw [if_neg c10] at H
       have c10b0 := decide_eq_false c10
       clear c10
       have H' := Aside0.mk H
       clear H
       go_wp2
       go_roundg k2
       case measure => have := HK1.out; have := HK2.out; omega
       case rel => exact ⟨(x3_2), (wrap64 (x11_1 + 1)), z32_, H', ⟨by have := HK1.out; have := HK2.out; omega⟩, ⟨by (with_reducible repeat (first | apply Kd.R_alloc | apply Kd.R_drewN | apply Kd.R_drew)); exact Kd.R_mono HO_3.out (fun _ hk => trivial)⟩, ⟨z16_⟩⟩
     rw [if_pos c10] at H
     have c10b0 := decide_eq_true c10
     clear c10
     obtain ⟨c11, H⟩ := in_ H
     have c11b0 := decide_eq_true c11
     clear c11
     obtain ⟨c12, H⟩ := in_ H
     have c12b0 := decide_eq_true c12
     clear c12
     obtain ⟨t378, A13, H⟩ := bi_ H
     by_cases c14 : t378 = true
     · subst c14
       rw [it_] at H
       have H' := Aside0.mk H
       clear H
       have p377 : 0 ≤ (x18_2 : Int) := of_decide_eq_true z31_
       have q377 : x18_2 < (t374.length : Int) := of_decide_eq_true z31_
       obtain ⟨ad377, e377, hx377_0⟩ := Kd.at_int (Kd.R_reads' HO_16.out).2.2 x18_2 p377 q377
       cases e377
       replace p377 := eq_true p377
       replace q377 := eq_true q377
       obtain ⟨Ao15, co15, eo15⟩ := Kd.R_slice HO_3.out
       subst eo15
       go_wp2_with (first | ((with_reducible refine gate_callee (f := 111) rfl ?_); refine goesL_ (some 24) rfl rfl Try.func111 (by kernel_rfl) rfl #[.slice Ao15 x3_2.length co15, .int .i64 (rd t374 x18_2)] rfl z14_ ?_; (with_reducible refine (slices_Contains_int_int.calls k2 _ _ x3_2 (rd t374 x18_2) true _ ?side1 ?side2 A13.out).mono ?_); (case side1 => repeat (first | exact (Kd.R_reads' HO_3.out).2.2 | (with_reducible refine Kd.C_alloc ?_ _) | (with_reducible refine Kd.C_drewN ?_ _) | (with_reducible refine Kd.C_drew ?_))); (case side2 => exact (Kd.R_reads' HO_3.out).2.1); rintro e w' ⟨rfl, ⟨nd, rfl⟩⟩; refine ⟨_, rfl, ?_⟩))
       go_roundg k2
       case measure => have := HK1.out; have := HK2.out; omega
       case rel => exact ⟨(x3_2), (wrap64 (x18_2 + 1)), z32_, H', ⟨by have := HK1.out; have := HK2.out; omega⟩, ⟨z24_⟩, ⟨by (with_reducible repeat (first | apply Kd.R_alloc | apply Kd.R_drewN | apply Kd.R_drew)); exact HO_16.out⟩, ⟨z16_⟩⟩
     replace c14 := Bool.eq_false_iff.mpr c14
     subst c14
     rw [jt_] at H
     obtain ⟨c16, H⟩ := in_ H
     have LMc16 := Aside0.mk c16
     clear c16
     generalize h_ : (x3_2 ++ [rd t374 x18_2]) = y379 at H
     have Ny379 := Aside0.mk h_.symm
     clear h_
     have H' := Aside0.mk H
     clear H
     have p377 : 0 ≤ (x18_2 : Int) := of_decide_eq_true z31_
     have q377 : x18_2 < (t374.length : Int) := of_decide_eq_true z31_
     obtain ⟨ad377, e377, hx377_0⟩ := Kd.at_int (Kd.R_reads' HO_16.out).2.2 x18_2 p377 q377
     cases e377
     replace p377 := eq_true p377
     replace q377 := eq_true q377
     obtain ⟨Ao17, co17, eo17⟩ := Kd.R_slice HO_3.out
     subst eo17
     go_wp2_with (first | ((with_reducible refine gate_callee (f := 111) rfl ?_); refine goesL_ (some 24) rfl rfl Try.func111 (by kernel_rfl) rfl #[.slice Ao17 x3_2.length co17, .int .i64 (rd t374 x18_2)] rfl z14_ ?_; (with_reducible refine (slices_Contains_int_int.calls k2 _ _ x3_2 (rd t374 x18_2) false _ ?side1 ?side2 A13.out).mono ?_); (case side1 => repeat (first | exact (Kd.R_reads' HO_3.out).2.2 | (with_reducible refine Kd.C_alloc ?_ _) | (with_reducible refine Kd.C_drewN ?_ _) | (with_reducible refine Kd.C_drew ?_))); (case side2 => exact (Kd.R_reads' HO_3.out).2.1); rintro e w' ⟨rfl, ⟨nd, rfl⟩⟩; refine ⟨_, rfl, ?_⟩) | ((with_reducible refine gate_builtin (b := .append) (xs := #[.tmp 26, .tmp 28]) rfl ?_); at_builtin; refine Kd.R_append (Kd.int .i64) (w0 := w) w.heap.size rfl (.tmp 26) (.tmp 28) 23 3 (.int .i64 0) 8 rfl Try.underlying23 info3 rfl (by decide) (by omega) (.slice Ao17 x3_2.length co17) x3_2 (rd t374 x18_2) [.int .i64 (rd t374 x18_2)] (fun k_ => some k_ ≠ (.slice (some ad377) t374.length co9 : Value).ownBlock) (fun _ => False) rfl rfl ?aP (fun _ hk => hk.elim) ?aF ?aO ?aB ?aS ?aL ?_; (case aP => exact rfl); (case aB => exact z16_); (case aF => exact (fun k_ hk => Kd.fresh' (Kd.R_lt (by (with_reducible repeat (first | apply Kd.R_alloc | apply Kd.R_drewN | apply Kd.R_drew)); exact HO_16.out)) k_ hk)); (case aO => exact z24_); (case aS => exact (below_size z16_)); (case aL => have := LMc16.out; omega); intro v380 w18 ho hb hg hat; rw [← Ny379.out] at ho; replace HO_16:= Aside0.mk (Kd.R_after (ok := (fun _ => True)) (by (with_reducible repeat (first | apply Kd.R_alloc | apply Kd.R_drewN | apply Kd.R_drew)); exact Kd.R_mono HO_16.out (fun _ hk => ⟨trivial, hk⟩)) hg hat); replace HB:= Aside0.mk (hb); have HO381:= Aside0.mk (ho); clear HO_3; clear ho hb hg hat))
     go_roundg k2
     case measure => have := HK1.out; have := HK2.out; omega
     case rel => exact ⟨(y379), (wrap64 (x18_2 + 1)), z32_, H', ⟨by have := HK1.out; have := HK2.out; omega⟩, ⟨by (with_reducible repeat (first | apply Kd.R_alloc | apply Kd.R_drewN | apply Kd.R_drew)); exact HO381.out⟩, ⟨by (with_reducible repeat (first | apply Kd.R_alloc | apply Kd.R_drewN | apply Kd.R_drew)); exact Kd.R_mono HO_16.out (fun _ hk => hk.2)⟩, ⟨z16_⟩⟩

/-! ### impl_FormPlaces: function 80 -/
def impl_FormPlaces.f (k : Nat) (l0 : List Int) : Option (List Int) := (impl_FormValid.f k l0).bind fun t382 => (if t382 = true then ((impl_placesOf.f k l0).bind fun t383 => (some t383)) else (some ([] : List Int)))
theorem impl_FormPlaces.mono : ∀ a0 k, LeO (impl_FormPlaces.f k a0) (impl_FormPlaces.f (k + 1) a0) := by
 intro a0 k
 unfold impl_FormPlaces.f
 exact mo_
theorem impl_FormPlaces.calls (k : Nat) (A0 : Option Addr) (c0 : Nat) (l0 : List Int) (r : List Int) (w : World) (hr0 : Kd.C (Kd.int .i64) w A0 l0.length l0) (hc0 : l0.length ≤ c0) (h : impl_FormPlaces.f k l0 = some r) :
 Calls Try.prog 80 #[.slice A0 l0.length c0] w fun e w' => ∃ v0_ : Value, e = .returned (v0_) ∧ Kd.R (Kd.int .i64) 3 w' w.heap.size (fun _ => True) v0_ r ∧ Below w.heap.size w w' := by
 have HR0 := Aside0.mk hr0
 have HC0 := Aside0.mk hc0
 clear hr0 hc0
 have HB := Aside0.mk (Below.refl w.heap.size w)
 have H := h
 clear h
 unfold impl_FormPlaces.f at H
 obtain ⟨t382, A2, H⟩ := bi_ H
 by_cases c3 : t382 = true
 rotate_left
 · replace c3 := Bool.eq_false_iff.mpr c3
   subst c3
   rw [jt_] at H
   obtain rfl := Option.some.inj H
   go_enter Try.func80, Try.ntmps80
   go_wp2_with (first | ((with_reducible refine gate_callee (f := 57) rfl ?_); refine goesL_ (some 4) rfl rfl Try.func57 (by kernel_rfl) rfl #[.slice A0 l0.length c0] rfl z14_ ?_; (with_reducible refine (impl_FormValid.calls k _ _ l0 false _ ?side1 ?side2 A2.out).mono ?_); (case side1 => repeat (first | exact HR0.out | (with_reducible refine Kd.C_alloc ?_ _) | (with_reducible refine Kd.C_drewN ?_ _) | (with_reducible refine Kd.C_drew ?_))); (case side2 => exact HC0.out); rintro e w7 ⟨rfl, hb⟩; refine ⟨_, rfl, ?_⟩; replace HB:= Aside0.mk (below_step z16_ hb); clear hb))
   go_ret
   exact ⟨_, z29_, z13_, z16_⟩
 subst c3
 rw [it_] at H
 obtain ⟨t383, A4, H⟩ := bi_ H
 obtain rfl := Option.some.inj H
 go_enter Try.func80, Try.ntmps80
 go_wp2_with (first | ((with_reducible refine gate_callee (f := 57) rfl ?_); refine goesL_ (some 4) rfl rfl Try.func57 (by kernel_rfl) rfl #[.slice A0 l0.length c0] rfl z14_ ?_; (with_reducible refine (impl_FormValid.calls k _ _ l0 true _ ?side1 ?side2 A2.out).mono ?_); (case side1 => repeat (first | exact HR0.out | (with_reducible refine Kd.C_alloc ?_ _) | (with_reducible refine Kd.C_drewN ?_ _) | (with_reducible refine Kd.C_drew ?_))); (case side2 => exact HC0.out); rintro e w5 ⟨rfl, hb⟩; refine ⟨_, rfl, ?_⟩; replace HB:= Aside0.mk (below_step z16_ hb); clear hb) | ((with_reducible refine gate_callee (f := 58) rfl ?_); refine goesL_ (some 7) rfl rfl Try.func58 (by kernel_rfl) rfl #[.slice A0 l0.length c0] rfl z14_ ?_; (with_reducible refine (impl_placesOf.calls k _ _ l0 t383 _ ?side1 ?side2 A4.out).mono ?_); (case side1 => repeat (first | exact (Kd.C_below HR0.out HB.out) | (with_reducible refine Kd.C_alloc ?_ _) | (with_reducible refine Kd.C_drewN ?_ _) | (with_reducible refine Kd.C_drew ?_))); (case side2 => exact HC0.out); rintro e w6 ⟨v384, rfl, ho0, hb⟩; refine ⟨_, rfl, ?_⟩; have HO385:= Aside0.mk (Kd.R_lower ho0 (below_size z16_)); replace HB:= Aside0.mk (below_step z16_ hb); clear hb ho0))
 go_ret
 exact ⟨_, z29_, by (with_reducible repeat (first | apply Kd.R_alloc | apply Kd.R_drewN | apply Kd.R_drew)); exact HO385.out, z16_⟩

/-! ### impl_lessTerms: function 66 -/
def impl_lessTerms.l0 : Nat → Int → List Int → Int → Int → Option (Int)
 | 0, _, _, _, _ => none
 | k + 1, x3, x6, x7, x8 => if x8 < x7 then (if 0 ≤ x8 then (if x8 < (x6.length : Int) then (if (rd x6 x8) < 0 then (impl_lessTerms.l0 k (wrap64 (x3 + 1)) x6 x7 (wrap64 (x8 + 1))) else (impl_lessTerms.l0 k x3 x6 x7 (wrap64 (x8 + 1)))) else (none)) else (none)) else (some x3)
def impl_lessTerms.f (k : Nat) (l0 : List Int) : Option (Int) := impl_lessTerms.l0 k 0 l0 (l0.length : Int) 0
theorem impl_lessTerms.mono_l : ∀ k, (∀ y0 y1 y2 y3, LeO (impl_lessTerms.l0 k y0 y1 y2 y3) (impl_lessTerms.l0 (k + 1) y0 y1 y2 y3))
 | 0 => fun _ _ _ _ r h => by simp [impl_lessTerms.l0] at h
 | k + 1 => by
  have ih0 := impl_lessTerms.mono_l k
  intro y0 y1 y2 y3
  unfold impl_lessTerms.l0
  exact mo_
theorem impl_lessTerms.mono : ∀ a0 k, LeO (impl_lessTerms.f k a0) (impl_lessTerms.f (k + 1) a0) := by
 intro a0 k
 have ih0 := impl_lessTerms.mono_l k
 unfold impl_lessTerms.f
 exact mo_
theorem impl_lessTerms.calls (k : Nat) (A0 : Option Addr) (c0 : Nat) (l0 : List Int) (r : Int) (w : World) (hr0 : Kd.C (Kd.int .i64) w A0 l0.length l0) (hc0 : l0.length ≤ c0) (h : impl_lessTerms.f k l0 = some r) :
 Calls Try.prog 66 #[.slice A0 l0.length c0] w fun e w' => e = .returned (.int .i64 r) ∧ Drawn0 w w' := by
 have HR0 := Aside0.mk hr0
 have HC0 := Aside0.mk hc0
 clear hr0 hc0
 have H := h
 clear h
 unfold impl_lessTerms.f at H
 have H' := Aside0.mk H
 clear H
 go_enter Try.func66, Try.ntmps66
 go_wp2
 go_loopg [3, 8] k (fun kq v3 v8 w' => ∃ (x3_1 : Int) (x8_1 : Int), v3 = .int .i64 x3_1 ∧ v8 = .int .i64 x8_1 ∧ Aside0 (impl_lessTerms.l0 kq x3_1 l0 (l0.length : Int) x8_1 = some r) ∧ Aside0 (kq ≤ k) ∧ Drawn0 w w')
 case atStart => exact ⟨(0), (0), z32_, z32_, H', ⟨Nat.le_refl _⟩, z30_⟩
 case round =>
  clear H'
  obtain ⟨x3_1, x8_1, rfl, rfl, HA, HK1, ⟨m1, rfl⟩⟩ := hrel
  cases gk with
  | zero => exact absurd HA.out (by simp [impl_lessTerms.l0])
  | succ k1 =>
   have H := HA.out
   clear HA
   simp only [impl_lessTerms.l0] at H
   by_cases c2 : x8_1 < (l0.length : Int)
   rotate_left
   · rw [if_neg c2] at H
     have c2b0 := decide_eq_false c2
     clear c2
     obtain rfl := Option.some.inj H
     go_wp2
     go_ret
     exact ⟨z32_, z30_⟩
   rw [if_pos c2] at H
   have c2b0 := decide_eq_true c2
   clear c2
   obtain ⟨c3, H⟩ := in_ H
   have c3b0 := decide_eq_true c3
   clear c3
   obtain ⟨c4, H⟩ := in_ H
   have c4b0 := decide_eq_true c4
   clear c4
   by_cases c5 : (rd l0 x8_1) < 0
   · rw [if_pos c5] at H
     have c5b0 := decide_eq_true c5
     clear c5
     have H' := Aside0.mk H
     clear H
     have p386 : 0 ≤ (x8_1 : Int) := of_decide_eq_true z31_
     have q386 : x8_1 < (l0.length : Int) := of_decide_eq_true z31_
     obtain ⟨ad386, e386, hx386_0⟩ := Kd.at_int HR0.out x8_1 p386 q386
     cases e386
     replace p386 := eq_true p386
     replace q386 := eq_true q386
     go_wp2
     go_roundg k1
     case measure => have := HK1.out; omega
     case rel => exact ⟨(wrap64 (x3_1 + 1)), (wrap64 (x8_1 + 1)), z32_, z32_, H', ⟨by have := HK1.out; omega⟩, z30_⟩
   rw [if_neg c5] at H
   have c5b0 := decide_eq_false c5
   clear c5
   have H' := Aside0.mk H
   clear H
   have p386 : 0 ≤ (x8_1 : Int) := of_decide_eq_true z31_
   have q386 : x8_1 < (l0.length : Int) := of_decide_eq_true z31_
   obtain ⟨ad386, e386, hx386_0⟩ := Kd.at_int HR0.out x8_1 p386 q386
   cases e386
   replace p386 := eq_true p386
   replace q386 := eq_true q386
   go_wp2
   go_roundg k1
   case measure => have := HK1.out; omega
   case rel => exact ⟨(x3_1), (wrap64 (x8_1 + 1)), z32_, z32_, H', ⟨by have := HK1.out; omega⟩, z30_⟩

/-! ### impl_rest: function 119 -/
def impl_rest.f (a0 : Int) (a1 : Int) : Option (Int) := if a1 = 0 then (none) else (some (Int.tmod (wrap64 ((Int.tmod a0 a1) + a1)) a1))
theorem impl_rest.calls (a0 : Int) (a1 : Int) (r : Int) (w : World) (h : impl_rest.f a0 a1 = some r) :
 Calls Try.prog 119 #[.int .i64 a0, .int .i64 a1] w fun e w' => e = .returned (.int .i64 r) ∧ Drawn0 w w' := by
 have H := h
 clear h
 unfold impl_rest.f at H
 obtain ⟨c3, H⟩ := jn_ H
 have c3b0 := beq_eq_false_iff_ne.mpr c3
 have c3b1 := bne_iff_ne.mpr c3
 obtain rfl := Option.some.inj H
 go_enter Try.func119, Try.ntmps119
 go_wp2
 go_ret
 exact ⟨z32_, z30_⟩

/-! ### impl_residue: function 120 -/
def impl_residue.l0 : Nat → Int → Int → Int → Option (Int)
 | 0, _, _, _ => none
 | k + 1, x1, x5, x6 => if x6 ≤ (wrap64 (Int.tdiv x1 2)) then (if x1 = 0 then (none) else (if (Int.tmod (wrap64 (x6 * x6)) x1) = x5 then (some 1) else (impl_residue.l0 k x1 x5 (wrap64 (x6 + 1))))) else (some (-1))
def impl_residue.f (k : Nat) (a0 : Int) (a1 : Int) : Option (Int) := (impl_rest.f a0 a1).bind fun t387 => (if t387 = 0 then (some 0) else (impl_residue.l0 k a1 t387 1))
theorem impl_residue.mono_l : ∀ k, (∀ y0 y1 y2, LeO (impl_residue.l0 k y0 y1 y2) (impl_residue.l0 (k + 1) y0 y1 y2))
 | 0 => fun _ _ _ r h => by simp [impl_residue.l0] at h
 | k + 1 => by
  have ih0 := impl_residue.mono_l k
  intro y0 y1 y2
  unfold impl_residue.l0
  exact mo_
theorem impl_residue.mono : ∀ a0 a1 k, LeO (impl_residue.f k a0 a1) (impl_residue.f (k + 1) a0 a1) := by
 intro a0 a1 k
 have ih0 := impl_residue.mono_l k
 unfold impl_residue.f
 exact mo_
theorem impl_residue.calls (k : Nat) (a0 : Int) (a1 : Int) (r : Int) (w : World) (h : impl_residue.f k a0 a1 = some r) :
 Calls Try.prog 120 #[.int .i64 a0, .int .i64 a1] w fun e w' => e = .returned (.int .i64 r) ∧ Drawn0 w w' := by
 have H := h
 clear h
 unfold impl_residue.f at H
 obtain ⟨t387, A3, H⟩ := bi_ H
 by_cases c4 : t387 = 0
 · rw [if_pos c4] at H
   have c4b0 := beq_iff_eq.mpr c4
   have c4b1 := bne_eq_false_iff_eq.mpr c4
   clear c4
   obtain rfl := Option.some.inj H
   go_enter Try.func120, Try.ntmps120
   go_wp2_with (first | ((with_reducible refine gate_callee (f := 119) rfl ?_); refine goesL_ (some 9) rfl rfl Try.func119 (by kernel_rfl) rfl #[.int .i64 a0, .int .i64 a1] rfl z14_ ?_; (with_reducible refine (impl_rest.calls a0 a1 t387 _ A3.out).mono ?_); rintro e w' ⟨rfl, ⟨nd, rfl⟩⟩; refine ⟨_, rfl, ?_⟩))
   go_ret
   exact ⟨z32_, z30_⟩
 rw [if_neg c4] at H
 have c4b0 := beq_eq_false_iff_ne.mpr c4
 have c4b1 := bne_iff_ne.mpr c4
 have H' := Aside0.mk H
 clear H
 go_enter Try.func120, Try.ntmps120
 go_wp2_with (first | ((with_reducible refine gate_callee (f := 119) rfl ?_); refine goesL_ (some 9) rfl rfl Try.func119 (by kernel_rfl) rfl #[.int .i64 a0, .int .i64 a1] rfl z14_ ?_; (with_reducible refine (impl_rest.calls a0 a1 t387 _ A3.out).mono ?_); rintro e w' ⟨rfl, ⟨nd, rfl⟩⟩; refine ⟨_, rfl, ?_⟩))
 go_loopg [6] k (fun kq v6 w' => ∃ (x6_1 : Int), v6 = .int .i64 x6_1 ∧ Aside0 (impl_residue.l0 kq a1 t387 x6_1 = some r) ∧ Aside0 (kq ≤ k) ∧ Drawn0 w w')
 case atStart => exact ⟨(1), z32_, H', ⟨Nat.le_refl _⟩, z30_⟩
 case round =>
  clear H'
  clear c4 c4b0 c4b1
  obtain ⟨x6_1, rfl, HA, HK1, ⟨m1, rfl⟩⟩ := hrel
  cases gk with
  | zero => exact absurd HA.out (by simp [impl_residue.l0])
  | succ k1 =>
   have H := HA.out
   clear HA
   simp only [impl_residue.l0] at H
   by_cases c5 : x6_1 ≤ (wrap64 (Int.tdiv a1 2))
   rotate_left
   · rw [if_neg c5] at H
     have c5b0 := decide_eq_false c5
     clear c5
     obtain rfl := Option.some.inj H
     go_wp2
     go_ret
     exact ⟨z32_, z30_⟩
   rw [if_pos c5] at H
   have c5b0 := decide_eq_true c5
   clear c5
   obtain ⟨c6, H⟩ := jn_ H
   have c6b0 := beq_eq_false_iff_ne.mpr c6
   have c6b1 := bne_iff_ne.mpr c6
   by_cases c7 : (Int.tmod (wrap64 (x6_1 * x6_1)) a1) = t387
   · rw [if_pos c7] at H
     have c7b0 := beq_iff_eq.mpr c7
     have c7b1 := bne_eq_false_iff_eq.mpr c7
     clear c7
     obtain rfl := Option.some.inj H
     go_wp2
     go_ret
     exact ⟨z32_, z30_⟩
   rw [if_neg c7] at H
   have c7b0 := beq_eq_false_iff_ne.mpr c7
   have c7b1 := bne_iff_ne.mpr c7
   have H' := Aside0.mk H
   clear H
   go_wp2
   go_roundg k1
   case measure => have := HK1.out; omega
   case rel => exact ⟨(wrap64 (x6_1 + 1)), z32_, H', ⟨by have := HK1.out; omega⟩, z30_⟩

end Go.Proofs.Ytdeahlommlgceaa.PFnNormal

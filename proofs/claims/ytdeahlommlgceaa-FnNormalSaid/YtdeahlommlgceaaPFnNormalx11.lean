-- Written by a program of this repo (wip/gen/gen.py) over the kit's print.
-- (slim)
import Derived.Test.YtdeahlommlgceaaPFnNormalx0
import Derived.Test.YtdeahlommlgceaaPFnNormalx3
namespace Go.Proofs.Ytdeahlommlgceaa.PFnNormal
open Go.RowKit Go.Proofs.YtdeahlommlgceaaW.PrintWords Go.Proofs.YtdeahlommlgceaaW.PrintLast Go.Proofs.YtdeahlommlgceaaW.PrintMore
attribute [local go_sem] max2_int min2_int max_two min_two max_three min_three max_four min_four   -- for this text's walks alone
set_option linter.unusedVariables false
set_option maxHeartbeats 8000000
set_option maxRecDepth 100000
set_option linter.unusedSimpArgs false

/-! ### impl_vectorOk: function 82 -/
def impl_vectorOk.l0 : Nat → List Int → List Int → Int → List Int → Int → Int → Option (Bool)
 | 0, _, _, _, _, _, _ => none
 | k + 1, x0, x1, x2, x9, x10, x11 => if x11 < x10 then (if 0 ≤ x11 then (if x11 < (x9.length : Int) then (if (rd x9 x11) < (wrap64 (-x2)) then (some false) else (if (rd x9 x11) > x2 then (some false) else (impl_vectorOk.l0 k x0 x1 x2 x9 x10 (wrap64 (x11 + 1))))) else (none)) else (none)) else (some ((x1.length : Int) == (x0.length : Int)))
def impl_vectorOk.f (k : Nat) (l0 : List Int) (l1 : List Int) (a2 : Int) : Option (Bool) := impl_vectorOk.l0 k l0 l1 a2 l1 (l1.length : Int) 0
theorem impl_vectorOk.mono_l : ∀ k, (∀ y0 y1 y2 y3 y4 y5, LeO (impl_vectorOk.l0 k y0 y1 y2 y3 y4 y5) (impl_vectorOk.l0 (k + 1) y0 y1 y2 y3 y4 y5))
 | 0 => fun _ _ _ _ _ _ r h => by simp [impl_vectorOk.l0] at h
 | k + 1 => by
  have ih0 := impl_vectorOk.mono_l k
  intro y0 y1 y2 y3 y4 y5
  unfold impl_vectorOk.l0
  exact mo_
theorem impl_vectorOk.mono : ∀ a0 a1 a2 k, LeO (impl_vectorOk.f k a0 a1 a2) (impl_vectorOk.f (k + 1) a0 a1 a2) := by
 intro a0 a1 a2 k
 have ih0 := impl_vectorOk.mono_l k
 unfold impl_vectorOk.f
 exact mo_
theorem impl_vectorOk.calls (k : Nat) (A0 : Option Addr) (c0 : Nat) (l0 : List Int) (A1 : Option Addr) (c1 : Nat) (l1 : List Int) (a2 : Int) (r : Bool) (w : World) (hr0 : Kd.C (Kd.int .i64) w A0 l0.length l0) (hc0 : l0.length ≤ c0) (hr1 : Kd.C (Kd.int .i64) w A1 l1.length l1) (hc1 : l1.length ≤ c1) (h : impl_vectorOk.f k l0 l1 a2 = some r) :
 Calls Try.prog 82 #[.slice A0 l0.length c0, .slice A1 l1.length c1, .int .i64 a2] w fun e w' => e = .returned (.bool r) ∧ Drawn0 w w' := by
 have HR0 := Aside0.mk hr0
 have HC0 := Aside0.mk hc0
 clear hr0 hc0
 have HR1 := Aside0.mk hr1
 have HC1 := Aside0.mk hc1
 clear hr1 hc1
 have H := h
 clear h
 unfold impl_vectorOk.f at H
 have H' := Aside0.mk H
 clear H
 go_enter Try.func82, Try.ntmps82
 go_wp2
 go_loopg [11] k (fun kq v11 w' => ∃ (x11_1 : Int), v11 = .int .i64 x11_1 ∧ Aside0 (impl_vectorOk.l0 kq l0 l1 a2 l1 (l1.length : Int) x11_1 = some r) ∧ Aside0 (kq ≤ k) ∧ Drawn0 w w')
 case atStart => exact ⟨(0), z32_, H', ⟨Nat.le_refl _⟩, z30_⟩
 case round =>
  clear H'
  obtain ⟨x11_1, rfl, HA, HK1, ⟨m1, rfl⟩⟩ := hrel
  cases gk with
  | zero => exact absurd HA.out (by simp [impl_vectorOk.l0])
  | succ k1 =>
   have H := HA.out
   clear HA
   simp only [impl_vectorOk.l0] at H
   by_cases c4 : x11_1 < (l1.length : Int)
   rotate_left
   · rw [if_neg c4] at H
     have c4b0 := decide_eq_false c4
     clear c4
     obtain rfl := Option.some.inj H
     go_wp2
     go_ret
     exact ⟨z32_, z30_⟩
   rw [if_pos c4] at H
   have c4b0 := decide_eq_true c4
   clear c4
   obtain ⟨c5, H⟩ := in_ H
   have c5b0 := decide_eq_true c5
   clear c5
   obtain ⟨c6, H⟩ := in_ H
   have c6b0 := decide_eq_true c6
   clear c6
   by_cases c7 : (rd l1 x11_1) < (wrap64 (-a2))
   · rw [if_pos c7] at H
     have c7b0 := decide_eq_true c7
     clear c7
     obtain rfl := Option.some.inj H
     have p427 : 0 ≤ (x11_1 : Int) := of_decide_eq_true z31_
     have q427 : x11_1 < (l1.length : Int) := of_decide_eq_true z31_
     obtain ⟨ad427, e427, hx427_0⟩ := Kd.at_int HR1.out x11_1 p427 q427
     cases e427
     replace p427 := eq_true p427
     replace q427 := eq_true q427
     go_wp2
     go_ret
     exact ⟨z32_, z30_⟩
   rw [if_neg c7] at H
   have c7b0 := decide_eq_false c7
   clear c7
   by_cases c8 : (rd l1 x11_1) > a2
   · rw [if_pos c8] at H
     have c8b0 := decide_eq_true c8
     clear c8
     obtain rfl := Option.some.inj H
     have p427 : 0 ≤ (x11_1 : Int) := of_decide_eq_true z31_
     have q427 : x11_1 < (l1.length : Int) := of_decide_eq_true z31_
     obtain ⟨ad427, e427, hx427_0⟩ := Kd.at_int HR1.out x11_1 p427 q427
     cases e427
     replace p427 := eq_true p427
     replace q427 := eq_true q427
     go_wp2
     go_ret
     exact ⟨z32_, z30_⟩
   rw [if_neg c8] at H
   have c8b0 := decide_eq_false c8
   clear c8
   have H' := Aside0.mk H
   clear H
   have p427 : 0 ≤ (x11_1 : Int) := of_decide_eq_true z31_
   have q427 : x11_1 < (l1.length : Int) := of_decide_eq_true z31_
   obtain ⟨ad427, e427, hx427_0⟩ := Kd.at_int HR1.out x11_1 p427 q427
   cases e427
   replace p427 := eq_true p427
   replace q427 := eq_true q427
   go_wp2
   go_roundg k1
   case measure => have := HK1.out; omega
   case rel => exact ⟨(wrap64 (x11_1 + 1)), z32_, H', ⟨by have := HK1.out; omega⟩, z30_⟩

/-! ### impl_pair: function 83 -/
def impl_pair.l0 : Nat → List Int → List Int → Int → List Int → Int → Int → Option (Int)
 | 0, _, _, _, _, _, _ => none
 | k + 1, x1, x2, x7, x10, x11, x12 => if x12 < x11 then (if 0 ≤ x12 then (if x12 < (x10.length : Int) then (if x12 < (x1.length : Int) then (if x12 < (x2.length : Int) then (impl_pair.l0 k x1 x2 (wrap64 (x7 + (wrap64 ((wrap64 ((rd x10 x12) * (rd x1 x12))) * (rd x2 x12))))) x10 x11 (wrap64 (x12 + 1))) else (none)) else (none)) else (none)) else (none)) else (some x7)
def impl_pair.f (k : Nat) (l0 : List Int) (l1 : List Int) (l2 : List Int) : Option (Int) := impl_pair.l0 k l1 l2 0 l0 (l0.length : Int) 0
theorem impl_pair.mono_l : ∀ k, (∀ y0 y1 y2 y3 y4 y5, LeO (impl_pair.l0 k y0 y1 y2 y3 y4 y5) (impl_pair.l0 (k + 1) y0 y1 y2 y3 y4 y5))
 | 0 => fun _ _ _ _ _ _ r h => by simp [impl_pair.l0] at h
 | k + 1 => by
  have ih0 := impl_pair.mono_l k
  intro y0 y1 y2 y3 y4 y5
  unfold impl_pair.l0
  exact mo_
theorem impl_pair.mono : ∀ a0 a1 a2 k, LeO (impl_pair.f k a0 a1 a2) (impl_pair.f (k + 1) a0 a1 a2) := by
 intro a0 a1 a2 k
 have ih0 := impl_pair.mono_l k
 unfold impl_pair.f
 exact mo_
theorem impl_pair.calls (k : Nat) (A0 : Option Addr) (c0 : Nat) (l0 : List Int) (A1 : Option Addr) (c1 : Nat) (l1 : List Int) (A2 : Option Addr) (c2 : Nat) (l2 : List Int) (r : Int) (w : World) (hr0 : Kd.C (Kd.int .i64) w A0 l0.length l0) (hc0 : l0.length ≤ c0) (hr1 : Kd.C (Kd.int .i64) w A1 l1.length l1) (hc1 : l1.length ≤ c1) (hr2 : Kd.C (Kd.int .i64) w A2 l2.length l2) (hc2 : l2.length ≤ c2) (h : impl_pair.f k l0 l1 l2 = some r) :
 Calls Try.prog 83 #[.slice A0 l0.length c0, .slice A1 l1.length c1, .slice A2 l2.length c2] w fun e w' => e = .returned (.int .i64 r) ∧ Drawn0 w w' := by
 have HR0 := Aside0.mk hr0
 have HC0 := Aside0.mk hc0
 clear hr0 hc0
 have HR1 := Aside0.mk hr1
 have HC1 := Aside0.mk hc1
 clear hr1 hc1
 have HR2 := Aside0.mk hr2
 have HC2 := Aside0.mk hc2
 clear hr2 hc2
 have H := h
 clear h
 unfold impl_pair.f at H
 have H' := Aside0.mk H
 clear H
 go_enter Try.func83, Try.ntmps83
 go_wp2
 repeat (go_quiet (fail); try go_wp2)
 go_loopg [7, 12] k (fun kq v7 v12 w' => ∃ (x7_1 : Int) (x12_1 : Int), v7 = .int .i64 x7_1 ∧ v12 = .int .i64 x12_1 ∧ Aside0 (impl_pair.l0 kq l1 l2 x7_1 l0 (l0.length : Int) x12_1 = some r) ∧ Aside0 (kq ≤ k) ∧ Drawn0 w w')
 case atStart => exact ⟨(0), (0), z32_, z32_, H', ⟨Nat.le_refl _⟩, z30_⟩
 case round =>
  clear H'
  obtain ⟨x7_1, x12_1, rfl, rfl, HA, HK1, ⟨m1, rfl⟩⟩ := hrel
  cases gk with
  | zero => exact absurd HA.out (by simp [impl_pair.l0])
  | succ k1 =>
   have H := HA.out
   clear HA
   simp only [impl_pair.l0] at H
   by_cases c4 : x12_1 < (l0.length : Int)
   rotate_left
   · rw [if_neg c4] at H
     have c4b0 := decide_eq_false c4
     clear c4
     obtain rfl := Option.some.inj H
     go_wp2
     repeat (go_quiet (fail); try go_wp2)
     go_ret
     exact ⟨z32_, z30_⟩
   rw [if_pos c4] at H
   have c4b0 := decide_eq_true c4
   clear c4
   obtain ⟨c5, H⟩ := in_ H
   have c5b0 := decide_eq_true c5
   clear c5
   obtain ⟨c6, H⟩ := in_ H
   have c6b0 := decide_eq_true c6
   clear c6
   obtain ⟨c7, H⟩ := in_ H
   have c7b0 := decide_eq_true c7
   clear c7
   obtain ⟨c8, H⟩ := in_ H
   have c8b0 := decide_eq_true c8
   clear c8
   have H' := Aside0.mk H
   clear H
   have p428 : 0 ≤ (x12_1 : Int) := of_decide_eq_true z31_
   have q428 : x12_1 < (l0.length : Int) := of_decide_eq_true z31_
   obtain ⟨ad428, e428, hx428_0⟩ := Kd.at_int HR0.out x12_1 p428 q428
   cases e428
   replace p428 := eq_true p428
   replace q428 := eq_true q428
   have p429 : 0 ≤ (x12_1 : Int) := of_decide_eq_true z31_
   have q429 : x12_1 < (l1.length : Int) := of_decide_eq_true z31_
   obtain ⟨ad429, e429, hx429_0⟩ := Kd.at_int HR1.out x12_1 p429 q429
   cases e429
   replace p429 := eq_true p429
   replace q429 := eq_true q429
   have p430 : 0 ≤ (x12_1 : Int) := of_decide_eq_true z31_
   have q430 : x12_1 < (l2.length : Int) := of_decide_eq_true z31_
   obtain ⟨ad430, e430, hx430_0⟩ := Kd.at_int HR2.out x12_1 p430 q430
   cases e430
   replace p430 := eq_true p430
   replace q430 := eq_true q430
   go_wp2
   repeat (go_quiet (fail); try go_wp2)
   go_roundg k1
   case measure => have := HK1.out; omega
   case rel => exact ⟨(wrap64 (x7_1 + (wrap64 ((wrap64 ((rd l0 x12_1) * (rd l1 x12_1))) * (rd l2 x12_1))))), (wrap64 (x12_1 + 1)), z32_, z32_, H', ⟨by have := HK1.out; omega⟩, z30_⟩

/-! ### impl_ZeroIs: function 28 -/
def impl_ZeroIs.j0 : Nat → List Int → List Int → Bool → Option (Bool)
 | 0, _, _, _ => none
 | k + 1, x0, x1, x13 => if x13 = true then (some false) else ((impl_gcd.f k x1).bind fun t433 => (if t433 = 0 then (some false) else ((impl_pair.f k x0 x1 x1).bind fun t434 => (some (t434 == 0)))))
def impl_ZeroIs.f (k : Nat) (l0 : List Int) (l1 : List Int) : Option (Bool) := (impl_FormValid.f k l0).bind fun t431 => (if t431 = true then ((impl_vectorOk.f k l0 l1 1000000).bind fun t432 => (impl_ZeroIs.j0 k l0 l1 (!t432))) else (impl_ZeroIs.j0 k l0 l1 true))
theorem impl_ZeroIs.mono_l : ∀ k, (∀ y0 y1 y2, LeO (impl_ZeroIs.j0 k y0 y1 y2) (impl_ZeroIs.j0 (k + 1) y0 y1 y2))
 | 0 => fun _ _ _ r h => by simp [impl_ZeroIs.j0] at h
 | k + 1 => by
  have ih0 := impl_ZeroIs.mono_l k
  intro y0 y1 y2
  unfold impl_ZeroIs.j0
  exact mo_
theorem impl_ZeroIs.mono : ∀ a0 a1 k, LeO (impl_ZeroIs.f k a0 a1) (impl_ZeroIs.f (k + 1) a0 a1) := by
 intro a0 a1 k
 have ih0 := impl_ZeroIs.mono_l k
 unfold impl_ZeroIs.f
 exact mo_
theorem impl_ZeroIs.calls (k : Nat) (A0 : Option Addr) (c0 : Nat) (l0 : List Int) (A1 : Option Addr) (c1 : Nat) (l1 : List Int) (r : Bool) (w : World) (hr0 : Kd.C (Kd.int .i64) w A0 l0.length l0) (hc0 : l0.length ≤ c0) (hr1 : Kd.C (Kd.int .i64) w A1 l1.length l1) (hc1 : l1.length ≤ c1) (h : impl_ZeroIs.f k l0 l1 = some r) :
 Calls Try.prog 28 #[.slice A0 l0.length c0, .slice A1 l1.length c1] w fun e w' => e = .returned (.bool r) ∧ Below w.heap.size w w' := by
 have HR0 := Aside0.mk hr0
 have HC0 := Aside0.mk hc0
 clear hr0 hc0
 have HR1 := Aside0.mk hr1
 have HC1 := Aside0.mk hc1
 clear hr1 hc1
 have HB := Aside0.mk (Below.refl w.heap.size w)
 have H := h
 clear h
 unfold impl_ZeroIs.f at H
 have HC3 := Aside0.mk H
 clear H
 go_enter Try.func28, Try.ntmps28
 go_upto_region 1 with (fail)
 go_cut [13] (fun v13 wc => ∃ (kq : Nat) (x13_2 : Bool), v13 = .bool x13_2 ∧ Aside0 (impl_ZeroIs.j0 kq l0 l1 x13_2 = some r) ∧ Aside0 (kq ≤ k) ∧ Aside0 (Below w.heap.size w wc))
 case first =>
  have H := HC3.out
  clear HC3
  obtain ⟨t431, A4, H⟩ := bi_ H
  by_cases c5 : t431 = true
  · subst c5
    rw [it_] at H
    obtain ⟨t432, A6, H⟩ := bi_ H
    have H' := Aside0.mk H
    clear H
    go_wp2_with (first | ((with_reducible refine gate_callee (f := 57) rfl ?_); refine goesL_ (some 6) rfl rfl Try.func57 (by kernel_rfl) rfl #[.slice A0 l0.length c0] rfl z14_ ?_; (with_reducible refine (impl_FormValid.calls k _ _ l0 true _ ?side1 ?side2 A4.out).mono ?_); (case side1 => repeat (first | exact (Kd.C_below HR0.out HB.out) | (with_reducible refine Kd.C_alloc ?_ _) | (with_reducible refine Kd.C_drewN ?_ _) | (with_reducible refine Kd.C_drew ?_))); (case side2 => exact HC0.out); rintro e w7 ⟨rfl, hb⟩; refine ⟨_, rfl, ?_⟩; replace HB:= Aside0.mk (below_step z16_ hb); clear hb) | (go_at_call 82; (with_reducible refine (impl_vectorOk.calls k _ _ l0 _ _ l1 1000000 t432 _ ?side1 ?side2 ?side3 ?side4 A6.out).mono ?_); (case side1 => repeat (first | exact (Kd.C_below HR0.out HB.out) | (with_reducible refine Kd.C_alloc ?_ _) | (with_reducible refine Kd.C_drewN ?_ _) | (with_reducible refine Kd.C_drew ?_))); (case side2 => exact HC0.out); (case side3 => repeat (first | exact (Kd.C_below HR1.out HB.out) | (with_reducible refine Kd.C_alloc ?_ _) | (with_reducible refine Kd.C_drewN ?_ _) | (with_reducible refine Kd.C_drew ?_))); (case side4 => exact HC1.out); rintro e w' ⟨rfl, ⟨nd, rfl⟩⟩))
    go_meet
    case rel => exact ⟨_, (!t432), z32_, H', ⟨z33_⟩, ⟨z16_⟩⟩
  replace c5 := Bool.eq_false_iff.mpr c5
  subst c5
  rw [jt_] at H
  have H' := Aside0.mk H
  clear H
  go_wp2_with (first | ((with_reducible refine gate_callee (f := 57) rfl ?_); refine goesL_ (some 6) rfl rfl Try.func57 (by kernel_rfl) rfl #[.slice A0 l0.length c0] rfl z14_ ?_; (with_reducible refine (impl_FormValid.calls k _ _ l0 false _ ?side1 ?side2 A4.out).mono ?_); (case side1 => repeat (first | exact (Kd.C_below HR0.out HB.out) | (with_reducible refine Kd.C_alloc ?_ _) | (with_reducible refine Kd.C_drewN ?_ _) | (with_reducible refine Kd.C_drew ?_))); (case side2 => exact HC0.out); rintro e w8 ⟨rfl, hb⟩; refine ⟨_, rfl, ?_⟩; replace HB:= Aside0.mk (below_step z16_ hb); clear hb))
  go_meet
  case rel => exact ⟨_, (true), z32_, H', ⟨z33_⟩, ⟨z16_⟩⟩
 case rest =>
  clear HC3
  obtain ⟨kq, x13_2, rfl, HA, HJ2, HB⟩ := hcut
  cases kq with
  | zero => exact absurd HA.out (by simp [impl_ZeroIs.j0])
  | succ kj2 =>
   have H := HA.out
   clear HA
   simp only [impl_ZeroIs.j0] at H
   by_cases c9 : x13_2 = true
   · subst c9
     rw [it_] at H
     obtain rfl := Option.some.inj H
     go_wp2
     go_ret
     exact ⟨z29_, z16_⟩
   replace c9 := Bool.eq_false_iff.mpr c9
   subst c9
   rw [jt_] at H
   obtain ⟨t433, A10, H⟩ := bi_ H
   by_cases c11 : t433 = 0
   · rw [if_pos c11] at H
     have c11b0 := beq_iff_eq.mpr c11
     have c11b1 := bne_eq_false_iff_eq.mpr c11
     clear c11
     obtain rfl := Option.some.inj H
     go_wp2_with (first | ((with_reducible refine gate_callee (f := 79) rfl ?_); refine goesL_ (some 15) rfl rfl Try.func79 (by kernel_rfl) rfl #[.slice A1 l1.length c1] rfl z14_ ?_; (with_reducible refine (impl_gcd.calls kj2 _ _ l1 t433 _ ?side1 ?side2 A10.out).mono ?_); (case side1 => repeat (first | exact (Kd.C_below HR1.out HB.out) | (with_reducible refine Kd.C_alloc ?_ _) | (with_reducible refine Kd.C_drewN ?_ _) | (with_reducible refine Kd.C_drew ?_))); (case side2 => exact HC1.out); rintro e w12 ⟨rfl, hb⟩; refine ⟨_, rfl, ?_⟩; replace HB:= Aside0.mk (below_step z16_ hb); clear hb))
     go_ret
     exact ⟨z29_, z16_⟩
   rw [if_neg c11] at H
   have c11b0 := beq_eq_false_iff_ne.mpr c11
   have c11b1 := bne_iff_ne.mpr c11
   obtain ⟨t434, A13, H⟩ := bi_ H
   obtain rfl := Option.some.inj H
   go_wp2_with (first | ((with_reducible refine gate_callee (f := 79) rfl ?_); refine goesL_ (some 15) rfl rfl Try.func79 (by kernel_rfl) rfl #[.slice A1 l1.length c1] rfl z14_ ?_; (with_reducible refine (impl_gcd.calls kj2 _ _ l1 t433 _ ?side1 ?side2 A10.out).mono ?_); (case side1 => repeat (first | exact (Kd.C_below HR1.out HB.out) | (with_reducible refine Kd.C_alloc ?_ _) | (with_reducible refine Kd.C_drewN ?_ _) | (with_reducible refine Kd.C_drew ?_))); (case side2 => exact HC1.out); rintro e w14 ⟨rfl, hb⟩; refine ⟨_, rfl, ?_⟩; replace HB:= Aside0.mk (below_step z16_ hb); clear hb) | (go_at_call 83; (with_reducible refine (impl_pair.calls kj2 _ _ l0 _ _ l1 _ _ l1 t434 _ ?side1 ?side2 ?side3 ?side4 ?side5 ?side6 A13.out).mono ?_); (case side1 => repeat (first | exact (Kd.C_below HR0.out HB.out) | (with_reducible refine Kd.C_alloc ?_ _) | (with_reducible refine Kd.C_drewN ?_ _) | (with_reducible refine Kd.C_drew ?_))); (case side2 => exact HC0.out); (case side3 => repeat (first | exact (Kd.C_below HR1.out HB.out) | (with_reducible refine Kd.C_alloc ?_ _) | (with_reducible refine Kd.C_drewN ?_ _) | (with_reducible refine Kd.C_drew ?_))); (case side4 => exact HC1.out); (case side5 => repeat (first | exact (Kd.C_below HR1.out HB.out) | (with_reducible refine Kd.C_alloc ?_ _) | (with_reducible refine Kd.C_drewN ?_ _) | (with_reducible refine Kd.C_drew ?_))); (case side6 => exact HC1.out); rintro e w' ⟨rfl, ⟨nd, rfl⟩⟩))
   go_ret
   exact ⟨z29_, z16_⟩

end Go.Proofs.Ytdeahlommlgceaa.PFnNormal

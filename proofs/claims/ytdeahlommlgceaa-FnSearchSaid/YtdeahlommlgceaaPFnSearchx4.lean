-- Written by a program of this repo (wip/gen/gen.py) over the kit's print.
-- (slim)
import Derived.Test.YtdeahlommlgceaaPFnSearchx0
import Derived.Test.YtdeahlommlgceaaPFnSearchx3
namespace Go.Proofs.Ytdeahlommlgceaa.PFnSearch
open Go.RowKit Go.Proofs.YtdeahlommlgceaaW.PrintWords Go.Proofs.YtdeahlommlgceaaW.PrintLast Go.Proofs.YtdeahlommlgceaaW.PrintMore
attribute [local go_sem] max2_int min2_int max_two min_two max_three min_three max_four min_four   -- for this text's walks alone
set_option linter.unusedVariables false
set_option maxHeartbeats 8000000
set_option maxRecDepth 100000
set_option linter.unusedSimpArgs false

/-! ### spec_FormValid: function 73 -/
def spec_FormValid.l0 : Nat → List Int → Int → Option (Bool)
 | 0, _, _ => none
 | k + 1, x0, x3 => if x3 < (x0.length : Int) then (if 0 ≤ x3 then (if (rd x0 x3) = 0 then (some false) else ((spec_l6In.f (rd x0 x3) (-30) 30).bind fun t164 => (if t164 = true then (spec_FormValid.l0 k x0 (wrap64 (x3 + 1))) else (some false)))) else (none)) else ((spec_l6In.f (x0.length : Int) 1 4).bind fun t165 => (some t165))
def spec_FormValid.f (k : Nat) (l0 : List Int) : Option (Bool) := spec_FormValid.l0 k l0 0
theorem spec_FormValid.mono_l : ∀ k, (∀ y0 y1, LeO (spec_FormValid.l0 k y0 y1) (spec_FormValid.l0 (k + 1) y0 y1))
 | 0 => fun _ _ r h => by simp [spec_FormValid.l0] at h
 | k + 1 => by
  have ih0 := spec_FormValid.mono_l k
  · intro y0 y1
    unfold spec_FormValid.l0
    repeat' first
    | (with_reducible exact ih0 _ _)
    | (with_reducible exact LeO.refl _)
    | (with_reducible exact LeO.none _)
    | (with_reducible refine LeO.ite ?_ ?_)
    | (with_reducible refine LeO.bind ?_ (fun _ => ?_))
    | exact ih0 _ _
    | exact LeO.none _
    | refine LeO.ite ?_ ?_
    | refine LeO.bind ?_ (fun _ => ?_)
theorem spec_FormValid.mono : ∀ a0 k, LeO (spec_FormValid.f k a0) (spec_FormValid.f (k + 1) a0) := by
 intro a0 k
 have ih0 := spec_FormValid.mono_l k
 unfold spec_FormValid.f
 repeat' first
  | (with_reducible exact ih0 _ _)
  | (with_reducible exact LeO.refl _)
  | (with_reducible exact LeO.none _)
  | (with_reducible refine LeO.ite ?_ ?_)
  | (with_reducible refine LeO.bind ?_ (fun _ => ?_))
  | exact ih0 _ _
  | exact LeO.none _
  | refine LeO.ite ?_ ?_
  | refine LeO.bind ?_ (fun _ => ?_)
theorem spec_FormValid.calls (k : Nat) (A0 : Option Addr) (c0 : Nat) (l0 : List Int) (r : Bool) (w : World) (hr0 : Kd.C (Kd.int .i64) w A0 l0.length l0) (hc0 : l0.length ≤ c0) (h : spec_FormValid.f k l0 = some r) :
 Calls Try.prog 73 #[.slice A0 l0.length c0] w fun e w' => e = .returned (.bool r) ∧ Drawn0 w w' := by
 have HR0 := Aside0.mk hr0
 have HC0 := Aside0.mk hc0
 clear hr0 hc0
 have H : (spec_FormValid.l0 k l0 0) = some r := h
 clear h
 have H' := Aside0.mk H
 clear H
 go_enter Try.func73, Try.ntmps73
 go_wp2
 go_loopg [3] k (fun kq v3 w' => ∃ (x3_1 : Int), v3 = .int .i64 x3_1 ∧ Aside0 (spec_FormValid.l0 kq l0 x3_1 = some r) ∧ Aside0 (kq ≤ k) ∧ Drawn0 w w')
 case atStart => exact ⟨(0), z22_, H', ⟨Nat.le_refl _⟩, z20_⟩
 case round =>
  clear H'
  obtain ⟨x3_1, rfl, HA, HK1, ⟨m1, rfl⟩⟩ := hrel
  cases gk with
  | zero => exact absurd HA.out (by simp [spec_FormValid.l0])
  | succ k1 =>
   have H := HA.out
   clear HA
   simp only [spec_FormValid.l0] at H
   by_cases c2 : x3_1 < (l0.length : Int)
   · rw [if_pos c2] at H
     have c2b0 : decide (x3_1 < (l0.length : Int)) = true := decide_eq_true c2
     clear c2
     by_cases c3 : 0 ≤ x3_1
     · rw [if_pos c3] at H
       have c3b0 : decide (0 ≤ x3_1) = true := decide_eq_true c3
       clear c3
       by_cases c4 : (rd l0 x3_1) = 0
       · rw [if_pos c4] at H
         have c4b0 : ((rd l0 x3_1) == 0) = true := beq_iff_eq.mpr c4
         have c4b1 : ((rd l0 x3_1) != 0) = false := bne_eq_false_iff_eq.mpr c4
         clear c4
         obtain rfl := Option.some.inj H
         have p162 : 0 ≤ (x3_1 : Int) := of_decide_eq_true z21_
         have q162 : x3_1 < (l0.length : Int) := of_decide_eq_true z21_
         obtain ⟨ad162, e162, hx162_0⟩ := Kd.at_int HR0.out x3_1 p162 q162
         cases e162
         replace p162 := eq_true p162
         replace q162 := eq_true q162
         go_wp2
         go_ret
         exact ⟨z22_, z20_⟩
       · rw [if_neg c4] at H
         have c4b0 : ((rd l0 x3_1) == 0) = false := beq_eq_false_iff_ne.mpr c4
         have c4b1 : ((rd l0 x3_1) != 0) = true := bne_iff_ne.mpr c4
         replace H := Option.bind_eq_some_iff.mp H
         obtain ⟨t164, A50, H⟩ := H
         replace H : (if t164 = true then (spec_FormValid.l0 k1 l0 (wrap64 (x3_1 + 1))) else (some false)) = some r := H
         have A5 := Aside0.mk A50
         clear A50
         by_cases c6 : t164 = true
         · subst c6
           have H1 : (spec_FormValid.l0 k1 l0 (wrap64 (x3_1 + 1))) = some r := by rw [if_pos rfl] at H; exact H
           clear H
           have H := H1
           clear H1
           have H' := Aside0.mk H
           clear H
           have p162 : 0 ≤ (x3_1 : Int) := of_decide_eq_true z21_
           have q162 : x3_1 < (l0.length : Int) := of_decide_eq_true z21_
           obtain ⟨ad162, e162, hx162_0⟩ := Kd.at_int HR0.out x3_1 p162 q162
           cases e162
           replace p162 := eq_true p162
           replace q162 := eq_true q162
           have p163 : 0 ≤ (x3_1 : Int) := of_decide_eq_true z21_
           have q163 : x3_1 < (l0.length : Int) := of_decide_eq_true z21_
           obtain ⟨ad163, e163, hx163_0⟩ := Kd.at_int HR0.out x3_1 p163 q163
           obtain rfl : ad162 = ad163 := (by injection e163)
           replace p163 := eq_true p163
           replace q163 := eq_true q163
           go_wp2_with (first | (go_at_call 94; (with_reducible refine (spec_l6In.calls (rd l0 x3_1) (-30) 30 true _ A5.out).mono ?_); rintro e w' ⟨rfl, ⟨nd, rfl⟩⟩))
           go_roundg k1
           case measure => have := HK1.out; omega
           case rel => exact ⟨(wrap64 (x3_1 + 1)), z22_, H', ⟨by have := HK1.out; omega⟩, z20_⟩
         · replace c6 := Bool.eq_false_iff.mpr c6
           subst c6
           have H1 : (some false) = some r := by rw [if_neg (show ¬ (false = true) by decide)] at H; exact H
           clear H
           have H := H1
           clear H1
           obtain rfl := Option.some.inj H
           have p162 : 0 ≤ (x3_1 : Int) := of_decide_eq_true z21_
           have q162 : x3_1 < (l0.length : Int) := of_decide_eq_true z21_
           obtain ⟨ad162, e162, hx162_0⟩ := Kd.at_int HR0.out x3_1 p162 q162
           cases e162
           replace p162 := eq_true p162
           replace q162 := eq_true q162
           have p163 : 0 ≤ (x3_1 : Int) := of_decide_eq_true z21_
           have q163 : x3_1 < (l0.length : Int) := of_decide_eq_true z21_
           obtain ⟨ad163, e163, hx163_0⟩ := Kd.at_int HR0.out x3_1 p163 q163
           obtain rfl : ad162 = ad163 := (by injection e163)
           replace p163 := eq_true p163
           replace q163 := eq_true q163
           go_wp2_with (first | (go_at_call 94; (with_reducible refine (spec_l6In.calls (rd l0 x3_1) (-30) 30 false _ A5.out).mono ?_); rintro e w' ⟨rfl, ⟨nd, rfl⟩⟩))
           go_ret
           exact ⟨z22_, z20_⟩
     · rw [if_neg c3] at H
       exact absurd H (by simp)
   · rw [if_neg c2] at H
     have c2b0 : decide (x3_1 < (l0.length : Int)) = false := decide_eq_false c2
     clear c2
     replace H := Option.bind_eq_some_iff.mp H
     obtain ⟨t165, A70, H⟩ := H
     replace H : (some t165) = some r := H
     have A7 := Aside0.mk A70
     clear A70
     obtain rfl := Option.some.inj H
     go_wp2_with (first | ((with_reducible refine gate_callee (f := 94) rfl ?_); refine goesL_ (some 25) rfl rfl Try.func94 (by kernel_rfl) rfl #[.int .i64 (l0.length : Int), .int .i64 1, .int .i64 4] rfl z8_ ?_; (with_reducible refine (spec_l6In.calls (l0.length : Int) 1 4 t165 _ A7.out).mono ?_); rintro e w' ⟨rfl, ⟨nd, rfl⟩⟩; refine ⟨_, rfl, ?_⟩))
     go_ret
     exact ⟨z22_, z20_⟩

/-! ### spec_l1Size: function 104 -/
def spec_l1Size.f (a0 : Int) : Option (Int) := some (mx a0 (wrap64 (-a0)))
theorem spec_l1Size.calls (a0 : Int) (r : Int) (w : World) (h : spec_l1Size.f a0 = some r) :
 Calls Try.prog 104 #[.int .i64 a0] w fun e w' => e = .returned (.int .i64 r) ∧ Below w.heap.size w w' := by
 have HB := Aside0.mk (Below.refl w.heap.size w)
 have H : (some (mx a0 (wrap64 (-a0)))) = some r := h
 clear h
 obtain ⟨ji2, hji2⟩ : ∃ j_ : Int, (mx a0 (wrap64 (-a0))) = j_ := ⟨_, rfl⟩
 replace H : (some ji2) = some r := by first | (rw [hji2] at H; exact H) | (simp only [hji2] at H ⊢; exact H)
 have hji2_ : (if a0 < (wrap64 (-a0)) then (wrap64 (-a0)) else a0) = ji2 := hji2
 obtain rfl := Option.some.inj H
 go_enter Try.func104, Try.ntmps104
 go_wp2
 go_ret
 exact ⟨by first | rfl | (simp [errW_none, errW_some] <;> rfl) | (simp only [← hji2]; first | rfl | (simp [errW_none, errW_some] <;> rfl)) | (simp [*, errW_none, errW_some] <;> rfl), z10_⟩

/-! ### spec_l1Core: function 113 -/
mutual
def spec_l1Core.l0 : Nat → Int → Int → Int → Option (Int × Int)
 | 0, _, _, _ => none
 | k + 1, x0, x4, x5 => (spec_l1Size.f x0).bind fun t166 => (if (wrap64 (x5 * x5)) ≤ t166 then (spec_l1Core.l1 k x0 x4 x5) else (some (x0, x4)))
def spec_l1Core.l1 : Nat → Int → Int → Int → Option (Int × Int)
 | 0, _, _, _ => none
 | k + 1, x0, x4, x5 => if (wrap64 (x5 * x5)) = 0 then (none) else (if (Int.tmod x0 (wrap64 (x5 * x5))) = 0 then (spec_l1Core.l1 k (wrap64 (Int.tdiv x0 (wrap64 (x5 * x5)))) (wrap64 (x4 * x5)) x5) else (spec_l1Core.l0 k x0 x4 (wrap64 (x5 + 1))))
end
def spec_l1Core.f (k : Nat) (a0 : Int) : Option (Int × Int) := spec_l1Core.l0 k a0 1 2
theorem spec_l1Core.mono_l : ∀ k, (∀ y0 y1 y2, LeO (spec_l1Core.l0 k y0 y1 y2) (spec_l1Core.l0 (k + 1) y0 y1 y2)) ∧ (∀ y0 y1 y2, LeO (spec_l1Core.l1 k y0 y1 y2) (spec_l1Core.l1 (k + 1) y0 y1 y2))
 | 0 => ⟨fun _ _ _ r h => by simp [spec_l1Core.l0] at h, fun _ _ _ r h => by simp [spec_l1Core.l1] at h⟩
 | k + 1 => by
  obtain ⟨ih0, ih1⟩ := spec_l1Core.mono_l k
  refine ⟨?_, ?_⟩
  · intro y0 y1 y2
    unfold spec_l1Core.l0
    repeat' first
    | (with_reducible exact ih0 _ _ _)
    | (with_reducible exact ih1 _ _ _)
    | (with_reducible exact LeO.refl _)
    | (with_reducible exact LeO.none _)
    | (with_reducible refine LeO.ite ?_ ?_)
    | (with_reducible refine LeO.bind ?_ (fun _ => ?_))
    | exact ih0 _ _ _
    | exact ih1 _ _ _
    | exact LeO.none _
    | refine LeO.ite ?_ ?_
    | refine LeO.bind ?_ (fun _ => ?_)
  · intro y0 y1 y2
    unfold spec_l1Core.l1
    repeat' first
    | (with_reducible exact ih0 _ _ _)
    | (with_reducible exact ih1 _ _ _)
    | (with_reducible exact LeO.refl _)
    | (with_reducible exact LeO.none _)
    | (with_reducible refine LeO.ite ?_ ?_)
    | (with_reducible refine LeO.bind ?_ (fun _ => ?_))
    | exact ih0 _ _ _
    | exact ih1 _ _ _
    | exact LeO.none _
    | refine LeO.ite ?_ ?_
    | refine LeO.bind ?_ (fun _ => ?_)
theorem spec_l1Core.mono : ∀ a0 k, LeO (spec_l1Core.f k a0) (spec_l1Core.f (k + 1) a0) := by
 intro a0 k
 obtain ⟨ih0, ih1⟩ := spec_l1Core.mono_l k
 unfold spec_l1Core.f
 repeat' first
  | (with_reducible exact ih0 _ _ _)
  | (with_reducible exact ih1 _ _ _)
  | (with_reducible exact LeO.refl _)
  | (with_reducible exact LeO.none _)
  | (with_reducible refine LeO.ite ?_ ?_)
  | (with_reducible refine LeO.bind ?_ (fun _ => ?_))
  | exact ih0 _ _ _
  | exact ih1 _ _ _
  | exact LeO.none _
  | refine LeO.ite ?_ ?_
  | refine LeO.bind ?_ (fun _ => ?_)
theorem spec_l1Core.calls (k : Nat) (a0 : Int) (r1 : Int) (r2 : Int) (w : World) (h : spec_l1Core.f k a0 = some (r1, r2)) :
 Calls Try.prog 113 #[.int .i64 a0] w fun e w' => e = .returned (.tuple #[.int .i64 r1, .int .i64 r2]) ∧ Below w.heap.size w w' := by
 have HB := Aside0.mk (Below.refl w.heap.size w)
 have H : (spec_l1Core.l0 k a0 1 2) = some (r1, r2) := h
 clear h
 have H' := Aside0.mk H
 clear H
 go_enter Try.func113, Try.ntmps113
 go_wp2
 go_loopg [0, 4, 5] k (fun kq v0 v4 v5 w' => ∃ (x0_1 : Int) (x4_1 : Int) (x5_1 : Int), v0 = .int .i64 x0_1 ∧ v4 = .int .i64 x4_1 ∧ v5 = .int .i64 x5_1 ∧ Aside0 (spec_l1Core.l0 kq x0_1 x4_1 x5_1 = some (r1, r2)) ∧ Aside0 (kq ≤ k) ∧ Aside0 (Below w.heap.size w w'))
 case atStart => exact ⟨(a0), (1), (2), z22_, z22_, z22_, H', ⟨Nat.le_refl _⟩, ⟨z10_⟩⟩
 case round =>
  clear H'
  try clear c1
  obtain ⟨x0_1, x4_1, x5_1, rfl, rfl, rfl, HA, HK1, HB⟩ := hrel
  cases gk with
  | zero => exact absurd HA.out (by simp [spec_l1Core.l0])
  | succ k1 =>
   have H := HA.out
   clear HA
   simp only [spec_l1Core.l0] at H
   replace H := Option.bind_eq_some_iff.mp H
   obtain ⟨t166, A20, H⟩ := H
   replace H : (if (wrap64 (x5_1 * x5_1)) ≤ t166 then (spec_l1Core.l1 k1 x0_1 x4_1 x5_1) else (some (x0_1, x4_1))) = some (r1, r2) := H
   have A2 := Aside0.mk A20
   clear A20
   by_cases c3 : (wrap64 (x5_1 * x5_1)) ≤ t166
   · rw [if_pos c3] at H
     have c3b0 : decide ((wrap64 (x5_1 * x5_1)) ≤ t166) = true := decide_eq_true c3
     clear c3
     have H' := Aside0.mk H
     clear H
     go_wp2_with (first | ((with_reducible refine gate_callee (f := 104) rfl ?_); refine goesL_ (some 10) rfl rfl Try.func104 (by kernel_rfl) rfl #[.int .i64 x0_1] rfl z8_ ?_; (with_reducible refine (spec_l1Size.calls x0_1 t166 _ A2.out).mono ?_); rintro e w4 ⟨rfl, hb⟩; refine ⟨_, rfl, ?_⟩; have n0_ := Aside0.mk (below_step z10_ hb); clear HB; have HB := n0_; clear n0_; (try clear hb); (try clear hb2); (try clear hk); (try clear hi)))
     go_loopg [0, 4] k1 (fun kq v0 v4 w' => ∃ (x0_2 : Int) (x4_2 : Int), v0 = .int .i64 x0_2 ∧ v4 = .int .i64 x4_2 ∧ Aside0 (spec_l1Core.l1 kq x0_2 x4_2 x5_1 = some (r1, r2)) ∧ Aside0 (kq ≤ k1) ∧ Aside0 (Below w.heap.size w w'))
     case atStart => exact ⟨(x0_1), (x4_1), z22_, z22_, H', ⟨Nat.le_refl _⟩, ⟨z10_⟩⟩
     case round =>
      clear H'
      try clear c1
      try clear p2
      try clear c3
      try clear c3b0
      obtain ⟨x0_2, x4_2, rfl, rfl, HA, HK2, HB⟩ := hrel
      cases gk with
      | zero => exact absurd HA.out (by simp [spec_l1Core.l1])
      | succ k2 =>
       have H := HA.out
       clear HA
       simp only [spec_l1Core.l1] at H
       by_cases c5 : (wrap64 (x5_1 * x5_1)) = 0
       · rw [if_pos c5] at H
         exact absurd H (by simp)
       · rw [if_neg c5] at H
         have c5b0 : ((wrap64 (x5_1 * x5_1)) == 0) = false := beq_eq_false_iff_ne.mpr c5
         have c5b1 : ((wrap64 (x5_1 * x5_1)) != 0) = true := bne_iff_ne.mpr c5
         by_cases c6 : (Int.tmod x0_2 (wrap64 (x5_1 * x5_1))) = 0
         · rw [if_pos c6] at H
           have c6b0 : ((Int.tmod x0_2 (wrap64 (x5_1 * x5_1))) == 0) = true := beq_iff_eq.mpr c6
           have c6b1 : ((Int.tmod x0_2 (wrap64 (x5_1 * x5_1))) != 0) = false := bne_eq_false_iff_eq.mpr c6
           clear c6
           have H' := Aside0.mk H
           clear H
           go_wp2
           go_roundg k2
           case measure => have := HK1.out; have := HK2.out; omega
           case rel => exact ⟨(wrap64 (Int.tdiv x0_2 (wrap64 (x5_1 * x5_1)))), (wrap64 (x4_2 * x5_1)), z22_, z22_, H', ⟨by have := HK1.out; have := HK2.out; omega⟩, ⟨z10_⟩⟩
         · rw [if_neg c6] at H
           have c6b0 : ((Int.tmod x0_2 (wrap64 (x5_1 * x5_1))) == 0) = false := beq_eq_false_iff_ne.mpr c6
           have c6b1 : ((Int.tmod x0_2 (wrap64 (x5_1 * x5_1))) != 0) = true := bne_iff_ne.mpr c6
           have H' := Aside0.mk H
           clear H
           go_wp2
           go_roundg k2
           case measure => have := HK1.out; have := HK2.out; omega
           case rel => exact ⟨(x0_2), (x4_2), (wrap64 (x5_1 + 1)), z22_, z22_, z22_, H', ⟨by have := HK1.out; have := HK2.out; omega⟩, ⟨z10_⟩⟩
   · rw [if_neg c3] at H
     have c3b0 : decide ((wrap64 (x5_1 * x5_1)) ≤ t166) = false := decide_eq_false c3
     clear c3
     simp only [Option.some.injEq, Prod.mk.injEq] at H
     obtain ⟨rfl, rfl⟩ := H
     go_wp2_with (first | ((with_reducible refine gate_callee (f := 104) rfl ?_); refine goesL_ (some 10) rfl rfl Try.func104 (by kernel_rfl) rfl #[.int .i64 x0_1] rfl z8_ ?_; (with_reducible refine (spec_l1Size.calls x0_1 t166 _ A2.out).mono ?_); rintro e w7 ⟨rfl, hb⟩; refine ⟨_, rfl, ?_⟩; have n0_ := Aside0.mk (below_step z10_ hb); clear HB; have HB := n0_; clear n0_; (try clear hb); (try clear hb2); (try clear hk); (try clear hi)))
     go_ret2
     exact ⟨z19_, z10_⟩

/-! ### spec_l1Primes: function 114 -/
mutual
def spec_l1Primes.l0 : Nat → Int → List Int → Int → Option (List Int)
 | 0, _, _, _ => none
 | k + 1, x0, x3, x4 => if (wrap64 (x4 * x4)) ≤ x0 then (if x4 = 0 then (none) else (if (Int.tmod x0 x4) = 0 then (if x3.length < 17592186044416 then (spec_l1Primes.j1 k x0 (x3 ++ [x4]) x4) else (none)) else (spec_l1Primes.j1 k x0 x3 x4))) else (if x0 > 1 then (if x3.length < 17592186044416 then (some (x3 ++ [x0])) else (none)) else (some x3))
def spec_l1Primes.j1 : Nat → Int → List Int → Int → Option (List Int)
 | 0, _, _, _ => none
 | k + 1, x0, x3, x4 => spec_l1Primes.l1 k x0 x3 x4
def spec_l1Primes.l1 : Nat → Int → List Int → Int → Option (List Int)
 | 0, _, _, _ => none
 | k + 1, x0, x3, x4 => if x4 = 0 then (none) else (if (Int.tmod x0 x4) = 0 then (spec_l1Primes.l1 k (wrap64 (Int.tdiv x0 x4)) x3 x4) else (spec_l1Primes.l0 k x0 x3 (wrap64 (x4 + 1))))
end
def spec_l1Primes.f (k : Nat) (a0 : Int) : Option (List Int) := (spec_l1Size.f a0).bind fun t170 => (spec_l1Primes.l0 k t170 (([] : List Int)) 2)
theorem spec_l1Primes.mono_l : ∀ k, (∀ y0 y1 y2, LeO (spec_l1Primes.l0 k y0 y1 y2) (spec_l1Primes.l0 (k + 1) y0 y1 y2)) ∧ (∀ y0 y1 y2, LeO (spec_l1Primes.j1 k y0 y1 y2) (spec_l1Primes.j1 (k + 1) y0 y1 y2)) ∧ (∀ y0 y1 y2, LeO (spec_l1Primes.l1 k y0 y1 y2) (spec_l1Primes.l1 (k + 1) y0 y1 y2))
 | 0 => ⟨fun _ _ _ r h => by simp [spec_l1Primes.l0] at h, fun _ _ _ r h => by simp [spec_l1Primes.j1] at h, fun _ _ _ r h => by simp [spec_l1Primes.l1] at h⟩
 | k + 1 => by
  obtain ⟨ih0, ih1, ih2⟩ := spec_l1Primes.mono_l k
  refine ⟨?_, ?_, ?_⟩
  · intro y0 y1 y2
    unfold spec_l1Primes.l0
    repeat' first
    | (with_reducible exact ih0 _ _ _)
    | (with_reducible exact ih1 _ _ _)
    | (with_reducible exact ih2 _ _ _)
    | (with_reducible exact LeO.refl _)
    | (with_reducible exact LeO.none _)
    | (with_reducible refine LeO.ite ?_ ?_)
    | (with_reducible refine LeO.bind ?_ (fun _ => ?_))
    | exact ih0 _ _ _
    | exact ih1 _ _ _
    | exact ih2 _ _ _
    | exact LeO.none _
    | refine LeO.ite ?_ ?_
    | refine LeO.bind ?_ (fun _ => ?_)
  · intro y0 y1 y2
    unfold spec_l1Primes.j1
    repeat' first
    | (with_reducible exact ih0 _ _ _)
    | (with_reducible exact ih1 _ _ _)
    | (with_reducible exact ih2 _ _ _)
    | (with_reducible exact LeO.refl _)
    | (with_reducible exact LeO.none _)
    | (with_reducible refine LeO.ite ?_ ?_)
    | (with_reducible refine LeO.bind ?_ (fun _ => ?_))
    | exact ih0 _ _ _
    | exact ih1 _ _ _
    | exact ih2 _ _ _
    | exact LeO.none _
    | refine LeO.ite ?_ ?_
    | refine LeO.bind ?_ (fun _ => ?_)
  · intro y0 y1 y2
    unfold spec_l1Primes.l1
    repeat' first
    | (with_reducible exact ih0 _ _ _)
    | (with_reducible exact ih1 _ _ _)
    | (with_reducible exact ih2 _ _ _)
    | (with_reducible exact LeO.refl _)
    | (with_reducible exact LeO.none _)
    | (with_reducible refine LeO.ite ?_ ?_)
    | (with_reducible refine LeO.bind ?_ (fun _ => ?_))
    | exact ih0 _ _ _
    | exact ih1 _ _ _
    | exact ih2 _ _ _
    | exact LeO.none _
    | refine LeO.ite ?_ ?_
    | refine LeO.bind ?_ (fun _ => ?_)
theorem spec_l1Primes.mono : ∀ a0 k, LeO (spec_l1Primes.f k a0) (spec_l1Primes.f (k + 1) a0) := by
 intro a0 k
 obtain ⟨ih0, ih1, ih2⟩ := spec_l1Primes.mono_l k
 unfold spec_l1Primes.f
 repeat' first
  | (with_reducible exact ih0 _ _ _)
  | (with_reducible exact ih1 _ _ _)
  | (with_reducible exact ih2 _ _ _)
  | (with_reducible exact LeO.refl _)
  | (with_reducible exact LeO.none _)
  | (with_reducible refine LeO.ite ?_ ?_)
  | (with_reducible refine LeO.bind ?_ (fun _ => ?_))
  | exact ih0 _ _ _
  | exact ih1 _ _ _
  | exact ih2 _ _ _
  | exact LeO.none _
  | refine LeO.ite ?_ ?_
  | refine LeO.bind ?_ (fun _ => ?_)
theorem spec_l1Primes.calls (k : Nat) (a0 : Int) (r : List Int) (w : World) (h : spec_l1Primes.f k a0 = some r) :
 Calls Try.prog 114 #[.int .i64 a0] w fun e w' => ∃ v0_ : Value, e = .returned (v0_) ∧ Kd.R (Kd.int .i64) 3 w' w.heap.size (fun _ => True) v0_ r ∧ Below w.heap.size w w' := by
 have HB := Aside0.mk (Below.refl w.heap.size w)
 have H : ((spec_l1Size.f a0).bind fun t170 => (spec_l1Primes.l0 k t170 (([] : List Int)) 2)) = some r := h
 clear h
 obtain ⟨y167, hy167⟩ : ∃ y_ : List Int, y_ = (([] : List Int)) := ⟨_, rfl⟩
 replace H : ((spec_l1Size.f a0).bind fun t170 => (spec_l1Primes.l0 k t170 y167 2)) = some r := by first | (rw [hy167]; with_reducible exact H) | (have H2_ := (Option.bind_some _ _).symm.trans H; rw [hy167]; with_reducible exact H2_) | (have H2_ := (Option.bind_some _ _).symm.trans H; with_reducible exact H2_) | with_reducible exact H | (rw [hy167]; exact H) | exact H
 have Ny167 := Aside0.mk hy167
 clear hy167
 replace H := Option.bind_eq_some_iff.mp H
 obtain ⟨t170, A20, H⟩ := H
 replace H : (spec_l1Primes.l0 k t170 y167 2) = some r := H
 have A2 := Aside0.mk A20
 clear A20
 have H' := Aside0.mk H
 clear H
 go_enter Try.func114, Try.ntmps114
 go_wp2_with (first | ((with_reducible refine gate_dst (N := 5) rfl ?_); refine Kd.R_lit (Kd.int .i64) _ 3 ?hg (N := 5) ?hd (xs := ([] : List Int)) (inner := []) (ok := fun _ => True) (okp := fun _ => True) ?hr ?hp (fun _ hk => hk) trivial (Below.refl _ _) (Nat.le_refl _) (by simp) ?_; (case hd => rfl); (case hg => rfl); (case hr => first | (go_simp; done) | (go_simp; rfl)); (case hp => exact (Reps.none _ _)); intro v168 w3 ho4 hb hg_ hnew_; clear hg_ hnew_; (first | rw [← Ny167.out] at ho4 | (simp only [Int.reduceToNat] at ho4; rw [← Ny167.out] at ho4)); have n0_ := Aside0.mk (Kd.R_lower ho4 (below_size z10_)); have n1_ := Aside0.mk (below_step z10_ hb); clear HB; have HO169 := n0_; have HB := n1_; clear n0_ n1_; clear hb ho4) | ((with_reducible refine gate_callee (f := 104) rfl ?_); refine goesL_ (some 7) rfl rfl Try.func104 (by kernel_rfl) rfl #[.int .i64 a0] rfl z8_ ?_; (with_reducible refine (spec_l1Size.calls a0 t170 _ A2.out).mono ?_); rintro e w5 ⟨rfl, hb⟩; refine ⟨_, rfl, ?_⟩; have n0_ := Aside0.mk (Kd.R_below (by (with_reducible repeat (first | apply Kd.R_alloc | apply Kd.R_drewN | apply Kd.R_drew)); exact HO169.out) hb); have n1_ := Aside0.mk (below_step z10_ hb); clear HO169; clear HB; have HO169 := n0_; have HB := n1_; clear n0_ n1_; (try clear hb); (try clear hb2); (try clear hk); (try clear hi)))
 go_loopg [0, 3, 4] k (fun kq v0 v3 v4 w' => ∃ (x0_1 : Int) (x3_1 : List Int) (x4_1 : Int), v0 = .int .i64 x0_1 ∧ v4 = .int .i64 x4_1 ∧ Aside0 (spec_l1Primes.l0 kq x0_1 x3_1 x4_1 = some r) ∧ Aside0 (kq ≤ k) ∧ Aside0 (Kd.R (Kd.int .i64) 3 w' w.heap.size (fun _ => True) v3 x3_1) ∧ Aside0 (Below w.heap.size w w'))
 case atStart => exact ⟨(t170), (y167), (2), z22_, z22_, H', ⟨Nat.le_refl _⟩, ⟨by (with_reducible repeat (first | apply Kd.R_alloc | apply Kd.R_drewN | apply Kd.R_drew)); exact HO169.out⟩, ⟨z10_⟩⟩
 case round =>
  clear H'
  try clear c1
  try clear p2
  obtain ⟨x0_1, x3_1, x4_1, rfl, rfl, HA, HK1, HO_3, HB⟩ := hrel
  cases gk with
  | zero => exact absurd HA.out (by simp [spec_l1Primes.l0])
  | succ k1 =>
   have H := HA.out
   clear HA
   simp only [spec_l1Primes.l0] at H
   by_cases c6 : (wrap64 (x4_1 * x4_1)) ≤ x0_1
   · rw [if_pos c6] at H
     have c6b0 : decide ((wrap64 (x4_1 * x4_1)) ≤ x0_1) = true := decide_eq_true c6
     clear c6
     by_cases c7 : x4_1 = 0
     · rw [if_pos c7] at H
       exact absurd H (by simp)
     · rw [if_neg c7] at H
       have c7b0 : (x4_1 == 0) = false := beq_eq_false_iff_ne.mpr c7
       have c7b1 : (x4_1 != 0) = true := bne_iff_ne.mpr c7
       have HC8 := Aside0.mk H
       clear H
       go_upto_if 18 with (fail)
       go_cut [3] (fun v3 wc => ∃ (kq : Nat) (x3_7 : List Int), Aside0 (spec_l1Primes.j1 kq x0_1 x3_7 x4_1 = some r) ∧ Aside0 (kq ≤ k1) ∧ Aside0 (Kd.R (Kd.int .i64) 3 wc w.heap.size (fun _ => True) v3 x3_7) ∧ Aside0 (Below w.heap.size w wc))
       case first =>
        have H := HC8.out
        clear HC8
        by_cases c9 : (Int.tmod x0_1 x4_1) = 0
        · rw [if_pos c9] at H
          have c9b0 : ((Int.tmod x0_1 x4_1) == 0) = true := beq_iff_eq.mpr c9
          have c9b1 : ((Int.tmod x0_1 x4_1) != 0) = false := bne_eq_false_iff_eq.mpr c9
          clear c9
          (first | rw [c9b0] | (simp only [i64_w, i32_w]; rw [c9b0]) | skip)
          by_cases c10 : x3_1.length < 17592186044416
          · rw [if_pos c10] at H
            have LMc10 := Aside0.mk c10
            clear c10
            obtain ⟨y174, hy174⟩ : ∃ y_ : List Int, y_ = (x3_1 ++ [x4_1]) := ⟨_, rfl⟩
            replace H : (spec_l1Primes.j1 k1 x0_1 y174 x4_1) = some r := by first | (rw [hy174]; with_reducible exact H) | (have H2_ := (Option.bind_some _ _).symm.trans H; rw [hy174]; with_reducible exact H2_) | (have H2_ := (Option.bind_some _ _).symm.trans H; with_reducible exact H2_) | with_reducible exact H | (rw [hy174]; exact H) | exact H
            have Ny174 := Aside0.mk hy174
            clear hy174
            have H' := Aside0.mk H
            clear H
            go_wp2_with (first | ((with_reducible refine gate_builtin (b := .append) (xs := #[.tmp 19, .tmp 21]) rfl ?_); at_builtin; refine Kd.R_append (Kd.int .i64) (w0 := w) w.heap.size rfl (.tmp 19) (.tmp 21) 23 3 (.int .i64 0) 8 rfl Try.underlying23 info3 rfl (by decide) (by omega) u3 x3_1 x4_1 [.int .i64 x4_1] (fun _ => True) (fun _ => False) rfl rfl ?aP (fun _ hk => hk.elim) ?aF ?aO ?aB ?aS ?aL ?_; (case aP => exact rfl); (case aB => exact z10_); (case aF => exact (fun _ _ => trivial)); (case aO => exact z16_); (case aS => exact (below_size z10_)); (case aL => have := LMc10.out; omega); intro v175 w11 ho hb hg hat; rw [← Ny174.out] at ho; have n0_ := Aside0.mk (hb); have n1_ := Aside0.mk (ho); clear HB; clear HO_3; have HB := n0_; have HO176 := n1_; clear n0_ n1_; clear ho hb hg hat))
            go_meet
            case rel => exact ⟨_, (y174), H', ⟨by have := HK1.out; first | omega | exact Nat.le_refl _⟩, ⟨by (with_reducible repeat (first | apply Kd.R_alloc | apply Kd.R_drewN | apply Kd.R_drew)); exact HO176.out⟩, ⟨z10_⟩⟩
          · rw [if_neg c10] at H
            exact absurd H (by simp)
        · rw [if_neg c9] at H
          have c9b0 : ((Int.tmod x0_1 x4_1) == 0) = false := beq_eq_false_iff_ne.mpr c9
          have c9b1 : ((Int.tmod x0_1 x4_1) != 0) = true := bne_iff_ne.mpr c9
          (first | rw [c9b0] | (simp only [i64_w, i32_w]; rw [c9b0]) | skip)
          have H' := Aside0.mk H
          clear H
          go_wp2
          go_meet
          case rel => exact ⟨_, (x3_1), H', ⟨by have := HK1.out; first | omega | exact Nat.le_refl _⟩, ⟨z16_⟩, ⟨z10_⟩⟩
       case rest =>
        clear HC8
        try clear c1
        try clear p2
        try clear c6
        try clear c6b0
        try clear p6
        try clear c7
        try clear c7b0
        try clear c7b1
        try clear c9
        try clear c9b0
        try clear c9b1
        try clear c10
        try clear c11
        try clear p2
        obtain ⟨kq, x3_7, HA, HJ7, HO_3, HB⟩ := hcut
        cases kq with
        | zero => exact absurd HA.out (by simp [spec_l1Primes.j1])
        | succ kj7 =>
         have H := HA.out
         clear HA
         simp only [spec_l1Primes.j1] at H
         have H' := Aside0.mk H
         clear H
         go_wp2
         go_loopg [0] kj7 (fun kq v0 w' => ∃ (x0_3 : Int), v0 = .int .i64 x0_3 ∧ Aside0 (spec_l1Primes.l1 kq x0_3 x3_7 x4_1 = some r) ∧ Aside0 (kq ≤ kj7) ∧ Aside0 (Kd.R (Kd.int .i64) 3 w' w.heap.size (fun _ => True) u3 x3_7) ∧ Aside0 (Below w.heap.size w w'))
         case atStart => exact ⟨(x0_1), z22_, H', ⟨Nat.le_refl _⟩, ⟨z16_⟩, ⟨z10_⟩⟩
         case round =>
          clear H'
          try clear c1
          try clear p2
          try clear c6
          try clear c6b0
          try clear p6
          try clear c7
          try clear c7b0
          try clear c7b1
          try clear c9
          try clear c9b0
          try clear c9b1
          try clear c10
          try clear c11
          try clear p2
          try clear p6
          obtain ⟨x0_3, rfl, HA, HK3, HO_3, HB⟩ := hrel
          cases gk with
          | zero => exact absurd HA.out (by simp [spec_l1Primes.l1])
          | succ k3 =>
           have H := HA.out
           clear HA
           simp only [spec_l1Primes.l1] at H
           by_cases c12 : x4_1 = 0
           · rw [if_pos c12] at H
             exact absurd H (by simp)
           · rw [if_neg c12] at H
             have c12b0 : (x4_1 == 0) = false := beq_eq_false_iff_ne.mpr c12
             have c12b1 : (x4_1 != 0) = true := bne_iff_ne.mpr c12
             by_cases c13 : (Int.tmod x0_3 x4_1) = 0
             · rw [if_pos c13] at H
               have c13b0 : ((Int.tmod x0_3 x4_1) == 0) = true := beq_iff_eq.mpr c13
               have c13b1 : ((Int.tmod x0_3 x4_1) != 0) = false := bne_eq_false_iff_eq.mpr c13
               clear c13
               have H' := Aside0.mk H
               clear H
               go_wp2
               go_roundg k3
               case measure => have := HK1.out; have := HJ7.out; have := HK3.out; omega
               case rel => exact ⟨(wrap64 (Int.tdiv x0_3 x4_1)), z22_, H', ⟨by have := HK1.out; have := HJ7.out; have := HK3.out; omega⟩, ⟨z16_⟩, ⟨z10_⟩⟩
             · rw [if_neg c13] at H
               have c13b0 : ((Int.tmod x0_3 x4_1) == 0) = false := beq_eq_false_iff_ne.mpr c13
               have c13b1 : ((Int.tmod x0_3 x4_1) != 0) = true := bne_iff_ne.mpr c13
               have H' := Aside0.mk H
               clear H
               go_wp2
               go_roundg k3
               case measure => have := HK1.out; have := HJ7.out; have := HK3.out; omega
               case rel => exact ⟨(x0_3), (x3_7), (wrap64 (x4_1 + 1)), z22_, z22_, H', ⟨by have := HK1.out; have := HJ7.out; have := HK3.out; omega⟩, ⟨z16_⟩, ⟨z10_⟩⟩
   · rw [if_neg c6] at H
     have c6b0 : decide ((wrap64 (x4_1 * x4_1)) ≤ x0_1) = false := decide_eq_false c6
     clear c6
     by_cases c14 : x0_1 > 1
     · rw [if_pos c14] at H
       have c14b0 : decide (1 < x0_1) = true := decide_eq_true c14
       clear c14
       by_cases c15 : x3_1.length < 17592186044416
       · rw [if_pos c15] at H
         have LMc15 := Aside0.mk c15
         clear c15
         obtain ⟨y171, hy171⟩ : ∃ y_ : List Int, y_ = (x3_1 ++ [x0_1]) := ⟨_, rfl⟩
         replace H : (some y171) = some r := by first | (rw [hy171]; with_reducible exact H) | (have H2_ := (Option.bind_some _ _).symm.trans H; rw [hy171]; with_reducible exact H2_) | (have H2_ := (Option.bind_some _ _).symm.trans H; with_reducible exact H2_) | with_reducible exact H | (rw [hy171]; exact H) | exact H
         have Ny171 := Aside0.mk hy171
         clear hy171
         obtain rfl := Option.some.inj H
         go_wp2_with (first | ((with_reducible refine gate_builtin (b := .append) (xs := #[.tmp 32, .tmp 34]) rfl ?_); at_builtin; refine Kd.R_append (Kd.int .i64) (w0 := w) w.heap.size rfl (.tmp 32) (.tmp 34) 23 3 (.int .i64 0) 8 rfl Try.underlying23 info3 rfl (by decide) (by omega) u3 x3_1 x0_1 [.int .i64 x0_1] (fun _ => True) (fun _ => False) rfl rfl ?aP (fun _ hk => hk.elim) ?aF ?aO ?aB ?aS ?aL ?_; (case aP => exact rfl); (case aB => exact z10_); (case aF => exact (fun _ _ => trivial)); (case aO => exact z16_); (case aS => exact (below_size z10_)); (case aL => have := LMc15.out; omega); intro v172 w16 ho hb hg hat; rw [← Ny171.out] at ho; have n0_ := Aside0.mk (hb); have n1_ := Aside0.mk (ho); clear HB; clear HO_3; have HB := n0_; have HO173 := n1_; clear n0_ n1_; clear ho hb hg hat))
         go_ret
         exact ⟨_, z19_, by (with_reducible repeat (first | apply Kd.R_alloc | apply Kd.R_drewN | apply Kd.R_drew)); exact HO173.out, z10_⟩
       · rw [if_neg c15] at H
         exact absurd H (by simp)
     · rw [if_neg c14] at H
       have c14b0 : decide (1 < x0_1) = false := decide_eq_false c14
       clear c14
       obtain rfl := Option.some.inj H
       go_wp2
       go_ret
       exact ⟨_, z19_, z16_, z10_⟩

/-! ### spec_l1Gcd: function 131 -/
def spec_l1Gcd.l0 : Nat → Int → Int → Option (Int)
 | 0, _, _ => none
 | k + 1, x0, x1 => if x1 = 0 then (some x0) else (spec_l1Gcd.l0 k x1 (Int.tmod x0 x1))
def spec_l1Gcd.f (k : Nat) (a0 : Int) (a1 : Int) : Option (Int) := (spec_l1Size.f a0).bind fun t177 => ((spec_l1Size.f a1).bind fun t178 => (spec_l1Gcd.l0 k t177 t178))
theorem spec_l1Gcd.mono_l : ∀ k, (∀ y0 y1, LeO (spec_l1Gcd.l0 k y0 y1) (spec_l1Gcd.l0 (k + 1) y0 y1))
 | 0 => fun _ _ r h => by simp [spec_l1Gcd.l0] at h
 | k + 1 => by
  have ih0 := spec_l1Gcd.mono_l k
  · intro y0 y1
    unfold spec_l1Gcd.l0
    repeat' first
    | (with_reducible exact ih0 _ _)
    | (with_reducible exact LeO.refl _)
    | (with_reducible exact LeO.none _)
    | (with_reducible refine LeO.ite ?_ ?_)
    | (with_reducible refine LeO.bind ?_ (fun _ => ?_))
    | exact ih0 _ _
    | exact LeO.none _
    | refine LeO.ite ?_ ?_
    | refine LeO.bind ?_ (fun _ => ?_)
theorem spec_l1Gcd.mono : ∀ a0 a1 k, LeO (spec_l1Gcd.f k a0 a1) (spec_l1Gcd.f (k + 1) a0 a1) := by
 intro a0 a1 k
 have ih0 := spec_l1Gcd.mono_l k
 unfold spec_l1Gcd.f
 repeat' first
  | (with_reducible exact ih0 _ _)
  | (with_reducible exact LeO.refl _)
  | (with_reducible exact LeO.none _)
  | (with_reducible refine LeO.ite ?_ ?_)
  | (with_reducible refine LeO.bind ?_ (fun _ => ?_))
  | exact ih0 _ _
  | exact LeO.none _
  | refine LeO.ite ?_ ?_
  | refine LeO.bind ?_ (fun _ => ?_)
theorem spec_l1Gcd.calls (k : Nat) (a0 : Int) (a1 : Int) (r : Int) (w : World) (h : spec_l1Gcd.f k a0 a1 = some r) :
 Calls Try.prog 131 #[.int .i64 a0, .int .i64 a1] w fun e w' => e = .returned (.int .i64 r) ∧ Below w.heap.size w w' := by
 have HB := Aside0.mk (Below.refl w.heap.size w)
 have H : ((spec_l1Size.f a0).bind fun t177 => ((spec_l1Size.f a1).bind fun t178 => (spec_l1Gcd.l0 k t177 t178))) = some r := h
 clear h
 replace H := Option.bind_eq_some_iff.mp H
 obtain ⟨t177, A30, H⟩ := H
 replace H : ((spec_l1Size.f a1).bind fun t178 => (spec_l1Gcd.l0 k t177 t178)) = some r := H
 have A3 := Aside0.mk A30
 clear A30
 replace H := Option.bind_eq_some_iff.mp H
 obtain ⟨t178, A40, H⟩ := H
 replace H : (spec_l1Gcd.l0 k t177 t178) = some r := H
 have A4 := Aside0.mk A40
 clear A40
 have H' := Aside0.mk H
 clear H
 go_enter Try.func131, Try.ntmps131
 go_wp2_with (first | ((with_reducible refine gate_callee (f := 104) rfl ?_); refine goesL_ (some 7) rfl rfl Try.func104 (by kernel_rfl) rfl #[.int .i64 a0] rfl z8_ ?_; (with_reducible refine (spec_l1Size.calls a0 t177 _ A3.out).mono ?_); rintro e w5 ⟨rfl, hb⟩; refine ⟨_, rfl, ?_⟩; have n0_ := Aside0.mk (below_step z10_ hb); clear HB; have HB := n0_; clear n0_; (try clear hb); (try clear hb2); (try clear hk); (try clear hi)) | ((with_reducible refine gate_callee (f := 104) rfl ?_); refine goesL_ (some 9) rfl rfl Try.func104 (by kernel_rfl) rfl #[.int .i64 a1] rfl z8_ ?_; (with_reducible refine (spec_l1Size.calls a1 t178 _ A4.out).mono ?_); rintro e w6 ⟨rfl, hb⟩; refine ⟨_, rfl, ?_⟩; have n0_ := Aside0.mk (below_step z10_ hb); clear HB; have HB := n0_; clear n0_; (try clear hb); (try clear hb2); (try clear hk); (try clear hi)))
 go_loopg [0, 1] k (fun kq v0 v1 w' => ∃ (x0_1 : Int) (x1_1 : Int), v0 = .int .i64 x0_1 ∧ v1 = .int .i64 x1_1 ∧ Aside0 (spec_l1Gcd.l0 kq x0_1 x1_1 = some r) ∧ Aside0 (kq ≤ k) ∧ Aside0 (Below w.heap.size w w'))
 case atStart => exact ⟨(t177), (t178), z22_, z22_, H', ⟨Nat.le_refl _⟩, ⟨z10_⟩⟩
 case round =>
  clear H'
  try clear c1
  try clear p2
  obtain ⟨x0_1, x1_1, rfl, rfl, HA, HK1, HB⟩ := hrel
  cases gk with
  | zero => exact absurd HA.out (by simp [spec_l1Gcd.l0])
  | succ k1 =>
   have H := HA.out
   clear HA
   simp only [spec_l1Gcd.l0] at H
   by_cases c7 : x1_1 = 0
   · rw [if_pos c7] at H
     have c7b0 : (x1_1 == 0) = true := beq_iff_eq.mpr c7
     have c7b1 : (x1_1 != 0) = false := bne_eq_false_iff_eq.mpr c7
     clear c7
     obtain rfl := Option.some.inj H
     go_wp2
     go_ret
     exact ⟨z19_, z10_⟩
   · rw [if_neg c7] at H
     have c7b0 : (x1_1 == 0) = false := beq_eq_false_iff_ne.mpr c7
     have c7b1 : (x1_1 != 0) = true := bne_iff_ne.mpr c7
     have H' := Aside0.mk H
     clear H
     go_wp2
     go_roundg k1
     case measure => have := HK1.out; omega
     case rel => exact ⟨(x1_1), (Int.tmod x0_1 x1_1), z22_, z22_, H', ⟨by have := HK1.out; omega⟩, ⟨z10_⟩⟩

end Go.Proofs.Ytdeahlommlgceaa.PFnSearch

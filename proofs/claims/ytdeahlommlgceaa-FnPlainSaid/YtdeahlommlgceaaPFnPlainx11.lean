-- Written by a program of this repo (wip/gen/gen.py) over the kit's print.
-- (slim)
import Derived.Test.YtdeahlommlgceaaPFnPlainx0
import Derived.Test.YtdeahlommlgceaaPFnPlainx1
import Derived.Test.YtdeahlommlgceaaPFnPlainx2
import Derived.Test.YtdeahlommlgceaaPFnPlainx5
import Derived.Test.YtdeahlommlgceaaPFnPlainx10
namespace Go.Proofs.Ytdeahlommlgceaa.PFnPlain
open Go.RowKit Go.Proofs.YtdeahlommlgceaaW.PrintWords Go.Proofs.YtdeahlommlgceaaW.PrintLast Go.Proofs.YtdeahlommlgceaaW.PrintMore
attribute [local go_sem] max2_int min2_int max_two min_two max_three min_three max_four min_four   -- for this text's walks alone
set_option linter.unusedVariables false
set_option maxHeartbeats 8000000
set_option maxRecDepth 100000
set_option linter.unusedSimpArgs false

/-! ### spec_l5Some: function 130 -/
def spec_l5Some.l0 : Nat → List Int → Int → Option (Bool)
 | 0, _, _ => none
 | k + 1, x0, x3 => if x3 < (x0.length : Int) then (if 0 ≤ x3 then (if (rd x0 x3) = 0 then (spec_l5Some.l0 k x0 (wrap64 (x3 + 1))) else (some true)) else (none)) else (some false)
def spec_l5Some.f (k : Nat) (l0 : List Int) : Option (Bool) := spec_l5Some.l0 k l0 0
theorem spec_l5Some.mono_l : ∀ k, (∀ y0 y1, LeO (spec_l5Some.l0 k y0 y1) (spec_l5Some.l0 (k + 1) y0 y1))
 | 0 => fun _ _ r h => by simp [spec_l5Some.l0] at h
 | k + 1 => by
  have ih0 := spec_l5Some.mono_l k
  · intro y0 y1
    unfold spec_l5Some.l0
    repeat' first
    | (with_reducible exact ih0 _ _)
    | (with_reducible exact LeO.refl _)
    | (with_reducible exact LeO.none _)
    | (with_reducible refine LeO.ite ?_ ?_)
    | (with_reducible refine LeO.bind ?_ (fun _ => ?_))
    | exact ih0 _ _
    | exact LeO.none _
    | refine LeO.ite ?_ ?_
    | refine LeO.bind ?_ (fun _ => ?_)
theorem spec_l5Some.mono : ∀ a0 k, LeO (spec_l5Some.f k a0) (spec_l5Some.f (k + 1) a0) := by
 intro a0 k
 have ih0 := spec_l5Some.mono_l k
 unfold spec_l5Some.f
 repeat' first
  | (with_reducible exact ih0 _ _)
  | (with_reducible exact LeO.refl _)
  | (with_reducible exact LeO.none _)
  | (with_reducible refine LeO.ite ?_ ?_)
  | (with_reducible refine LeO.bind ?_ (fun _ => ?_))
  | exact ih0 _ _
  | exact LeO.none _
  | refine LeO.ite ?_ ?_
  | refine LeO.bind ?_ (fun _ => ?_)
theorem spec_l5Some.calls (k : Nat) (A0 : Option Addr) (c0 : Nat) (l0 : List Int) (r : Bool) (w : World) (hr0 : Kd.C (Kd.int .i64) w A0 l0.length l0) (hc0 : l0.length ≤ c0) (h : spec_l5Some.f k l0 = some r) :
 Calls Try.prog 130 #[.slice A0 l0.length c0] w fun e w' => e = .returned (.bool r) ∧ Drawn0 w w' := by
 have HR0 := Aside0.mk hr0
 have HC0 := Aside0.mk hc0
 clear hr0 hc0
 have H : (spec_l5Some.l0 k l0 0) = some r := h
 clear h
 have H' := Aside0.mk H
 clear H
 go_enter Try.func130, Try.ntmps130
 go_wp2
 go_loopg [3] k (fun kq v3 w' => ∃ (x3_1 : Int), v3 = .int .i64 x3_1 ∧ Aside0 (spec_l5Some.l0 kq l0 x3_1 = some r) ∧ Aside0 (kq ≤ k) ∧ Drawn0 w w')
 case atStart => exact ⟨(0), z26_, H', ⟨Nat.le_refl _⟩, z24_⟩
 case round =>
  clear H'
  try clear c1
  obtain ⟨x3_1, rfl, HA, HK1, ⟨m1, rfl⟩⟩ := hrel
  cases gk with
  | zero => exact absurd HA.out (by simp [spec_l5Some.l0])
  | succ k1 =>
   have H := HA.out
   clear HA
   simp only [spec_l5Some.l0] at H
   by_cases c2 : x3_1 < (l0.length : Int)
   · rw [if_pos c2] at H
     have c2b0 : decide (x3_1 < (l0.length : Int)) = true := decide_eq_true c2
     clear c2
     by_cases c3 : 0 ≤ x3_1
     · rw [if_pos c3] at H
       have c3b0 : decide (0 ≤ x3_1) = true := decide_eq_true c3
       clear c3
       by_cases c4 : (rd l0 x3_1) = 0
       · rw [if_pos c4] at H
         have c4b0 : ((rd l0 x3_1) == 0) = true := beq_iff_eq.mpr c4
         have c4b1 : ((rd l0 x3_1) != 0) = false := bne_eq_false_iff_eq.mpr c4
         clear c4
         have H' := Aside0.mk H
         clear H
         have p409 : 0 ≤ (x3_1 : Int) := of_decide_eq_true z25_
         have q409 : x3_1 < (l0.length : Int) := of_decide_eq_true z25_
         obtain ⟨ad409, e409, hx409_0⟩ := Kd.at_int HR0.out x3_1 p409 q409
         cases e409
         replace p409 := eq_true p409
         replace q409 := eq_true q409
         go_wp2
         go_roundg k1
         case measure => have := HK1.out; omega
         case rel => exact ⟨(wrap64 (x3_1 + 1)), z26_, H', ⟨by have := HK1.out; omega⟩, z24_⟩
       · rw [if_neg c4] at H
         have c4b0 : ((rd l0 x3_1) == 0) = false := beq_eq_false_iff_ne.mpr c4
         have c4b1 : ((rd l0 x3_1) != 0) = true := bne_iff_ne.mpr c4
         obtain rfl := Option.some.inj H
         have p409 : 0 ≤ (x3_1 : Int) := of_decide_eq_true z25_
         have q409 : x3_1 < (l0.length : Int) := of_decide_eq_true z25_
         obtain ⟨ad409, e409, hx409_0⟩ := Kd.at_int HR0.out x3_1 p409 q409
         cases e409
         replace p409 := eq_true p409
         replace q409 := eq_true q409
         go_wp2
         go_ret
         exact ⟨z26_, z24_⟩
     · rw [if_neg c3] at H
       exact absurd H (by simp)
   · rw [if_neg c2] at H
     have c2b0 : decide (x3_1 < (l0.length : Int)) = false := decide_eq_false c2
     clear c2
     obtain rfl := Option.some.inj H
     go_wp2
     go_ret
     exact ⟨z26_, z24_⟩

/-! ### spec_ZeroIs: function 103 -/
def spec_ZeroIs.f (k : Nat) (l0 : List Int) (l1 : List Int) : Option (Bool) := (spec_l4Vector.f k l0 l1 1000000).bind fun t410 => (if t410 = true then ((spec_l5Some.f k l1).bind fun t411 => (if t411 = true then ((spec_l4Value.f k l0 l1).bind fun t412 => (some (t412 == 0))) else (some false))) else (some false))
theorem spec_ZeroIs.mono : ∀ a0 a1 k, LeO (spec_ZeroIs.f k a0 a1) (spec_ZeroIs.f (k + 1) a0 a1) := by
 intro a0 a1 k
 unfold spec_ZeroIs.f
 repeat' first
  | (with_reducible exact spec_l4Value.mono _ _ _)
  | (with_reducible exact spec_l4Vector.mono _ _ _ _)
  | (with_reducible exact spec_l5Some.mono _ _)
  | (with_reducible exact LeO.refl _)
  | (with_reducible exact LeO.none _)
  | (with_reducible refine LeO.ite ?_ ?_)
  | (with_reducible refine LeO.bind ?_ (fun _ => ?_))
  | exact spec_l4Value.mono _ _ _
  | exact spec_l4Vector.mono _ _ _ _
  | exact spec_l5Some.mono _ _
  | exact LeO.none _
  | refine LeO.ite ?_ ?_
  | refine LeO.bind ?_ (fun _ => ?_)
theorem spec_ZeroIs.calls (k : Nat) (A0 : Option Addr) (c0 : Nat) (l0 : List Int) (A1 : Option Addr) (c1 : Nat) (l1 : List Int) (r : Bool) (w : World) (hr0 : Kd.C (Kd.int .i64) w A0 l0.length l0) (hc0 : l0.length ≤ c0) (hr1 : Kd.C (Kd.int .i64) w A1 l1.length l1) (hc1 : l1.length ≤ c1) (h : spec_ZeroIs.f k l0 l1 = some r) :
 Calls Try.prog 103 #[.slice A0 l0.length c0, .slice A1 l1.length c1] w fun e w' => e = .returned (.bool r) ∧ Drawn0 w w' := by
 have HR0 := Aside0.mk hr0
 have HC0 := Aside0.mk hc0
 clear hr0 hc0
 have HR1 := Aside0.mk hr1
 have HC1 := Aside0.mk hc1
 clear hr1 hc1
 have H : ((spec_l4Vector.f k l0 l1 1000000).bind fun t410 => (if t410 = true then ((spec_l5Some.f k l1).bind fun t411 => (if t411 = true then ((spec_l4Value.f k l0 l1).bind fun t412 => (some (t412 == 0))) else (some false))) else (some false))) = some r := h
 clear h
 replace H := Option.bind_eq_some_iff.mp H
 obtain ⟨t410, A30, H⟩ := H
 replace H : (if t410 = true then ((spec_l5Some.f k l1).bind fun t411 => (if t411 = true then ((spec_l4Value.f k l0 l1).bind fun t412 => (some (t412 == 0))) else (some false))) else (some false)) = some r := H
 have A3 := Aside0.mk A30
 clear A30
 by_cases c4 : t410 = true
 · subst c4
   have H1 : ((spec_l5Some.f k l1).bind fun t411 => (if t411 = true then ((spec_l4Value.f k l0 l1).bind fun t412 => (some (t412 == 0))) else (some false))) = some r := by rw [if_pos rfl] at H; exact H
   clear H
   have H := H1
   clear H1
   replace H := Option.bind_eq_some_iff.mp H
   obtain ⟨t411, A50, H⟩ := H
   replace H : (if t411 = true then ((spec_l4Value.f k l0 l1).bind fun t412 => (some (t412 == 0))) else (some false)) = some r := H
   have A5 := Aside0.mk A50
   clear A50
   by_cases c6 : t411 = true
   · subst c6
     have H1 : ((spec_l4Value.f k l0 l1).bind fun t412 => (some (t412 == 0))) = some r := by rw [if_pos rfl] at H; exact H
     clear H
     have H := H1
     clear H1
     replace H := Option.bind_eq_some_iff.mp H
     obtain ⟨t412, A70, H⟩ := H
     replace H : (some (t412 == 0)) = some r := H
     have A7 := Aside0.mk A70
     clear A70
     obtain rfl := Option.some.inj H
     go_enter Try.func103, Try.ntmps103
     go_wp2_with (first | ((with_reducible refine gate_callee (f := 129) rfl ?_); refine goesL_ (some 7) rfl rfl Try.func129 (by kernel_rfl) rfl #[.slice A0 l0.length c0, .slice A1 l1.length c1, .int .i64 1000000] rfl z5_ ?_; (with_reducible refine (spec_l4Vector.calls k _ _ l0 _ _ l1 1000000 true _ ?side1 ?side2 ?side3 ?side4 A3.out).mono ?_); (case side1 => repeat (first | exact HR0.out | (with_reducible refine Kd.C_alloc ?_ _) | (with_reducible refine Kd.C_drewN ?_ _) | (with_reducible refine Kd.C_drew ?_))); (case side2 => exact HC0.out); (case side3 => repeat (first | exact HR1.out | (with_reducible refine Kd.C_alloc ?_ _) | (with_reducible refine Kd.C_drewN ?_ _) | (with_reducible refine Kd.C_drew ?_))); (case side4 => exact HC1.out); rintro e w' ⟨rfl, ⟨nd, rfl⟩⟩; refine ⟨_, rfl, ?_⟩) | (go_at_call 130; (with_reducible refine (spec_l5Some.calls k _ _ l1 true _ ?side1 ?side2 A5.out).mono ?_); (case side1 => repeat (first | exact HR1.out | (with_reducible refine Kd.C_alloc ?_ _) | (with_reducible refine Kd.C_drewN ?_ _) | (with_reducible refine Kd.C_drew ?_))); (case side2 => exact HC1.out); rintro e w' ⟨rfl, ⟨nd, rfl⟩⟩) | (go_at_call 124; (with_reducible refine (spec_l4Value.calls k _ _ l0 _ _ l1 t412 _ ?side1 ?side2 ?side3 ?side4 A7.out).mono ?_); (case side1 => repeat (first | exact HR0.out | (with_reducible refine Kd.C_alloc ?_ _) | (with_reducible refine Kd.C_drewN ?_ _) | (with_reducible refine Kd.C_drew ?_))); (case side2 => exact HC0.out); (case side3 => repeat (first | exact HR1.out | (with_reducible refine Kd.C_alloc ?_ _) | (with_reducible refine Kd.C_drewN ?_ _) | (with_reducible refine Kd.C_drew ?_))); (case side4 => exact HC1.out); rintro e w' ⟨rfl, ⟨nd, rfl⟩⟩))
     go_ret
     exact ⟨z26_, z24_⟩
   · replace c6 := Bool.eq_false_iff.mpr c6
     subst c6
     have H1 : (some false) = some r := by rw [if_neg (show ¬ (false = true) by decide)] at H; exact H
     clear H
     have H := H1
     clear H1
     obtain rfl := Option.some.inj H
     go_enter Try.func103, Try.ntmps103
     go_wp2_with (first | ((with_reducible refine gate_callee (f := 129) rfl ?_); refine goesL_ (some 7) rfl rfl Try.func129 (by kernel_rfl) rfl #[.slice A0 l0.length c0, .slice A1 l1.length c1, .int .i64 1000000] rfl z5_ ?_; (with_reducible refine (spec_l4Vector.calls k _ _ l0 _ _ l1 1000000 true _ ?side1 ?side2 ?side3 ?side4 A3.out).mono ?_); (case side1 => repeat (first | exact HR0.out | (with_reducible refine Kd.C_alloc ?_ _) | (with_reducible refine Kd.C_drewN ?_ _) | (with_reducible refine Kd.C_drew ?_))); (case side2 => exact HC0.out); (case side3 => repeat (first | exact HR1.out | (with_reducible refine Kd.C_alloc ?_ _) | (with_reducible refine Kd.C_drewN ?_ _) | (with_reducible refine Kd.C_drew ?_))); (case side4 => exact HC1.out); rintro e w' ⟨rfl, ⟨nd, rfl⟩⟩; refine ⟨_, rfl, ?_⟩) | (go_at_call 130; (with_reducible refine (spec_l5Some.calls k _ _ l1 false _ ?side1 ?side2 A5.out).mono ?_); (case side1 => repeat (first | exact HR1.out | (with_reducible refine Kd.C_alloc ?_ _) | (with_reducible refine Kd.C_drewN ?_ _) | (with_reducible refine Kd.C_drew ?_))); (case side2 => exact HC1.out); rintro e w' ⟨rfl, ⟨nd, rfl⟩⟩))
     go_ret
     exact ⟨z26_, z24_⟩
 · replace c4 := Bool.eq_false_iff.mpr c4
   subst c4
   have H1 : (some false) = some r := by rw [if_neg (show ¬ (false = true) by decide)] at H; exact H
   clear H
   have H := H1
   clear H1
   obtain rfl := Option.some.inj H
   go_enter Try.func103, Try.ntmps103
   go_wp2_with (first | ((with_reducible refine gate_callee (f := 129) rfl ?_); refine goesL_ (some 7) rfl rfl Try.func129 (by kernel_rfl) rfl #[.slice A0 l0.length c0, .slice A1 l1.length c1, .int .i64 1000000] rfl z5_ ?_; (with_reducible refine (spec_l4Vector.calls k _ _ l0 _ _ l1 1000000 false _ ?side1 ?side2 ?side3 ?side4 A3.out).mono ?_); (case side1 => repeat (first | exact HR0.out | (with_reducible refine Kd.C_alloc ?_ _) | (with_reducible refine Kd.C_drewN ?_ _) | (with_reducible refine Kd.C_drew ?_))); (case side2 => exact HC0.out); (case side3 => repeat (first | exact HR1.out | (with_reducible refine Kd.C_alloc ?_ _) | (with_reducible refine Kd.C_drewN ?_ _) | (with_reducible refine Kd.C_drew ?_))); (case side4 => exact HC1.out); rintro e w' ⟨rfl, ⟨nd, rfl⟩⟩; refine ⟨_, rfl, ?_⟩))
   go_ret
   exact ⟨z26_, z24_⟩

/-! ### spec_ZeroPlain: function 51 -/
def spec_ZeroPlain.f (k : Nat) (l0 : List Int) (l1 : List Int) : Option (List Int × Bool) := (spec_ZeroIs.f k l0 l1).bind fun t413 => (if t413 = true then ((spec_l5Plain.f k l1).bind fun t414 => (some (t414, true))) else (some ((([] : List Int)), false)))
theorem spec_ZeroPlain.mono : ∀ a0 a1 k, LeO (spec_ZeroPlain.f k a0 a1) (spec_ZeroPlain.f (k + 1) a0 a1) := by
 intro a0 a1 k
 unfold spec_ZeroPlain.f
 repeat' first
  | (with_reducible exact spec_ZeroIs.mono _ _ _)
  | (with_reducible exact spec_l5Plain.mono _ _)
  | (with_reducible exact LeO.refl _)
  | (with_reducible exact LeO.none _)
  | (with_reducible refine LeO.ite ?_ ?_)
  | (with_reducible refine LeO.bind ?_ (fun _ => ?_))
  | exact spec_ZeroIs.mono _ _ _
  | exact spec_l5Plain.mono _ _
  | exact LeO.none _
  | refine LeO.ite ?_ ?_
  | refine LeO.bind ?_ (fun _ => ?_)
theorem spec_ZeroPlain.calls (k : Nat) (A0 : Option Addr) (c0 : Nat) (l0 : List Int) (A1 : Option Addr) (c1 : Nat) (l1 : List Int) (r1 : List Int) (r2 : Bool) (w : World) (hr0 : Kd.C (Kd.int .i64) w A0 l0.length l0) (hc0 : l0.length ≤ c0) (hr1 : Kd.C (Kd.int .i64) w A1 l1.length l1) (hc1 : l1.length ≤ c1) (h : spec_ZeroPlain.f k l0 l1 = some (r1, r2)) :
 Calls Try.prog 51 #[.slice A0 l0.length c0, .slice A1 l1.length c1] w fun e w' => ∃ v0_ : Value, e = .returned (.tuple #[v0_, .bool r2]) ∧ Kd.R (Kd.int .i64) 3 w' w.heap.size (fun _ => True) v0_ r1 ∧ Below w.heap.size w w' := by
 have HR0 := Aside0.mk hr0
 have HC0 := Aside0.mk hc0
 clear hr0 hc0
 have HR1 := Aside0.mk hr1
 have HC1 := Aside0.mk hc1
 clear hr1 hc1
 have HB := Aside0.mk (Below.refl w.heap.size w)
 have H : ((spec_ZeroIs.f k l0 l1).bind fun t413 => (if t413 = true then ((spec_l5Plain.f k l1).bind fun t414 => (some (t414, true))) else (some ((([] : List Int)), false)))) = some (r1, r2) := h
 clear h
 replace H := Option.bind_eq_some_iff.mp H
 obtain ⟨t413, A30, H⟩ := H
 replace H : (if t413 = true then ((spec_l5Plain.f k l1).bind fun t414 => (some (t414, true))) else (some ((([] : List Int)), false))) = some (r1, r2) := H
 have A3 := Aside0.mk A30
 clear A30
 by_cases c4 : t413 = true
 · subst c4
   have H1 : ((spec_l5Plain.f k l1).bind fun t414 => (some (t414, true))) = some (r1, r2) := by rw [if_pos rfl] at H; exact H
   clear H
   have H := H1
   clear H1
   replace H := Option.bind_eq_some_iff.mp H
   obtain ⟨t414, A50, H⟩ := H
   replace H : (some (t414, true)) = some (r1, r2) := H
   have A5 := Aside0.mk A50
   clear A50
   simp only [Option.some.injEq, Prod.mk.injEq] at H
   obtain ⟨rfl, rfl⟩ := H
   go_enter Try.func51, Try.ntmps51
   go_wp2_with (first | ((with_reducible refine gate_callee (f := 103) rfl ?_); refine goesL_ (some 8) rfl rfl Try.func103 (by kernel_rfl) rfl #[.slice A0 l0.length c0, .slice A1 l1.length c1] rfl z5_ ?_; (with_reducible refine (spec_ZeroIs.calls k _ _ l0 _ _ l1 true _ ?side1 ?side2 ?side3 ?side4 A3.out).mono ?_); (case side1 => repeat (first | exact HR0.out | (with_reducible refine Kd.C_alloc ?_ _) | (with_reducible refine Kd.C_drewN ?_ _) | (with_reducible refine Kd.C_drew ?_))); (case side2 => exact HC0.out); (case side3 => repeat (first | exact HR1.out | (with_reducible refine Kd.C_alloc ?_ _) | (with_reducible refine Kd.C_drewN ?_ _) | (with_reducible refine Kd.C_drew ?_))); (case side4 => exact HC1.out); rintro e w' ⟨rfl, ⟨nd, rfl⟩⟩; refine ⟨_, rfl, ?_⟩) | ((with_reducible refine gate_callee (f := 106) rfl ?_); refine goesL_ (some 12) rfl rfl Try.func106 (by kernel_rfl) rfl #[.slice A1 l1.length c1] rfl z5_ ?_; (with_reducible refine (spec_l5Plain.calls k _ _ l1 t414 _ ?side1 ?side2 A5.out).mono ?_); (case side1 => repeat (first | exact HR1.out | (with_reducible refine Kd.C_alloc ?_ _) | (with_reducible refine Kd.C_drewN ?_ _) | (with_reducible refine Kd.C_drew ?_))); (case side2 => exact HC1.out); rintro e w6 ⟨v415, rfl, ho0, hb⟩; refine ⟨_, rfl, ?_⟩; have n0_ := Aside0.mk (Kd.R_lower ho0 (below_size z7_)); have n1_ := Aside0.mk (below_step z7_ hb); clear HB; have HO416 := n0_; have HB := n1_; clear n0_ n1_; (try clear hb); (try clear hb2); (try clear hk); (try clear hi); (try clear ho0)))
   go_ret2
   exact ⟨_, z23_, by (with_reducible repeat (first | apply Kd.R_alloc | apply Kd.R_drewN | apply Kd.R_drew)); exact HO416.out, z7_⟩
 · replace c4 := Bool.eq_false_iff.mpr c4
   subst c4
   have H1 : (some ((([] : List Int)), false)) = some (r1, r2) := by rw [if_neg (show ¬ (false = true) by decide)] at H; exact H
   clear H
   have H := H1
   clear H1
   obtain ⟨y417, hy417⟩ : ∃ y_ : List Int, y_ = (([] : List Int)) := ⟨_, rfl⟩
   replace H : (some (y417, false)) = some (r1, r2) := by first | (rw [hy417]; with_reducible exact H) | (have H2_ := (Option.bind_some _ _).symm.trans H; rw [hy417]; with_reducible exact H2_) | (have H2_ := (Option.bind_some _ _).symm.trans H; with_reducible exact H2_) | with_reducible exact H | (rw [hy417]; exact H) | exact H
   have Ny417 := Aside0.mk hy417
   clear hy417
   simp only [Option.some.injEq, Prod.mk.injEq] at H
   obtain ⟨rfl, rfl⟩ := H
   go_enter Try.func51, Try.ntmps51
   go_wp2_with (first | ((with_reducible refine gate_callee (f := 103) rfl ?_); refine goesL_ (some 8) rfl rfl Try.func103 (by kernel_rfl) rfl #[.slice A0 l0.length c0, .slice A1 l1.length c1] rfl z5_ ?_; (with_reducible refine (spec_ZeroIs.calls k _ _ l0 _ _ l1 false _ ?side1 ?side2 ?side3 ?side4 A3.out).mono ?_); (case side1 => repeat (first | exact HR0.out | (with_reducible refine Kd.C_alloc ?_ _) | (with_reducible refine Kd.C_drewN ?_ _) | (with_reducible refine Kd.C_drew ?_))); (case side2 => exact HC0.out); (case side3 => repeat (first | exact HR1.out | (with_reducible refine Kd.C_alloc ?_ _) | (with_reducible refine Kd.C_drewN ?_ _) | (with_reducible refine Kd.C_drew ?_))); (case side4 => exact HC1.out); rintro e w' ⟨rfl, ⟨nd, rfl⟩⟩; refine ⟨_, rfl, ?_⟩) | ((with_reducible refine gate_dst (N := 10) rfl ?_); refine Kd.R_lit (Kd.int .i64) _ 3 ?hg (N := 10) ?hd (xs := ([] : List Int)) (inner := []) (ok := fun _ => True) (okp := fun _ => True) ?hr ?hp (fun _ hk => hk) trivial (Below.refl _ _) (Nat.le_refl _) (by simp) ?_; (case hd => rfl); (case hg => rfl); (case hr => first | (go_simp; done) | (go_simp; rfl)); (case hp => exact (Reps.none _ _)); intro v418 w7 ho8 hb hg_ hnew_; clear hg_ hnew_; (first | rw [← Ny417.out] at ho8 | (simp only [Int.reduceToNat] at ho8; rw [← Ny417.out] at ho8)); have n0_ := Aside0.mk (Kd.R_lower ho8 (below_size z7_)); have n1_ := Aside0.mk (below_step z7_ hb); clear HB; have HO419 := n0_; have HB := n1_; clear n0_ n1_; clear hb ho8))
   go_ret2
   exact ⟨_, z23_, by (with_reducible repeat (first | apply Kd.R_alloc | apply Kd.R_drewN | apply Kd.R_drew)); exact HO419.out, z7_⟩

/-! ### laws_minusOf: function 52 -/
def laws_minusOf.l0 : Nat → List Int → List Int → Int → Option (List Int)
 | 0, _, _, _ => none
 | k + 1, x0, x3, x4 => if x4 < (x0.length : Int) then (if 0 ≤ x4 then (if x3.length < 17592186044416 then (laws_minusOf.l0 k x0 (x3 ++ [wrap64 (-(rd x0 x4))]) (wrap64 (x4 + 1))) else (none)) else (none)) else (some x3)
def laws_minusOf.f (k : Nat) (l0 : List Int) : Option (List Int) := laws_minusOf.l0 k l0 (([] : List Int)) 0
theorem laws_minusOf.mono_l : ∀ k, (∀ y0 y1 y2, LeO (laws_minusOf.l0 k y0 y1 y2) (laws_minusOf.l0 (k + 1) y0 y1 y2))
 | 0 => fun _ _ _ r h => by simp [laws_minusOf.l0] at h
 | k + 1 => by
  have ih0 := laws_minusOf.mono_l k
  · intro y0 y1 y2
    unfold laws_minusOf.l0
    repeat' first
    | (with_reducible exact ih0 _ _ _)
    | (with_reducible exact LeO.refl _)
    | (with_reducible exact LeO.none _)
    | (with_reducible refine LeO.ite ?_ ?_)
    | (with_reducible refine LeO.bind ?_ (fun _ => ?_))
    | exact ih0 _ _ _
    | exact LeO.none _
    | refine LeO.ite ?_ ?_
    | refine LeO.bind ?_ (fun _ => ?_)
theorem laws_minusOf.mono : ∀ a0 k, LeO (laws_minusOf.f k a0) (laws_minusOf.f (k + 1) a0) := by
 intro a0 k
 have ih0 := laws_minusOf.mono_l k
 unfold laws_minusOf.f
 repeat' first
  | (with_reducible exact ih0 _ _ _)
  | (with_reducible exact LeO.refl _)
  | (with_reducible exact LeO.none _)
  | (with_reducible refine LeO.ite ?_ ?_)
  | (with_reducible refine LeO.bind ?_ (fun _ => ?_))
  | exact ih0 _ _ _
  | exact LeO.none _
  | refine LeO.ite ?_ ?_
  | refine LeO.bind ?_ (fun _ => ?_)
theorem laws_minusOf.calls (k : Nat) (A0 : Option Addr) (c0 : Nat) (l0 : List Int) (r : List Int) (w : World) (hr0 : Kd.C (Kd.int .i64) w A0 l0.length l0) (hc0 : l0.length ≤ c0) (h : laws_minusOf.f k l0 = some r) :
 Calls Try.prog 52 #[.slice A0 l0.length c0] w fun e w' => ∃ v0_ : Value, e = .returned (v0_) ∧ Kd.R (Kd.int .i64) 3 w' w.heap.size (fun _ => True) v0_ r ∧ Below w.heap.size w w' := by
 have HR0 := Aside0.mk hr0
 have HC0 := Aside0.mk hc0
 clear hr0 hc0
 have HB := Aside0.mk (Below.refl w.heap.size w)
 have H : (laws_minusOf.l0 k l0 (([] : List Int)) 0) = some r := h
 clear h
 obtain ⟨y420, hy420⟩ : ∃ y_ : List Int, y_ = (([] : List Int)) := ⟨_, rfl⟩
 replace H : (laws_minusOf.l0 k l0 y420 0) = some r := by first | (rw [hy420]; with_reducible exact H) | (have H2_ := (Option.bind_some _ _).symm.trans H; rw [hy420]; with_reducible exact H2_) | (have H2_ := (Option.bind_some _ _).symm.trans H; with_reducible exact H2_) | with_reducible exact H | (rw [hy420]; exact H) | exact H
 have Ny420 := Aside0.mk hy420
 clear hy420
 have H' := Aside0.mk H
 clear H
 go_enter Try.func52, Try.ntmps52
 go_wp2_with (first | ((with_reducible refine gate_dst (N := 5) rfl ?_); refine Kd.R_lit (Kd.int .i64) _ 3 ?hg (N := 5) ?hd (xs := ([] : List Int)) (inner := []) (ok := fun _ => True) (okp := fun _ => True) ?hr ?hp (fun _ hk => hk) trivial (Below.refl _ _) (Nat.le_refl _) (by simp) ?_; (case hd => rfl); (case hg => rfl); (case hr => first | (go_simp; done) | (go_simp; rfl)); (case hp => exact (Reps.none _ _)); intro v421 w2 ho3 hb hg_ hnew_; clear hg_ hnew_; (first | rw [← Ny420.out] at ho3 | (simp only [Int.reduceToNat] at ho3; rw [← Ny420.out] at ho3)); have n0_ := Aside0.mk (Kd.R_lower ho3 (below_size z7_)); have n1_ := Aside0.mk (below_step z7_ hb); clear HB; have HO422 := n0_; have HB := n1_; clear n0_ n1_; clear hb ho3))
 go_loopg [3, 4] k (fun kq v3 v4 w' => ∃ (x3_1 : List Int) (x4_1 : Int), v4 = .int .i64 x4_1 ∧ Aside0 (laws_minusOf.l0 kq l0 x3_1 x4_1 = some r) ∧ Aside0 (kq ≤ k) ∧ Aside0 (Kd.R (Kd.int .i64) 3 w' w.heap.size (fun _ => True) v3 x3_1) ∧ Aside0 (Below w.heap.size w w'))
 case atStart => exact ⟨(y420), (0), z26_, H', ⟨Nat.le_refl _⟩, ⟨by (with_reducible repeat (first | apply Kd.R_alloc | apply Kd.R_drewN | apply Kd.R_drew)); exact HO422.out⟩, ⟨z7_⟩⟩
 case round =>
  clear H'
  try clear p2
  obtain ⟨x3_1, x4_1, rfl, HA, HK1, HO_3, HB⟩ := hrel
  cases gk with
  | zero => exact absurd HA.out (by simp [laws_minusOf.l0])
  | succ k1 =>
   have H := HA.out
   clear HA
   simp only [laws_minusOf.l0] at H
   by_cases c4 : x4_1 < (l0.length : Int)
   · rw [if_pos c4] at H
     have c4b0 : decide (x4_1 < (l0.length : Int)) = true := decide_eq_true c4
     clear c4
     by_cases c5 : 0 ≤ x4_1
     · rw [if_pos c5] at H
       have c5b0 : decide (0 ≤ x4_1) = true := decide_eq_true c5
       clear c5
       by_cases c6 : x3_1.length < 17592186044416
       · rw [if_pos c6] at H
         have LMc6 := Aside0.mk c6
         clear c6
         obtain ⟨y424, hy424⟩ : ∃ y_ : List Int, y_ = (x3_1 ++ [wrap64 (-(rd l0 x4_1))]) := ⟨_, rfl⟩
         replace H : (laws_minusOf.l0 k1 l0 y424 (wrap64 (x4_1 + 1))) = some r := by first | (rw [hy424]; with_reducible exact H) | (have H2_ := (Option.bind_some _ _).symm.trans H; rw [hy424]; with_reducible exact H2_) | (have H2_ := (Option.bind_some _ _).symm.trans H; with_reducible exact H2_) | with_reducible exact H | (rw [hy424]; exact H) | exact H
         have Ny424 := Aside0.mk hy424
         clear hy424
         have H' := Aside0.mk H
         clear H
         have p423 : 0 ≤ (x4_1 : Int) := of_decide_eq_true z25_
         have q423 : x4_1 < (l0.length : Int) := of_decide_eq_true z25_
         obtain ⟨ad423, e423, hx423_0⟩ := Kd.at_int HR0.out x4_1 p423 q423
         cases e423
         replace hx423_0 := (HB.out.cell (World.block_lt_of_cell? w _ hx423_0)).trans hx423_0
         replace p423 := eq_true p423
         replace q423 := eq_true q423
         go_wp2_with (first | ((with_reducible refine gate_builtin (b := .append) (xs := #[.tmp 12, .tmp 18]) rfl ?_); at_builtin; refine Kd.R_append (Kd.int .i64) (w0 := w) w.heap.size rfl (.tmp 12) (.tmp 18) 23 3 (.int .i64 0) 8 rfl Try.underlying23 info3 rfl (by decide) (by omega) u3 x3_1 (wrap64 (-(rd l0 x4_1))) [.int .i64 (wrap64 (-(rd l0 x4_1)))] (fun _ => True) (fun _ => False) rfl rfl ?aP (fun _ hk => hk.elim) ?aF ?aO ?aB ?aS ?aL ?_; (case aP => exact rfl); (case aB => exact z7_); (case aF => exact (fun _ _ => trivial)); (case aO => exact z22_); (case aS => exact (below_size z7_)); (case aL => have := LMc6.out; omega); intro v425 w7 ho hb hg hat; rw [← Ny424.out] at ho; have n0_ := Aside0.mk (hb); have n1_ := Aside0.mk (ho); clear HB; clear HO_3; have HB := n0_; have HO426 := n1_; clear n0_ n1_; clear ho hb hg hat))
         go_roundg k1
         case measure => have := HK1.out; omega
         case rel => exact ⟨(y424), (wrap64 (x4_1 + 1)), z26_, H', ⟨by have := HK1.out; omega⟩, ⟨by (with_reducible repeat (first | apply Kd.R_alloc | apply Kd.R_drewN | apply Kd.R_drew)); exact HO426.out⟩, ⟨z7_⟩⟩
       · rw [if_neg c6] at H
         exact absurd H (by simp)
     · rw [if_neg c5] at H
       exact absurd H (by simp)
   · rw [if_neg c4] at H
     have c4b0 : decide (x4_1 < (l0.length : Int)) = false := decide_eq_false c4
     clear c4
     obtain rfl := Option.some.inj H
     go_wp2
     go_ret
     exact ⟨_, z23_, z22_, z7_⟩

/-! ### laws_FnPlain: function 11 -/
def laws_FnPlain.j0 : Nat → List Int → List Int → List Int → Bool → List Int → Bool → Bool → Option (Bool)
 | 0, _, _, _, _, _, _, _ => none
 | k + 1, x3, x4, x5, x6, x7, x8, x45 => if x45 = true then (if (x6 == x8) = true then ((laws_sameInts.f k x5 x7).bind fun t442 => (some t442)) else (some false)) else ((impl_ZeroPlain.f k x3 x5).bind fun bt443 => ((laws_minusOf.f k x4).bind fun t447 => ((impl_ZeroPlain.f k x3 t447).bind fun bt450 => (if bt443.2 = true then (if bt450.2 = true then ((laws_sameInts.f k bt443.1 x5).bind fun t454 => (if t454 = true then ((laws_sameInts.f k bt450.1 x5).bind fun t455 => (if t455 = true then ((impl_ZeroIs.f k x3 x5).bind fun t456 => (if t456 = true then ((impl_ZeroHeight.f k x3 x5).bind fun t457 => ((impl_ZeroHeight.f k x3 x4).bind fun t458 => (some (decide (t457 ≤ t458))))) else (some false))) else (some false))) else (some false))) else (some false)) else (some false)))))
def laws_FnPlain.f (k : Nat) (l0 : List Int) : Option (Bool) := if (l0.length : Int) > 1048576 then (some true) else ((spec_DrawZeroPlain.f k l0).bind fun bt427 => ((impl_ZeroPlain.f k bt427.1 bt427.2).bind fun bt433 => ((spec_ZeroPlain.f k bt427.1 bt427.2).bind fun bt437 => (if (bt433.2 != bt437.2) = true then (laws_FnPlain.j0 k bt427.1 bt427.2 bt433.1 bt433.2 bt437.1 bt437.2 true) else ((laws_sameInts.f k bt433.1 bt437.1).bind fun t441 => (if t441 = true then (laws_FnPlain.j0 k bt427.1 bt427.2 bt433.1 bt433.2 bt437.1 bt437.2 (!bt433.2)) else (laws_FnPlain.j0 k bt427.1 bt427.2 bt433.1 bt433.2 bt437.1 bt437.2 true)))))))
theorem laws_FnPlain.mono_l : ∀ k, (∀ y0 y1 y2 y3 y4 y5 y6, LeO (laws_FnPlain.j0 k y0 y1 y2 y3 y4 y5 y6) (laws_FnPlain.j0 (k + 1) y0 y1 y2 y3 y4 y5 y6))
 | 0 => fun _ _ _ _ _ _ _ r h => by simp [laws_FnPlain.j0] at h
 | k + 1 => by
  have ih0 := laws_FnPlain.mono_l k
  · intro y0 y1 y2 y3 y4 y5 y6
    unfold laws_FnPlain.j0
    repeat' first
    | (with_reducible exact ih0 _ _ _ _ _ _ _)
    | (with_reducible exact impl_ZeroHeight.mono _ _ _)
    | (with_reducible exact impl_ZeroIs.mono _ _ _)
    | (with_reducible exact impl_ZeroPlain.mono _ _ _)
    | (with_reducible exact laws_minusOf.mono _ _)
    | (with_reducible exact laws_sameInts.mono _ _ _)
    | (with_reducible exact spec_DrawZeroPlain.mono _ _)
    | (with_reducible exact spec_ZeroPlain.mono _ _ _)
    | (with_reducible exact LeO.refl _)
    | (with_reducible exact LeO.none _)
    | (with_reducible refine LeO.ite ?_ ?_)
    | (with_reducible refine LeO.bind ?_ (fun _ => ?_))
    | exact ih0 _ _ _ _ _ _ _
    | exact impl_ZeroHeight.mono _ _ _
    | exact impl_ZeroIs.mono _ _ _
    | exact impl_ZeroPlain.mono _ _ _
    | exact laws_minusOf.mono _ _
    | exact laws_sameInts.mono _ _ _
    | exact spec_DrawZeroPlain.mono _ _
    | exact spec_ZeroPlain.mono _ _ _
    | exact LeO.none _
    | refine LeO.ite ?_ ?_
    | refine LeO.bind ?_ (fun _ => ?_)
theorem laws_FnPlain.mono : ∀ a0 k, LeO (laws_FnPlain.f k a0) (laws_FnPlain.f (k + 1) a0) := by
 intro a0 k
 have ih0 := laws_FnPlain.mono_l k
 unfold laws_FnPlain.f
 repeat' first
  | (with_reducible exact ih0 _ _ _ _ _ _ _)
  | (with_reducible exact impl_ZeroHeight.mono _ _ _)
  | (with_reducible exact impl_ZeroIs.mono _ _ _)
  | (with_reducible exact impl_ZeroPlain.mono _ _ _)
  | (with_reducible exact laws_minusOf.mono _ _)
  | (with_reducible exact laws_sameInts.mono _ _ _)
  | (with_reducible exact spec_DrawZeroPlain.mono _ _)
  | (with_reducible exact spec_ZeroPlain.mono _ _ _)
  | (with_reducible exact LeO.refl _)
  | (with_reducible exact LeO.none _)
  | (with_reducible refine LeO.ite ?_ ?_)
  | (with_reducible refine LeO.bind ?_ (fun _ => ?_))
  | exact ih0 _ _ _ _ _ _ _
  | exact impl_ZeroHeight.mono _ _ _
  | exact impl_ZeroIs.mono _ _ _
  | exact impl_ZeroPlain.mono _ _ _
  | exact laws_minusOf.mono _ _
  | exact laws_sameInts.mono _ _ _
  | exact spec_DrawZeroPlain.mono _ _
  | exact spec_ZeroPlain.mono _ _ _
  | exact LeO.none _
  | refine LeO.ite ?_ ?_
  | refine LeO.bind ?_ (fun _ => ?_)
theorem laws_FnPlain.calls (k : Nat) (A0 : Option Addr) (c0 : Nat) (l0 : List Int) (r : Bool) (w : World) (hr0 : Kd.C (Kd.int .u8) w A0 l0.length l0) (hc0 : l0.length ≤ c0) (h : laws_FnPlain.f k l0 = some r) :
 Calls Try.prog 11 #[.slice A0 l0.length c0] w fun e w' => e = .returned (.bool r) ∧ Below w.heap.size w w' := by
 have HR0 := Aside0.mk hr0
 have HC0 := Aside0.mk hc0
 clear hr0 hc0
 have HB := Aside0.mk (Below.refl w.heap.size w)
 have H : (if (l0.length : Int) > 1048576 then (some true) else ((spec_DrawZeroPlain.f k l0).bind fun bt427 => ((impl_ZeroPlain.f k bt427.1 bt427.2).bind fun bt433 => ((spec_ZeroPlain.f k bt427.1 bt427.2).bind fun bt437 => (if (bt433.2 != bt437.2) = true then (laws_FnPlain.j0 k bt427.1 bt427.2 bt433.1 bt433.2 bt437.1 bt437.2 true) else ((laws_sameInts.f k bt433.1 bt437.1).bind fun t441 => (if t441 = true then (laws_FnPlain.j0 k bt427.1 bt427.2 bt433.1 bt433.2 bt437.1 bt437.2 (!bt433.2)) else (laws_FnPlain.j0 k bt427.1 bt427.2 bt433.1 bt433.2 bt437.1 bt437.2 true)))))))) = some r := h
 clear h
 by_cases c2 : (l0.length : Int) > 1048576
 · rw [if_pos c2] at H
   have c2b0 : decide (1048576 < (l0.length : Int)) = true := decide_eq_true c2
   have c2b1 : decide (1048576 < l0.length) = true := decide_eq_true (by omega)
   clear c2
   obtain rfl := Option.some.inj H
   go_enter Try.func11, Try.ntmps11
   go_wp2
   go_ret
   exact ⟨z23_, z7_⟩
 · rw [if_neg c2] at H
   have c2b0 : decide (1048576 < (l0.length : Int)) = false := decide_eq_false c2
   have c2b1 : decide (1048576 < l0.length) = false := decide_eq_false (by omega)
   clear c2
   replace H := Option.bind_eq_some_iff.mp H
   obtain ⟨⟨t427, t428⟩, A30, H⟩ := H
   replace H : ((impl_ZeroPlain.f k t427 t428).bind fun bt433 => ((spec_ZeroPlain.f k t427 t428).bind fun bt437 => (if (bt433.2 != bt437.2) = true then (laws_FnPlain.j0 k t427 t428 bt433.1 bt433.2 bt437.1 bt437.2 true) else ((laws_sameInts.f k bt433.1 bt437.1).bind fun t441 => (if t441 = true then (laws_FnPlain.j0 k t427 t428 bt433.1 bt433.2 bt437.1 bt437.2 (!bt433.2)) else (laws_FnPlain.j0 k t427 t428 bt433.1 bt433.2 bt437.1 bt437.2 true)))))) = some r := H
   have A3 := Aside0.mk A30
   clear A30
   replace H := Option.bind_eq_some_iff.mp H
   obtain ⟨⟨t433, t434⟩, A40, H⟩ := H
   replace H : ((spec_ZeroPlain.f k t427 t428).bind fun bt437 => (if (t434 != bt437.2) = true then (laws_FnPlain.j0 k t427 t428 t433 t434 bt437.1 bt437.2 true) else ((laws_sameInts.f k t433 bt437.1).bind fun t441 => (if t441 = true then (laws_FnPlain.j0 k t427 t428 t433 t434 bt437.1 bt437.2 (!t434)) else (laws_FnPlain.j0 k t427 t428 t433 t434 bt437.1 bt437.2 true))))) = some r := H
   have A4 := Aside0.mk A40
   clear A40
   replace H := Option.bind_eq_some_iff.mp H
   obtain ⟨⟨t437, t438⟩, A50, H⟩ := H
   replace H : (if (t434 != t438) = true then (laws_FnPlain.j0 k t427 t428 t433 t434 t437 t438 true) else ((laws_sameInts.f k t433 t437).bind fun t441 => (if t441 = true then (laws_FnPlain.j0 k t427 t428 t433 t434 t437 t438 (!t434)) else (laws_FnPlain.j0 k t427 t428 t433 t434 t437 t438 true)))) = some r := H
   have A5 := Aside0.mk A50
   clear A50
   have HC6 := Aside0.mk H
   clear H
   go_enter Try.func11, Try.ntmps11
   go_upto_region 6 with (first | ((with_reducible refine gate_callee (f := 50) rfl ?_); refine goesL_ (some 18) rfl rfl Try.func50 (by kernel_rfl) rfl #[.slice A0 l0.length c0] rfl z5_ ?_; (with_reducible refine (spec_DrawZeroPlain.calls k _ _ l0 t427 t428 _ ?side1 ?side2 A3.out).mono ?_); (case side1 => repeat (first | exact HR0.out | (with_reducible refine Kd.C_alloc ?_ _) | (with_reducible refine Kd.C_drewN ?_ _) | (with_reducible refine Kd.C_drew ?_))); (case side2 => exact HC0.out); rintro e w7 ⟨v429, v431, rfl, ho0, ho1, hb⟩; refine ⟨_, rfl, ?_⟩; have n0_ := Aside0.mk (Kd.R_lower ho0 (below_size z7_)); have n1_ := Aside0.mk (Kd.R_lower ho1 (below_size z7_)); have n2_ := Aside0.mk (below_step z7_ hb); clear HB; have HO430 := n0_; have HO432 := n1_; have HB := n2_; clear n0_ n1_ n2_; (try clear hb); (try clear hb2); (try clear hk); (try clear hi); (try clear ho0); (try clear ho1); obtain ⟨Ao8, co8, eo8⟩ := Kd.R_slice HO430.out; subst eo8; obtain ⟨Ao9, co9, eo9⟩ := Kd.R_slice HO432.out; subst eo9) | ((with_reducible refine gate_callee (f := 49) rfl ?_); refine goesL_ (some 24) rfl rfl Try.func49 (by kernel_rfl) rfl #[.slice Ao8 t427.length co8, .slice Ao9 t428.length co9] rfl z5_ ?_; (with_reducible refine (impl_ZeroPlain.calls k _ _ t427 _ _ t428 t433 t434 _ ?side1 ?side2 ?side3 ?side4 A4.out).mono ?_); (case side1 => repeat (first | exact (Kd.R_reads' HO430.out).2.2 | (with_reducible refine Kd.C_alloc ?_ _) | (with_reducible refine Kd.C_drewN ?_ _) | (with_reducible refine Kd.C_drew ?_))); (case side2 => exact (Kd.R_reads' HO430.out).2.1); (case side3 => repeat (first | exact (Kd.R_reads' HO432.out).2.2 | (with_reducible refine Kd.C_alloc ?_ _) | (with_reducible refine Kd.C_drewN ?_ _) | (with_reducible refine Kd.C_drew ?_))); (case side4 => exact (Kd.R_reads' HO432.out).2.1); rintro e w10 ⟨v435, rfl, ho0, hb⟩; refine ⟨_, rfl, ?_⟩; have n0_ := Aside0.mk (Kd.R_elder' z8_ (Kd.R_base ho0) hb); have n1_ := Aside0.mk (Kd.R_elder' z9_ (Kd.R_base ho0) hb); have n2_ := Aside0.mk (Kd.R_lower (Kd.R_new' (Kd.R_new' ho0 (Kd.R_lt z8_)) (Kd.R_lt z9_)) (below_size z7_)); have n3_ := Aside0.mk (below_step z7_ hb); clear HO430; clear HO432; clear HB; have HO430 := n0_; have HO432 := n1_; have HO436 := n2_; have HB := n3_; clear n0_ n1_ n2_ n3_; (try clear hb); (try clear hb2); (try clear hk); (try clear hi); (try clear ho0)) | ((with_reducible refine gate_callee (f := 51) rfl ?_); refine goesL_ (some 30) rfl rfl Try.func51 (by kernel_rfl) rfl #[.slice Ao8 t427.length co8, .slice Ao9 t428.length co9] rfl z5_ ?_; (with_reducible refine (spec_ZeroPlain.calls k _ _ t427 _ _ t428 t437 t438 _ ?side1 ?side2 ?side3 ?side4 A5.out).mono ?_); (case side1 => repeat (first | exact (Kd.R_reads' HO430.out).2.2 | (with_reducible refine Kd.C_alloc ?_ _) | (with_reducible refine Kd.C_drewN ?_ _) | (with_reducible refine Kd.C_drew ?_))); (case side2 => exact (Kd.R_reads' HO430.out).2.1); (case side3 => repeat (first | exact (Kd.R_reads' HO432.out).2.2 | (with_reducible refine Kd.C_alloc ?_ _) | (with_reducible refine Kd.C_drewN ?_ _) | (with_reducible refine Kd.C_drew ?_))); (case side4 => exact (Kd.R_reads' HO432.out).2.1); rintro e w11 ⟨v439, rfl, ho0, hb⟩; refine ⟨_, rfl, ?_⟩; have n0_ := Aside0.mk (Kd.R_elder' z8_ (Kd.R_base ho0) hb); have n1_ := Aside0.mk (Kd.R_elder' z9_ (Kd.R_base ho0) hb); have n2_ := Aside0.mk (Kd.R_elder' (by (with_reducible repeat (first | apply Kd.R_alloc | apply Kd.R_drewN | apply Kd.R_drew)); exact HO436.out) (Kd.R_base ho0) hb); have n3_ := Aside0.mk (Kd.R_lower (Kd.R_new' (Kd.R_new' (Kd.R_new' ho0 (Kd.R_lt z8_)) (Kd.R_lt z9_)) (Kd.R_lt (by (with_reducible repeat (first | apply Kd.R_alloc | apply Kd.R_drewN | apply Kd.R_drew)); exact HO436.out))) (below_size z7_)); have n4_ := Aside0.mk (below_step z7_ hb); clear HO430; clear HO432; clear HO436; clear HB; have HO430 := n0_; have HO432 := n1_; have HO436 := n2_; have HO440 := n3_; have HB := n4_; clear n0_ n1_ n2_ n3_ n4_; (try clear hb); (try clear hb2); (try clear hk); (try clear hi); (try clear ho0)))
   (try simp only [Act.put, List.setIfInBounds_toArray, List.set_cons_zero, List.set_cons_succ])
   go_cut [45] (fun v45 wc => ∃ (kq : Nat) (x45_5 : Bool), v45 = .bool x45_5 ∧ Aside0 (laws_FnPlain.j0 kq t427 t428 t433 t434 t437 t438 x45_5 = some r) ∧ Aside0 (kq ≤ k) ∧ Aside0 (Kd.R (Kd.int .i64) 3 wc w.heap.size (fun k_ => some k_ ≠ ((.slice Ao9 t428.length co9) : Value).ownBlock ∧ some k_ ≠ (v435 : Value).ownBlock ∧ some k_ ≠ (v439 : Value).ownBlock) (.slice Ao8 t427.length co8) t427) ∧ Aside0 (Kd.R (Kd.int .i64) 3 wc w.heap.size (fun k_ => some k_ ≠ ((.slice Ao8 t427.length co8) : Value).ownBlock ∧ some k_ ≠ (v435 : Value).ownBlock ∧ some k_ ≠ (v439 : Value).ownBlock) (.slice Ao9 t428.length co9) t428) ∧ Aside0 (Kd.R (Kd.int .i64) 3 wc w.heap.size (fun k_ => some k_ ≠ ((.slice Ao8 t427.length co8) : Value).ownBlock ∧ some k_ ≠ ((.slice Ao9 t428.length co9) : Value).ownBlock ∧ some k_ ≠ (v439 : Value).ownBlock) v435 t433) ∧ Aside0 (Kd.R (Kd.int .i64) 3 wc w.heap.size (fun k_ => some k_ ≠ ((.slice Ao8 t427.length co8) : Value).ownBlock ∧ some k_ ≠ ((.slice Ao9 t428.length co9) : Value).ownBlock ∧ some k_ ≠ (v435 : Value).ownBlock) v439 t437) ∧ Aside0 (Below w.heap.size w wc))
   case first =>
    have H := HC6.out
    clear HC6
    by_cases c12 : (t434 != t438) = true
    · rw [if_pos c12] at H
      have c12b0 : (t434 != t438) = true := c12
      (try (have c12b1 : decide (t434 = t438) = false := by simpa using c12))
      (try (have c12b2 : (t434 == t438) = false := by simpa using c12))
      (try (have c12b3 : ¬ (t434 = t438) := by simpa using c12))
      clear c12
      (first | rw [c12b0] | (simp only [i64_w, i32_w]; rw [c12b0]) | skip)
      have H' := Aside0.mk H
      clear H
      go_wp2
      go_meet
      case rel => exact ⟨_, (true), z26_, H', ⟨z27_⟩, ⟨by (with_reducible repeat (first | apply Kd.R_alloc | apply Kd.R_drewN | apply Kd.R_drew)); exact Kd.R_mono HO430.out (fun _ hk => ⟨hk.1.1, ⟨hk.1.2, hk.2⟩⟩)⟩, ⟨by (with_reducible repeat (first | apply Kd.R_alloc | apply Kd.R_drewN | apply Kd.R_drew)); exact Kd.R_mono HO432.out (fun _ hk => ⟨hk.1.1, ⟨hk.1.2, hk.2⟩⟩)⟩, ⟨by (with_reducible repeat (first | apply Kd.R_alloc | apply Kd.R_drewN | apply Kd.R_drew)); exact Kd.R_mono HO436.out (fun _ hk => ⟨hk.1.1.2, ⟨hk.1.2, hk.2⟩⟩)⟩, ⟨by (with_reducible repeat (first | apply Kd.R_alloc | apply Kd.R_drewN | apply Kd.R_drew)); exact Kd.R_mono HO440.out (fun _ hk => ⟨hk.1.1.2, ⟨hk.1.2, hk.2⟩⟩)⟩, ⟨z7_⟩⟩
    · rw [if_neg c12] at H
      have c12b0 : (t434 != t438) = false := by simpa using c12
      (try (have c12b1 : decide (t434 = t438) = true := by simpa using c12))
      (try (have c12b2 : (t434 == t438) = true := by simpa using c12))
      clear c12
      (first | rw [c12b0] | (simp only [i64_w, i32_w]; rw [c12b0]) | skip)
      replace H := Option.bind_eq_some_iff.mp H
      obtain ⟨t441, A130, H⟩ := H
      replace H : (if t441 = true then (laws_FnPlain.j0 k t427 t428 t433 t434 t437 t438 (!t434)) else (laws_FnPlain.j0 k t427 t428 t433 t434 t437 t438 true)) = some r := H
      have A13 := Aside0.mk A130
      clear A130
      by_cases c14 : t441 = true
      · subst c14
        have H1 : (laws_FnPlain.j0 k t427 t428 t433 t434 t437 t438 (!t434)) = some r := by rw [if_pos rfl] at H; exact H
        clear H
        have H := H1
        clear H1
        have H' := Aside0.mk H
        clear H
        obtain ⟨Ao15, co15, eo15⟩ := Kd.R_slice HO436.out
        subst eo15
        obtain ⟨Ao16, co16, eo16⟩ := Kd.R_slice HO440.out
        subst eo16
        go_wp2_with (first | (go_at_call 22; (with_reducible refine (laws_sameInts.calls k _ _ t433 _ _ t437 true _ ?side1 ?side2 ?side3 ?side4 A13.out).mono ?_); (case side1 => repeat (first | exact (Kd.R_reads' HO436.out).2.2 | (with_reducible refine Kd.C_alloc ?_ _) | (with_reducible refine Kd.C_drewN ?_ _) | (with_reducible refine Kd.C_drew ?_))); (case side2 => exact (Kd.R_reads' HO436.out).2.1); (case side3 => repeat (first | exact (Kd.R_reads' HO440.out).2.2 | (with_reducible refine Kd.C_alloc ?_ _) | (with_reducible refine Kd.C_drewN ?_ _) | (with_reducible refine Kd.C_drew ?_))); (case side4 => exact (Kd.R_reads' HO440.out).2.1); rintro e w' ⟨rfl, ⟨nd, rfl⟩⟩))
        go_meet
        case rel => exact ⟨_, (!t434), z26_, H', ⟨z27_⟩, ⟨by (with_reducible repeat (first | apply Kd.R_alloc | apply Kd.R_drewN | apply Kd.R_drew)); exact Kd.R_mono HO430.out (fun _ hk => ⟨hk.1.1, ⟨hk.1.2, hk.2⟩⟩)⟩, ⟨by (with_reducible repeat (first | apply Kd.R_alloc | apply Kd.R_drewN | apply Kd.R_drew)); exact Kd.R_mono HO432.out (fun _ hk => ⟨hk.1.1, ⟨hk.1.2, hk.2⟩⟩)⟩, ⟨by (with_reducible repeat (first | apply Kd.R_alloc | apply Kd.R_drewN | apply Kd.R_drew)); exact Kd.R_mono HO436.out (fun _ hk => ⟨hk.1.1.2, ⟨hk.1.2, hk.2⟩⟩)⟩, ⟨by (with_reducible repeat (first | apply Kd.R_alloc | apply Kd.R_drewN | apply Kd.R_drew)); exact Kd.R_mono HO440.out (fun _ hk => ⟨hk.1.1.2, ⟨hk.1.2, hk.2⟩⟩)⟩, ⟨z7_⟩⟩
      · replace c14 := Bool.eq_false_iff.mpr c14
        subst c14
        have H1 : (laws_FnPlain.j0 k t427 t428 t433 t434 t437 t438 true) = some r := by rw [if_neg (show ¬ (false = true) by decide)] at H; exact H
        clear H
        have H := H1
        clear H1
        have H' := Aside0.mk H
        clear H
        obtain ⟨Ao17, co17, eo17⟩ := Kd.R_slice HO436.out
        subst eo17
        obtain ⟨Ao18, co18, eo18⟩ := Kd.R_slice HO440.out
        subst eo18
        go_wp2_with (first | (go_at_call 22; (with_reducible refine (laws_sameInts.calls k _ _ t433 _ _ t437 false _ ?side1 ?side2 ?side3 ?side4 A13.out).mono ?_); (case side1 => repeat (first | exact (Kd.R_reads' HO436.out).2.2 | (with_reducible refine Kd.C_alloc ?_ _) | (with_reducible refine Kd.C_drewN ?_ _) | (with_reducible refine Kd.C_drew ?_))); (case side2 => exact (Kd.R_reads' HO436.out).2.1); (case side3 => repeat (first | exact (Kd.R_reads' HO440.out).2.2 | (with_reducible refine Kd.C_alloc ?_ _) | (with_reducible refine Kd.C_drewN ?_ _) | (with_reducible refine Kd.C_drew ?_))); (case side4 => exact (Kd.R_reads' HO440.out).2.1); rintro e w' ⟨rfl, ⟨nd, rfl⟩⟩))
        go_meet
        case rel => exact ⟨_, (true), z26_, H', ⟨z27_⟩, ⟨by (with_reducible repeat (first | apply Kd.R_alloc | apply Kd.R_drewN | apply Kd.R_drew)); exact Kd.R_mono HO430.out (fun _ hk => ⟨hk.1.1, ⟨hk.1.2, hk.2⟩⟩)⟩, ⟨by (with_reducible repeat (first | apply Kd.R_alloc | apply Kd.R_drewN | apply Kd.R_drew)); exact Kd.R_mono HO432.out (fun _ hk => ⟨hk.1.1, ⟨hk.1.2, hk.2⟩⟩)⟩, ⟨by (with_reducible repeat (first | apply Kd.R_alloc | apply Kd.R_drewN | apply Kd.R_drew)); exact Kd.R_mono HO436.out (fun _ hk => ⟨hk.1.1.2, ⟨hk.1.2, hk.2⟩⟩)⟩, ⟨by (with_reducible repeat (first | apply Kd.R_alloc | apply Kd.R_drewN | apply Kd.R_drew)); exact Kd.R_mono HO440.out (fun _ hk => ⟨hk.1.1.2, ⟨hk.1.2, hk.2⟩⟩)⟩, ⟨z7_⟩⟩
   case rest =>
    clear HC6
    try clear c1
    try clear c2
    try clear c2b0
    try clear c2b1
    try clear p2
    try clear c4
    try clear c5
    try clear c11
    try clear c12
    try clear c12b0
    try clear c12b1
    try clear c12b2
    try clear c14
    obtain ⟨kq, x45_5, rfl, HA, HJ5, HO_3, HO_4, HO_5, HO_7, HB⟩ := hcut
    cases kq with
    | zero => exact absurd HA.out (by simp [laws_FnPlain.j0])
    | succ kj5 =>
     have H := HA.out
     clear HA
     simp only [laws_FnPlain.j0] at H
     by_cases c19 : x45_5 = true
     · subst c19
       have H1 : (if (t434 == t438) = true then ((laws_sameInts.f kj5 t433 t437).bind fun t442 => (some t442)) else (some false)) = some r := by rw [if_pos rfl] at H; exact H
       clear H
       have H := H1
       clear H1
       by_cases c20 : (t434 == t438) = true
       · rw [if_pos c20] at H
         have c20b0 : (t434 == t438) = true := c20
         (try (have c20b1 : decide (t434 = t438) = true := by simpa using c20))
         (try (have c20b2 : (t434 == t438) = true := by simpa using c20))
         clear c20
         replace H := Option.bind_eq_some_iff.mp H
         obtain ⟨t442, A210, H⟩ := H
         replace H : (some t442) = some r := H
         have A21 := Aside0.mk A210
         clear A210
         obtain rfl := Option.some.inj H
         obtain ⟨Ao22, co22, eo22⟩ := Kd.R_slice HO_5.out
         subst eo22
         obtain ⟨Ao23, co23, eo23⟩ := Kd.R_slice HO_7.out
         subst eo23
         go_wp2_with (first | (go_at_call 22; (with_reducible refine (laws_sameInts.calls kj5 _ _ t433 _ _ t437 t442 _ ?side1 ?side2 ?side3 ?side4 A21.out).mono ?_); (case side1 => repeat (first | exact (Kd.R_reads' HO_5.out).2.2 | (with_reducible refine Kd.C_alloc ?_ _) | (with_reducible refine Kd.C_drewN ?_ _) | (with_reducible refine Kd.C_drew ?_))); (case side2 => exact (Kd.R_reads' HO_5.out).2.1); (case side3 => repeat (first | exact (Kd.R_reads' HO_7.out).2.2 | (with_reducible refine Kd.C_alloc ?_ _) | (with_reducible refine Kd.C_drewN ?_ _) | (with_reducible refine Kd.C_drew ?_))); (case side4 => exact (Kd.R_reads' HO_7.out).2.1); rintro e w' ⟨rfl, ⟨nd, rfl⟩⟩))
         go_ret
         exact ⟨z23_, z7_⟩
       · rw [if_neg c20] at H
         have c20b0 : (t434 == t438) = false := by simpa using c20
         (try (have c20b1 : decide (t434 = t438) = false := by simpa using c20))
         (try (have c20b2 : (t434 == t438) = false := by simpa using c20))
         (try (have c20b3 : ¬ (t434 = t438) := by simpa using c20))
         clear c20
         obtain rfl := Option.some.inj H
         go_wp2
         go_ret
         exact ⟨z23_, z7_⟩
     · replace c19 := Bool.eq_false_iff.mpr c19
       subst c19
       have H1 : ((impl_ZeroPlain.f kj5 t427 t433).bind fun bt443 => ((laws_minusOf.f kj5 t428).bind fun t447 => ((impl_ZeroPlain.f kj5 t427 t447).bind fun bt450 => (if bt443.2 = true then (if bt450.2 = true then ((laws_sameInts.f kj5 bt443.1 t433).bind fun t454 => (if t454 = true then ((laws_sameInts.f kj5 bt450.1 t433).bind fun t455 => (if t455 = true then ((impl_ZeroIs.f kj5 t427 t433).bind fun t456 => (if t456 = true then ((impl_ZeroHeight.f kj5 t427 t433).bind fun t457 => ((impl_ZeroHeight.f kj5 t427 t428).bind fun t458 => (some (decide (t457 ≤ t458))))) else (some false))) else (some false))) else (some false))) else (some false)) else (some false))))) = some r := by rw [if_neg (show ¬ (false = true) by decide)] at H; exact H
       clear H
       have H := H1
       clear H1
       replace H := Option.bind_eq_some_iff.mp H
       obtain ⟨⟨t443, t444⟩, A240, H⟩ := H
       replace H : ((laws_minusOf.f kj5 t428).bind fun t447 => ((impl_ZeroPlain.f kj5 t427 t447).bind fun bt450 => (if t444 = true then (if bt450.2 = true then ((laws_sameInts.f kj5 t443 t433).bind fun t454 => (if t454 = true then ((laws_sameInts.f kj5 bt450.1 t433).bind fun t455 => (if t455 = true then ((impl_ZeroIs.f kj5 t427 t433).bind fun t456 => (if t456 = true then ((impl_ZeroHeight.f kj5 t427 t433).bind fun t457 => ((impl_ZeroHeight.f kj5 t427 t428).bind fun t458 => (some (decide (t457 ≤ t458))))) else (some false))) else (some false))) else (some false))) else (some false)) else (some false)))) = some r := H
       have A24 := Aside0.mk A240
       clear A240
       replace H := Option.bind_eq_some_iff.mp H
       obtain ⟨t447, A250, H⟩ := H
       replace H : ((impl_ZeroPlain.f kj5 t427 t447).bind fun bt450 => (if t444 = true then (if bt450.2 = true then ((laws_sameInts.f kj5 t443 t433).bind fun t454 => (if t454 = true then ((laws_sameInts.f kj5 bt450.1 t433).bind fun t455 => (if t455 = true then ((impl_ZeroIs.f kj5 t427 t433).bind fun t456 => (if t456 = true then ((impl_ZeroHeight.f kj5 t427 t433).bind fun t457 => ((impl_ZeroHeight.f kj5 t427 t428).bind fun t458 => (some (decide (t457 ≤ t458))))) else (some false))) else (some false))) else (some false))) else (some false)) else (some false))) = some r := H
       have A25 := Aside0.mk A250
       clear A250
       replace H := Option.bind_eq_some_iff.mp H
       obtain ⟨⟨t450, t451⟩, A260, H⟩ := H
       replace H : (if t444 = true then (if t451 = true then ((laws_sameInts.f kj5 t443 t433).bind fun t454 => (if t454 = true then ((laws_sameInts.f kj5 t450 t433).bind fun t455 => (if t455 = true then ((impl_ZeroIs.f kj5 t427 t433).bind fun t456 => (if t456 = true then ((impl_ZeroHeight.f kj5 t427 t433).bind fun t457 => ((impl_ZeroHeight.f kj5 t427 t428).bind fun t458 => (some (decide (t457 ≤ t458))))) else (some false))) else (some false))) else (some false))) else (some false)) else (some false)) = some r := H
       have A26 := Aside0.mk A260
       clear A260
       by_cases c27 : t444 = true
       · subst c27
         have H1 : (if t451 = true then ((laws_sameInts.f kj5 t443 t433).bind fun t454 => (if t454 = true then ((laws_sameInts.f kj5 t450 t433).bind fun t455 => (if t455 = true then ((impl_ZeroIs.f kj5 t427 t433).bind fun t456 => (if t456 = true then ((impl_ZeroHeight.f kj5 t427 t433).bind fun t457 => ((impl_ZeroHeight.f kj5 t427 t428).bind fun t458 => (some (decide (t457 ≤ t458))))) else (some false))) else (some false))) else (some false))) else (some false)) = some r := by rw [if_pos rfl] at H; exact H
         clear H
         have H := H1
         clear H1
         by_cases c28 : t451 = true
         · subst c28
           have H1 : ((laws_sameInts.f kj5 t443 t433).bind fun t454 => (if t454 = true then ((laws_sameInts.f kj5 t450 t433).bind fun t455 => (if t455 = true then ((impl_ZeroIs.f kj5 t427 t433).bind fun t456 => (if t456 = true then ((impl_ZeroHeight.f kj5 t427 t433).bind fun t457 => ((impl_ZeroHeight.f kj5 t427 t428).bind fun t458 => (some (decide (t457 ≤ t458))))) else (some false))) else (some false))) else (some false))) = some r := by rw [if_pos rfl] at H; exact H
           clear H
           have H := H1
           clear H1
           replace H := Option.bind_eq_some_iff.mp H
           obtain ⟨t454, A290, H⟩ := H
           replace H : (if t454 = true then ((laws_sameInts.f kj5 t450 t433).bind fun t455 => (if t455 = true then ((impl_ZeroIs.f kj5 t427 t433).bind fun t456 => (if t456 = true then ((impl_ZeroHeight.f kj5 t427 t433).bind fun t457 => ((impl_ZeroHeight.f kj5 t427 t428).bind fun t458 => (some (decide (t457 ≤ t458))))) else (some false))) else (some false))) else (some false)) = some r := H
           have A29 := Aside0.mk A290
           clear A290
           by_cases c30 : t454 = true
           · subst c30
             have H1 : ((laws_sameInts.f kj5 t450 t433).bind fun t455 => (if t455 = true then ((impl_ZeroIs.f kj5 t427 t433).bind fun t456 => (if t456 = true then ((impl_ZeroHeight.f kj5 t427 t433).bind fun t457 => ((impl_ZeroHeight.f kj5 t427 t428).bind fun t458 => (some (decide (t457 ≤ t458))))) else (some false))) else (some false))) = some r := by rw [if_pos rfl] at H; exact H
             clear H
             have H := H1
             clear H1
             replace H := Option.bind_eq_some_iff.mp H
             obtain ⟨t455, A310, H⟩ := H
             replace H : (if t455 = true then ((impl_ZeroIs.f kj5 t427 t433).bind fun t456 => (if t456 = true then ((impl_ZeroHeight.f kj5 t427 t433).bind fun t457 => ((impl_ZeroHeight.f kj5 t427 t428).bind fun t458 => (some (decide (t457 ≤ t458))))) else (some false))) else (some false)) = some r := H
             have A31 := Aside0.mk A310
             clear A310
             by_cases c32 : t455 = true
             · subst c32
               have H1 : ((impl_ZeroIs.f kj5 t427 t433).bind fun t456 => (if t456 = true then ((impl_ZeroHeight.f kj5 t427 t433).bind fun t457 => ((impl_ZeroHeight.f kj5 t427 t428).bind fun t458 => (some (decide (t457 ≤ t458))))) else (some false))) = some r := by rw [if_pos rfl] at H; exact H
               clear H
               have H := H1
               clear H1
               replace H := Option.bind_eq_some_iff.mp H
               obtain ⟨t456, A330, H⟩ := H
               replace H : (if t456 = true then ((impl_ZeroHeight.f kj5 t427 t433).bind fun t457 => ((impl_ZeroHeight.f kj5 t427 t428).bind fun t458 => (some (decide (t457 ≤ t458))))) else (some false)) = some r := H
               have A33 := Aside0.mk A330
               clear A330
               by_cases c34 : t456 = true
               · subst c34
                 have H1 : ((impl_ZeroHeight.f kj5 t427 t433).bind fun t457 => ((impl_ZeroHeight.f kj5 t427 t428).bind fun t458 => (some (decide (t457 ≤ t458))))) = some r := by rw [if_pos rfl] at H; exact H
                 clear H
                 have H := H1
                 clear H1
                 replace H := Option.bind_eq_some_iff.mp H
                 obtain ⟨t457, A350, H⟩ := H
                 replace H : ((impl_ZeroHeight.f kj5 t427 t428).bind fun t458 => (some (decide (t457 ≤ t458)))) = some r := H
                 have A35 := Aside0.mk A350
                 clear A350
                 replace H := Option.bind_eq_some_iff.mp H
                 obtain ⟨t458, A360, H⟩ := H
                 replace H : (some (decide (t457 ≤ t458))) = some r := H
                 have A36 := Aside0.mk A360
                 clear A360
                 obtain rfl := Option.some.inj H
                 obtain ⟨Ao37, co37, eo37⟩ := Kd.R_slice HO_5.out
                 subst eo37
                 go_wp2_with (first | ((with_reducible refine gate_callee (f := 49) rfl ?_); refine goesL_ (some 57) rfl rfl Try.func49 (by kernel_rfl) rfl #[.slice Ao8 t427.length co8, .slice Ao37 t433.length co37] rfl z5_ ?_; (with_reducible refine (impl_ZeroPlain.calls kj5 _ _ t427 _ _ t433 t443 true _ ?side1 ?side2 ?side3 ?side4 A24.out).mono ?_); (case side1 => repeat (first | exact (Kd.R_reads' HO_3.out).2.2 | (with_reducible refine Kd.C_alloc ?_ _) | (with_reducible refine Kd.C_drewN ?_ _) | (with_reducible refine Kd.C_drew ?_))); (case side2 => exact (Kd.R_reads' HO_3.out).2.1); (case side3 => repeat (first | exact (Kd.R_reads' HO_5.out).2.2 | (with_reducible refine Kd.C_alloc ?_ _) | (with_reducible refine Kd.C_drewN ?_ _) | (with_reducible refine Kd.C_drew ?_))); (case side4 => exact (Kd.R_reads' HO_5.out).2.1); rintro e w38 ⟨v445, rfl, ho0, hb⟩; refine ⟨_, rfl, ?_⟩; have n0_ := Aside0.mk (Kd.R_elder' z22_ (Kd.R_base ho0) hb); have n1_ := Aside0.mk (Kd.R_elder' z20_ (Kd.R_base ho0) hb); have n2_ := Aside0.mk (Kd.R_elder' z21_ (Kd.R_base ho0) hb); have n3_ := Aside0.mk (Kd.R_elder' z19_ (Kd.R_base ho0) hb); have n4_ := Aside0.mk (Kd.R_lower (Kd.R_new' (Kd.R_new' (Kd.R_new' (Kd.R_new' ho0 (Kd.R_lt z22_)) (Kd.R_lt z20_)) (Kd.R_lt z21_)) (Kd.R_lt z19_)) (below_size z7_)); have n5_ := Aside0.mk (below_step z7_ hb); clear HO_3; clear HO_4; clear HO_5; clear HO_7; clear HB; have HO_3 := n0_; have HO_4 := n1_; have HO_5 := n2_; have HO_7 := n3_; have HO446 := n4_; have HB := n5_; clear n0_ n1_ n2_ n3_ n4_ n5_; (try clear hb); (try clear hb2); (try clear hk); (try clear hi); (try clear ho0)) | ((with_reducible refine gate_callee (f := 52) rfl ?_); refine goesL_ (some 63) rfl rfl Try.func52 (by kernel_rfl) rfl #[.slice Ao9 t428.length co9] rfl z5_ ?_; (with_reducible refine (laws_minusOf.calls kj5 _ _ t428 t447 _ ?side1 ?side2 A25.out).mono ?_); (case side1 => repeat (first | exact (Kd.R_reads' HO_4.out).2.2 | (with_reducible refine Kd.C_alloc ?_ _) | (with_reducible refine Kd.C_drewN ?_ _) | (with_reducible refine Kd.C_drew ?_))); (case side2 => exact (Kd.R_reads' HO_4.out).2.1); rintro e w39 ⟨v448, rfl, ho0, hb⟩; refine ⟨_, rfl, ?_⟩; have n0_ := Aside0.mk (Kd.R_elder' z22_ (Kd.R_base ho0) hb); have n1_ := Aside0.mk (Kd.R_elder' z20_ (Kd.R_base ho0) hb); have n2_ := Aside0.mk (Kd.R_elder' z21_ (Kd.R_base ho0) hb); have n3_ := Aside0.mk (Kd.R_elder' z19_ (Kd.R_base ho0) hb); have n4_ := Aside0.mk (Kd.R_elder' z10_ (Kd.R_base ho0) hb); have n5_ := Aside0.mk (Kd.R_lower (Kd.R_new' (Kd.R_new' (Kd.R_new' (Kd.R_new' (Kd.R_new' ho0 (Kd.R_lt z22_)) (Kd.R_lt z20_)) (Kd.R_lt z21_)) (Kd.R_lt z19_)) (Kd.R_lt z10_)) (below_size z7_)); have n6_ := Aside0.mk (below_step z7_ hb); clear HO_3; clear HO_4; clear HO_5; clear HO_7; clear HO446; clear HB; have HO_3 := n0_; have HO_4 := n1_; have HO_5 := n2_; have HO_7 := n3_; have HO446 := n4_; have HO449 := n5_; have HB := n6_; clear n0_ n1_ n2_ n3_ n4_ n5_ n6_; (try clear hb); (try clear hb2); (try clear hk); (try clear hi); (try clear ho0); obtain ⟨Ao40, co40, eo40⟩ := Kd.R_slice HO449.out; subst eo40) | ((with_reducible refine gate_callee (f := 49) rfl ?_); refine goesL_ (some 64) rfl rfl Try.func49 (by kernel_rfl) rfl #[.slice Ao8 t427.length co8, .slice Ao40 t447.length co40] rfl z5_ ?_; (with_reducible refine (impl_ZeroPlain.calls kj5 _ _ t427 _ _ t447 t450 true _ ?side1 ?side2 ?side3 ?side4 A26.out).mono ?_); (case side1 => repeat (first | exact (Kd.R_reads' HO_3.out).2.2 | (with_reducible refine Kd.C_alloc ?_ _) | (with_reducible refine Kd.C_drewN ?_ _) | (with_reducible refine Kd.C_drew ?_))); (case side2 => exact (Kd.R_reads' HO_3.out).2.1); (case side3 => repeat (first | exact (Kd.R_reads' HO449.out).2.2 | (with_reducible refine Kd.C_alloc ?_ _) | (with_reducible refine Kd.C_drewN ?_ _) | (with_reducible refine Kd.C_drew ?_))); (case side4 => exact (Kd.R_reads' HO449.out).2.1); rintro e w41 ⟨v452, rfl, ho0, hb⟩; refine ⟨_, rfl, ?_⟩; have n0_ := Aside0.mk (Kd.R_elder' z22_ (Kd.R_base ho0) hb); have n1_ := Aside0.mk (Kd.R_elder' z20_ (Kd.R_base ho0) hb); have n2_ := Aside0.mk (Kd.R_elder' z21_ (Kd.R_base ho0) hb); have n3_ := Aside0.mk (Kd.R_elder' z19_ (Kd.R_base ho0) hb); have n4_ := Aside0.mk (Kd.R_elder' z10_ (Kd.R_base ho0) hb); have n5_ := Aside0.mk (Kd.R_elder' z11_ (Kd.R_base ho0) hb); have n6_ := Aside0.mk (Kd.R_lower (Kd.R_new' (Kd.R_new' (Kd.R_new' (Kd.R_new' (Kd.R_new' (Kd.R_new' ho0 (Kd.R_lt z22_)) (Kd.R_lt z20_)) (Kd.R_lt z21_)) (Kd.R_lt z19_)) (Kd.R_lt z10_)) (Kd.R_lt z11_)) (below_size z7_)); have n7_ := Aside0.mk (below_step z7_ hb); clear HO_3; clear HO_4; clear HO_5; clear HO_7; clear HO446; clear HO449; clear HB; have HO_3 := n0_; have HO_4 := n1_; have HO_5 := n2_; have HO_7 := n3_; have HO446 := n4_; have HO449 := n5_; have HO453 := n6_; have HB := n7_; clear n0_ n1_ n2_ n3_ n4_ n5_ n6_ n7_; (try clear hb); (try clear hb2); (try clear hk); (try clear hi); (try clear ho0); obtain ⟨Ao42, co42, eo42⟩ := Kd.R_slice HO446.out; subst eo42) | (go_at_call 22; (with_reducible refine (laws_sameInts.calls kj5 _ _ t443 _ _ t433 true _ ?side1 ?side2 ?side3 ?side4 A29.out).mono ?_); (case side1 => repeat (first | exact (Kd.R_reads' HO446.out).2.2 | (with_reducible refine Kd.C_alloc ?_ _) | (with_reducible refine Kd.C_drewN ?_ _) | (with_reducible refine Kd.C_drew ?_))); (case side2 => exact (Kd.R_reads' HO446.out).2.1); (case side3 => repeat (first | exact (Kd.R_reads' HO_5.out).2.2 | (with_reducible refine Kd.C_alloc ?_ _) | (with_reducible refine Kd.C_drewN ?_ _) | (with_reducible refine Kd.C_drew ?_))); (case side4 => exact (Kd.R_reads' HO_5.out).2.1); rintro e w' ⟨rfl, ⟨nd, rfl⟩⟩; obtain ⟨Ao43, co43, eo43⟩ := Kd.R_slice HO453.out; subst eo43) | (go_at_call 22; (with_reducible refine (laws_sameInts.calls kj5 _ _ t450 _ _ t433 true _ ?side1 ?side2 ?side3 ?side4 A31.out).mono ?_); (case side1 => repeat (first | exact (Kd.R_reads' HO453.out).2.2 | (with_reducible refine Kd.C_alloc ?_ _) | (with_reducible refine Kd.C_drewN ?_ _) | (with_reducible refine Kd.C_drew ?_))); (case side2 => exact (Kd.R_reads' HO453.out).2.1); (case side3 => repeat (first | exact (Kd.R_reads' HO_5.out).2.2 | (with_reducible refine Kd.C_alloc ?_ _) | (with_reducible refine Kd.C_drewN ?_ _) | (with_reducible refine Kd.C_drew ?_))); (case side4 => exact (Kd.R_reads' HO_5.out).2.1); rintro e w' ⟨rfl, ⟨nd, rfl⟩⟩) | (go_at_call 28; (with_reducible refine (impl_ZeroIs.calls kj5 _ _ t427 _ _ t433 true _ ?side1 ?side2 ?side3 ?side4 A33.out).mono ?_); (case side1 => repeat (first | exact (Kd.R_reads' HO_3.out).2.2 | (with_reducible refine Kd.C_alloc ?_ _) | (with_reducible refine Kd.C_drewN ?_ _) | (with_reducible refine Kd.C_drew ?_))); (case side2 => exact (Kd.R_reads' HO_3.out).2.1); (case side3 => repeat (first | exact (Kd.R_reads' HO_5.out).2.2 | (with_reducible refine Kd.C_alloc ?_ _) | (with_reducible refine Kd.C_drewN ?_ _) | (with_reducible refine Kd.C_drew ?_))); (case side4 => exact (Kd.R_reads' HO_5.out).2.1); rintro e w44 ⟨rfl, hb⟩; have n0_ := Aside0.mk (Kd.R_below z22_ hb); have n1_ := Aside0.mk (Kd.R_below z20_ hb); have n2_ := Aside0.mk (Kd.R_below z21_ hb); have n3_ := Aside0.mk (Kd.R_below z19_ hb); have n4_ := Aside0.mk (Kd.R_below z10_ hb); have n5_ := Aside0.mk (Kd.R_below z11_ hb); have n6_ := Aside0.mk (Kd.R_below z12_ hb); have n7_ := Aside0.mk (below_step z7_ hb); clear HO_3; clear HO_4; clear HO_5; clear HO_7; clear HO446; clear HO449; clear HO453; clear HB; have HO_3 := n0_; have HO_4 := n1_; have HO_5 := n2_; have HO_7 := n3_; have HO446 := n4_; have HO449 := n5_; have HO453 := n6_; have HB := n7_; clear n0_ n1_ n2_ n3_ n4_ n5_ n6_ n7_; (try clear hb); (try clear hb2); (try clear hk); (try clear hi)) | (go_at_call 47; (with_reducible refine (impl_ZeroHeight.calls kj5 _ _ t427 _ _ t433 t457 _ ?side1 ?side2 ?side3 ?side4 A35.out).mono ?_); (case side1 => repeat (first | exact (Kd.R_reads' HO_3.out).2.2 | (with_reducible refine Kd.C_alloc ?_ _) | (with_reducible refine Kd.C_drewN ?_ _) | (with_reducible refine Kd.C_drew ?_))); (case side2 => exact (Kd.R_reads' HO_3.out).2.1); (case side3 => repeat (first | exact (Kd.R_reads' HO_5.out).2.2 | (with_reducible refine Kd.C_alloc ?_ _) | (with_reducible refine Kd.C_drewN ?_ _) | (with_reducible refine Kd.C_drew ?_))); (case side4 => exact (Kd.R_reads' HO_5.out).2.1); rintro e w45 ⟨rfl, hb⟩; have n0_ := Aside0.mk (Kd.R_below z22_ hb); have n1_ := Aside0.mk (Kd.R_below z20_ hb); have n2_ := Aside0.mk (Kd.R_below z21_ hb); have n3_ := Aside0.mk (Kd.R_below z19_ hb); have n4_ := Aside0.mk (Kd.R_below z10_ hb); have n5_ := Aside0.mk (Kd.R_below z11_ hb); have n6_ := Aside0.mk (Kd.R_below z12_ hb); have n7_ := Aside0.mk (below_step z7_ hb); clear HO_3; clear HO_4; clear HO_5; clear HO_7; clear HO446; clear HO449; clear HO453; clear HB; have HO_3 := n0_; have HO_4 := n1_; have HO_5 := n2_; have HO_7 := n3_; have HO446 := n4_; have HO449 := n5_; have HO453 := n6_; have HB := n7_; clear n0_ n1_ n2_ n3_ n4_ n5_ n6_ n7_; (try clear hb); (try clear hb2); (try clear hk); (try clear hi)) | (go_at_call 47; (with_reducible refine (impl_ZeroHeight.calls kj5 _ _ t427 _ _ t428 t458 _ ?side1 ?side2 ?side3 ?side4 A36.out).mono ?_); (case side1 => repeat (first | exact (Kd.R_reads' HO_3.out).2.2 | (with_reducible refine Kd.C_alloc ?_ _) | (with_reducible refine Kd.C_drewN ?_ _) | (with_reducible refine Kd.C_drew ?_))); (case side2 => exact (Kd.R_reads' HO_3.out).2.1); (case side3 => repeat (first | exact (Kd.R_reads' HO_4.out).2.2 | (with_reducible refine Kd.C_alloc ?_ _) | (with_reducible refine Kd.C_drewN ?_ _) | (with_reducible refine Kd.C_drew ?_))); (case side4 => exact (Kd.R_reads' HO_4.out).2.1); rintro e w46 ⟨rfl, hb⟩; have n0_ := Aside0.mk (Kd.R_below z22_ hb); have n1_ := Aside0.mk (Kd.R_below z20_ hb); have n2_ := Aside0.mk (Kd.R_below z21_ hb); have n3_ := Aside0.mk (Kd.R_below z19_ hb); have n4_ := Aside0.mk (Kd.R_below z10_ hb); have n5_ := Aside0.mk (Kd.R_below z11_ hb); have n6_ := Aside0.mk (Kd.R_below z12_ hb); have n7_ := Aside0.mk (below_step z7_ hb); clear HO_3; clear HO_4; clear HO_5; clear HO_7; clear HO446; clear HO449; clear HO453; clear HB; have HO_3 := n0_; have HO_4 := n1_; have HO_5 := n2_; have HO_7 := n3_; have HO446 := n4_; have HO449 := n5_; have HO453 := n6_; have HB := n7_; clear n0_ n1_ n2_ n3_ n4_ n5_ n6_ n7_; (try clear hb); (try clear hb2); (try clear hk); (try clear hi)))
                 go_ret
                 exact ⟨z23_, z7_⟩
               · replace c34 := Bool.eq_false_iff.mpr c34
                 subst c34
                 have H1 : (some false) = some r := by rw [if_neg (show ¬ (false = true) by decide)] at H; exact H
                 clear H
                 have H := H1
                 clear H1
                 obtain rfl := Option.some.inj H
                 obtain ⟨Ao47, co47, eo47⟩ := Kd.R_slice HO_5.out
                 subst eo47
                 go_wp2_with (first | ((with_reducible refine gate_callee (f := 49) rfl ?_); refine goesL_ (some 57) rfl rfl Try.func49 (by kernel_rfl) rfl #[.slice Ao8 t427.length co8, .slice Ao47 t433.length co47] rfl z5_ ?_; (with_reducible refine (impl_ZeroPlain.calls kj5 _ _ t427 _ _ t433 t443 true _ ?side1 ?side2 ?side3 ?side4 A24.out).mono ?_); (case side1 => repeat (first | exact (Kd.R_reads' HO_3.out).2.2 | (with_reducible refine Kd.C_alloc ?_ _) | (with_reducible refine Kd.C_drewN ?_ _) | (with_reducible refine Kd.C_drew ?_))); (case side2 => exact (Kd.R_reads' HO_3.out).2.1); (case side3 => repeat (first | exact (Kd.R_reads' HO_5.out).2.2 | (with_reducible refine Kd.C_alloc ?_ _) | (with_reducible refine Kd.C_drewN ?_ _) | (with_reducible refine Kd.C_drew ?_))); (case side4 => exact (Kd.R_reads' HO_5.out).2.1); rintro e w48 ⟨v445, rfl, ho0, hb⟩; refine ⟨_, rfl, ?_⟩; have n0_ := Aside0.mk (Kd.R_elder' z22_ (Kd.R_base ho0) hb); have n1_ := Aside0.mk (Kd.R_elder' z20_ (Kd.R_base ho0) hb); have n2_ := Aside0.mk (Kd.R_elder' z21_ (Kd.R_base ho0) hb); have n3_ := Aside0.mk (Kd.R_elder' z19_ (Kd.R_base ho0) hb); have n4_ := Aside0.mk (Kd.R_lower (Kd.R_new' (Kd.R_new' (Kd.R_new' (Kd.R_new' ho0 (Kd.R_lt z22_)) (Kd.R_lt z20_)) (Kd.R_lt z21_)) (Kd.R_lt z19_)) (below_size z7_)); have n5_ := Aside0.mk (below_step z7_ hb); clear HO_3; clear HO_4; clear HO_5; clear HO_7; clear HB; have HO_3 := n0_; have HO_4 := n1_; have HO_5 := n2_; have HO_7 := n3_; have HO446 := n4_; have HB := n5_; clear n0_ n1_ n2_ n3_ n4_ n5_; (try clear hb); (try clear hb2); (try clear hk); (try clear hi); (try clear ho0)) | ((with_reducible refine gate_callee (f := 52) rfl ?_); refine goesL_ (some 63) rfl rfl Try.func52 (by kernel_rfl) rfl #[.slice Ao9 t428.length co9] rfl z5_ ?_; (with_reducible refine (laws_minusOf.calls kj5 _ _ t428 t447 _ ?side1 ?side2 A25.out).mono ?_); (case side1 => repeat (first | exact (Kd.R_reads' HO_4.out).2.2 | (with_reducible refine Kd.C_alloc ?_ _) | (with_reducible refine Kd.C_drewN ?_ _) | (with_reducible refine Kd.C_drew ?_))); (case side2 => exact (Kd.R_reads' HO_4.out).2.1); rintro e w49 ⟨v448, rfl, ho0, hb⟩; refine ⟨_, rfl, ?_⟩; have n0_ := Aside0.mk (Kd.R_elder' z22_ (Kd.R_base ho0) hb); have n1_ := Aside0.mk (Kd.R_elder' z20_ (Kd.R_base ho0) hb); have n2_ := Aside0.mk (Kd.R_elder' z21_ (Kd.R_base ho0) hb); have n3_ := Aside0.mk (Kd.R_elder' z19_ (Kd.R_base ho0) hb); have n4_ := Aside0.mk (Kd.R_elder' z10_ (Kd.R_base ho0) hb); have n5_ := Aside0.mk (Kd.R_lower (Kd.R_new' (Kd.R_new' (Kd.R_new' (Kd.R_new' (Kd.R_new' ho0 (Kd.R_lt z22_)) (Kd.R_lt z20_)) (Kd.R_lt z21_)) (Kd.R_lt z19_)) (Kd.R_lt z10_)) (below_size z7_)); have n6_ := Aside0.mk (below_step z7_ hb); clear HO_3; clear HO_4; clear HO_5; clear HO_7; clear HO446; clear HB; have HO_3 := n0_; have HO_4 := n1_; have HO_5 := n2_; have HO_7 := n3_; have HO446 := n4_; have HO449 := n5_; have HB := n6_; clear n0_ n1_ n2_ n3_ n4_ n5_ n6_; (try clear hb); (try clear hb2); (try clear hk); (try clear hi); (try clear ho0); obtain ⟨Ao50, co50, eo50⟩ := Kd.R_slice HO449.out; subst eo50) | ((with_reducible refine gate_callee (f := 49) rfl ?_); refine goesL_ (some 64) rfl rfl Try.func49 (by kernel_rfl) rfl #[.slice Ao8 t427.length co8, .slice Ao50 t447.length co50] rfl z5_ ?_; (with_reducible refine (impl_ZeroPlain.calls kj5 _ _ t427 _ _ t447 t450 true _ ?side1 ?side2 ?side3 ?side4 A26.out).mono ?_); (case side1 => repeat (first | exact (Kd.R_reads' HO_3.out).2.2 | (with_reducible refine Kd.C_alloc ?_ _) | (with_reducible refine Kd.C_drewN ?_ _) | (with_reducible refine Kd.C_drew ?_))); (case side2 => exact (Kd.R_reads' HO_3.out).2.1); (case side3 => repeat (first | exact (Kd.R_reads' HO449.out).2.2 | (with_reducible refine Kd.C_alloc ?_ _) | (with_reducible refine Kd.C_drewN ?_ _) | (with_reducible refine Kd.C_drew ?_))); (case side4 => exact (Kd.R_reads' HO449.out).2.1); rintro e w51 ⟨v452, rfl, ho0, hb⟩; refine ⟨_, rfl, ?_⟩; have n0_ := Aside0.mk (Kd.R_elder' z22_ (Kd.R_base ho0) hb); have n1_ := Aside0.mk (Kd.R_elder' z20_ (Kd.R_base ho0) hb); have n2_ := Aside0.mk (Kd.R_elder' z21_ (Kd.R_base ho0) hb); have n3_ := Aside0.mk (Kd.R_elder' z19_ (Kd.R_base ho0) hb); have n4_ := Aside0.mk (Kd.R_elder' z10_ (Kd.R_base ho0) hb); have n5_ := Aside0.mk (Kd.R_elder' z11_ (Kd.R_base ho0) hb); have n6_ := Aside0.mk (Kd.R_lower (Kd.R_new' (Kd.R_new' (Kd.R_new' (Kd.R_new' (Kd.R_new' (Kd.R_new' ho0 (Kd.R_lt z22_)) (Kd.R_lt z20_)) (Kd.R_lt z21_)) (Kd.R_lt z19_)) (Kd.R_lt z10_)) (Kd.R_lt z11_)) (below_size z7_)); have n7_ := Aside0.mk (below_step z7_ hb); clear HO_3; clear HO_4; clear HO_5; clear HO_7; clear HO446; clear HO449; clear HB; have HO_3 := n0_; have HO_4 := n1_; have HO_5 := n2_; have HO_7 := n3_; have HO446 := n4_; have HO449 := n5_; have HO453 := n6_; have HB := n7_; clear n0_ n1_ n2_ n3_ n4_ n5_ n6_ n7_; (try clear hb); (try clear hb2); (try clear hk); (try clear hi); (try clear ho0); obtain ⟨Ao52, co52, eo52⟩ := Kd.R_slice HO446.out; subst eo52) | (go_at_call 22; (with_reducible refine (laws_sameInts.calls kj5 _ _ t443 _ _ t433 true _ ?side1 ?side2 ?side3 ?side4 A29.out).mono ?_); (case side1 => repeat (first | exact (Kd.R_reads' HO446.out).2.2 | (with_reducible refine Kd.C_alloc ?_ _) | (with_reducible refine Kd.C_drewN ?_ _) | (with_reducible refine Kd.C_drew ?_))); (case side2 => exact (Kd.R_reads' HO446.out).2.1); (case side3 => repeat (first | exact (Kd.R_reads' HO_5.out).2.2 | (with_reducible refine Kd.C_alloc ?_ _) | (with_reducible refine Kd.C_drewN ?_ _) | (with_reducible refine Kd.C_drew ?_))); (case side4 => exact (Kd.R_reads' HO_5.out).2.1); rintro e w' ⟨rfl, ⟨nd, rfl⟩⟩; obtain ⟨Ao53, co53, eo53⟩ := Kd.R_slice HO453.out; subst eo53) | (go_at_call 22; (with_reducible refine (laws_sameInts.calls kj5 _ _ t450 _ _ t433 true _ ?side1 ?side2 ?side3 ?side4 A31.out).mono ?_); (case side1 => repeat (first | exact (Kd.R_reads' HO453.out).2.2 | (with_reducible refine Kd.C_alloc ?_ _) | (with_reducible refine Kd.C_drewN ?_ _) | (with_reducible refine Kd.C_drew ?_))); (case side2 => exact (Kd.R_reads' HO453.out).2.1); (case side3 => repeat (first | exact (Kd.R_reads' HO_5.out).2.2 | (with_reducible refine Kd.C_alloc ?_ _) | (with_reducible refine Kd.C_drewN ?_ _) | (with_reducible refine Kd.C_drew ?_))); (case side4 => exact (Kd.R_reads' HO_5.out).2.1); rintro e w' ⟨rfl, ⟨nd, rfl⟩⟩) | (go_at_call 28; (with_reducible refine (impl_ZeroIs.calls kj5 _ _ t427 _ _ t433 false _ ?side1 ?side2 ?side3 ?side4 A33.out).mono ?_); (case side1 => repeat (first | exact (Kd.R_reads' HO_3.out).2.2 | (with_reducible refine Kd.C_alloc ?_ _) | (with_reducible refine Kd.C_drewN ?_ _) | (with_reducible refine Kd.C_drew ?_))); (case side2 => exact (Kd.R_reads' HO_3.out).2.1); (case side3 => repeat (first | exact (Kd.R_reads' HO_5.out).2.2 | (with_reducible refine Kd.C_alloc ?_ _) | (with_reducible refine Kd.C_drewN ?_ _) | (with_reducible refine Kd.C_drew ?_))); (case side4 => exact (Kd.R_reads' HO_5.out).2.1); rintro e w54 ⟨rfl, hb⟩; have n0_ := Aside0.mk (Kd.R_below z22_ hb); have n1_ := Aside0.mk (Kd.R_below z20_ hb); have n2_ := Aside0.mk (Kd.R_below z21_ hb); have n3_ := Aside0.mk (Kd.R_below z19_ hb); have n4_ := Aside0.mk (Kd.R_below z10_ hb); have n5_ := Aside0.mk (Kd.R_below z11_ hb); have n6_ := Aside0.mk (Kd.R_below z12_ hb); have n7_ := Aside0.mk (below_step z7_ hb); clear HO_3; clear HO_4; clear HO_5; clear HO_7; clear HO446; clear HO449; clear HO453; clear HB; have HO_3 := n0_; have HO_4 := n1_; have HO_5 := n2_; have HO_7 := n3_; have HO446 := n4_; have HO449 := n5_; have HO453 := n6_; have HB := n7_; clear n0_ n1_ n2_ n3_ n4_ n5_ n6_ n7_; (try clear hb); (try clear hb2); (try clear hk); (try clear hi)))
                 go_ret
                 exact ⟨z23_, z7_⟩
             · replace c32 := Bool.eq_false_iff.mpr c32
               subst c32
               have H1 : (some false) = some r := by rw [if_neg (show ¬ (false = true) by decide)] at H; exact H
               clear H
               have H := H1
               clear H1
               obtain rfl := Option.some.inj H
               obtain ⟨Ao55, co55, eo55⟩ := Kd.R_slice HO_5.out
               subst eo55
               go_wp2_with (first | ((with_reducible refine gate_callee (f := 49) rfl ?_); refine goesL_ (some 57) rfl rfl Try.func49 (by kernel_rfl) rfl #[.slice Ao8 t427.length co8, .slice Ao55 t433.length co55] rfl z5_ ?_; (with_reducible refine (impl_ZeroPlain.calls kj5 _ _ t427 _ _ t433 t443 true _ ?side1 ?side2 ?side3 ?side4 A24.out).mono ?_); (case side1 => repeat (first | exact (Kd.R_reads' HO_3.out).2.2 | (with_reducible refine Kd.C_alloc ?_ _) | (with_reducible refine Kd.C_drewN ?_ _) | (with_reducible refine Kd.C_drew ?_))); (case side2 => exact (Kd.R_reads' HO_3.out).2.1); (case side3 => repeat (first | exact (Kd.R_reads' HO_5.out).2.2 | (with_reducible refine Kd.C_alloc ?_ _) | (with_reducible refine Kd.C_drewN ?_ _) | (with_reducible refine Kd.C_drew ?_))); (case side4 => exact (Kd.R_reads' HO_5.out).2.1); rintro e w56 ⟨v445, rfl, ho0, hb⟩; refine ⟨_, rfl, ?_⟩; have n0_ := Aside0.mk (Kd.R_elder' z22_ (Kd.R_base ho0) hb); have n1_ := Aside0.mk (Kd.R_elder' z20_ (Kd.R_base ho0) hb); have n2_ := Aside0.mk (Kd.R_elder' z21_ (Kd.R_base ho0) hb); have n3_ := Aside0.mk (Kd.R_elder' z19_ (Kd.R_base ho0) hb); have n4_ := Aside0.mk (Kd.R_lower (Kd.R_new' (Kd.R_new' (Kd.R_new' (Kd.R_new' ho0 (Kd.R_lt z22_)) (Kd.R_lt z20_)) (Kd.R_lt z21_)) (Kd.R_lt z19_)) (below_size z7_)); have n5_ := Aside0.mk (below_step z7_ hb); clear HO_3; clear HO_4; clear HO_5; clear HO_7; clear HB; have HO_3 := n0_; have HO_4 := n1_; have HO_5 := n2_; have HO_7 := n3_; have HO446 := n4_; have HB := n5_; clear n0_ n1_ n2_ n3_ n4_ n5_; (try clear hb); (try clear hb2); (try clear hk); (try clear hi); (try clear ho0)) | ((with_reducible refine gate_callee (f := 52) rfl ?_); refine goesL_ (some 63) rfl rfl Try.func52 (by kernel_rfl) rfl #[.slice Ao9 t428.length co9] rfl z5_ ?_; (with_reducible refine (laws_minusOf.calls kj5 _ _ t428 t447 _ ?side1 ?side2 A25.out).mono ?_); (case side1 => repeat (first | exact (Kd.R_reads' HO_4.out).2.2 | (with_reducible refine Kd.C_alloc ?_ _) | (with_reducible refine Kd.C_drewN ?_ _) | (with_reducible refine Kd.C_drew ?_))); (case side2 => exact (Kd.R_reads' HO_4.out).2.1); rintro e w57 ⟨v448, rfl, ho0, hb⟩; refine ⟨_, rfl, ?_⟩; have n0_ := Aside0.mk (Kd.R_elder' z22_ (Kd.R_base ho0) hb); have n1_ := Aside0.mk (Kd.R_elder' z20_ (Kd.R_base ho0) hb); have n2_ := Aside0.mk (Kd.R_elder' z21_ (Kd.R_base ho0) hb); have n3_ := Aside0.mk (Kd.R_elder' z19_ (Kd.R_base ho0) hb); have n4_ := Aside0.mk (Kd.R_elder' z10_ (Kd.R_base ho0) hb); have n5_ := Aside0.mk (Kd.R_lower (Kd.R_new' (Kd.R_new' (Kd.R_new' (Kd.R_new' (Kd.R_new' ho0 (Kd.R_lt z22_)) (Kd.R_lt z20_)) (Kd.R_lt z21_)) (Kd.R_lt z19_)) (Kd.R_lt z10_)) (below_size z7_)); have n6_ := Aside0.mk (below_step z7_ hb); clear HO_3; clear HO_4; clear HO_5; clear HO_7; clear HO446; clear HB; have HO_3 := n0_; have HO_4 := n1_; have HO_5 := n2_; have HO_7 := n3_; have HO446 := n4_; have HO449 := n5_; have HB := n6_; clear n0_ n1_ n2_ n3_ n4_ n5_ n6_; (try clear hb); (try clear hb2); (try clear hk); (try clear hi); (try clear ho0); obtain ⟨Ao58, co58, eo58⟩ := Kd.R_slice HO449.out; subst eo58) | ((with_reducible refine gate_callee (f := 49) rfl ?_); refine goesL_ (some 64) rfl rfl Try.func49 (by kernel_rfl) rfl #[.slice Ao8 t427.length co8, .slice Ao58 t447.length co58] rfl z5_ ?_; (with_reducible refine (impl_ZeroPlain.calls kj5 _ _ t427 _ _ t447 t450 true _ ?side1 ?side2 ?side3 ?side4 A26.out).mono ?_); (case side1 => repeat (first | exact (Kd.R_reads' HO_3.out).2.2 | (with_reducible refine Kd.C_alloc ?_ _) | (with_reducible refine Kd.C_drewN ?_ _) | (with_reducible refine Kd.C_drew ?_))); (case side2 => exact (Kd.R_reads' HO_3.out).2.1); (case side3 => repeat (first | exact (Kd.R_reads' HO449.out).2.2 | (with_reducible refine Kd.C_alloc ?_ _) | (with_reducible refine Kd.C_drewN ?_ _) | (with_reducible refine Kd.C_drew ?_))); (case side4 => exact (Kd.R_reads' HO449.out).2.1); rintro e w59 ⟨v452, rfl, ho0, hb⟩; refine ⟨_, rfl, ?_⟩; have n0_ := Aside0.mk (Kd.R_elder' z22_ (Kd.R_base ho0) hb); have n1_ := Aside0.mk (Kd.R_elder' z20_ (Kd.R_base ho0) hb); have n2_ := Aside0.mk (Kd.R_elder' z21_ (Kd.R_base ho0) hb); have n3_ := Aside0.mk (Kd.R_elder' z19_ (Kd.R_base ho0) hb); have n4_ := Aside0.mk (Kd.R_elder' z10_ (Kd.R_base ho0) hb); have n5_ := Aside0.mk (Kd.R_elder' z11_ (Kd.R_base ho0) hb); have n6_ := Aside0.mk (Kd.R_lower (Kd.R_new' (Kd.R_new' (Kd.R_new' (Kd.R_new' (Kd.R_new' (Kd.R_new' ho0 (Kd.R_lt z22_)) (Kd.R_lt z20_)) (Kd.R_lt z21_)) (Kd.R_lt z19_)) (Kd.R_lt z10_)) (Kd.R_lt z11_)) (below_size z7_)); have n7_ := Aside0.mk (below_step z7_ hb); clear HO_3; clear HO_4; clear HO_5; clear HO_7; clear HO446; clear HO449; clear HB; have HO_3 := n0_; have HO_4 := n1_; have HO_5 := n2_; have HO_7 := n3_; have HO446 := n4_; have HO449 := n5_; have HO453 := n6_; have HB := n7_; clear n0_ n1_ n2_ n3_ n4_ n5_ n6_ n7_; (try clear hb); (try clear hb2); (try clear hk); (try clear hi); (try clear ho0); obtain ⟨Ao60, co60, eo60⟩ := Kd.R_slice HO446.out; subst eo60) | (go_at_call 22; (with_reducible refine (laws_sameInts.calls kj5 _ _ t443 _ _ t433 true _ ?side1 ?side2 ?side3 ?side4 A29.out).mono ?_); (case side1 => repeat (first | exact (Kd.R_reads' HO446.out).2.2 | (with_reducible refine Kd.C_alloc ?_ _) | (with_reducible refine Kd.C_drewN ?_ _) | (with_reducible refine Kd.C_drew ?_))); (case side2 => exact (Kd.R_reads' HO446.out).2.1); (case side3 => repeat (first | exact (Kd.R_reads' HO_5.out).2.2 | (with_reducible refine Kd.C_alloc ?_ _) | (with_reducible refine Kd.C_drewN ?_ _) | (with_reducible refine Kd.C_drew ?_))); (case side4 => exact (Kd.R_reads' HO_5.out).2.1); rintro e w' ⟨rfl, ⟨nd, rfl⟩⟩; obtain ⟨Ao61, co61, eo61⟩ := Kd.R_slice HO453.out; subst eo61) | (go_at_call 22; (with_reducible refine (laws_sameInts.calls kj5 _ _ t450 _ _ t433 false _ ?side1 ?side2 ?side3 ?side4 A31.out).mono ?_); (case side1 => repeat (first | exact (Kd.R_reads' HO453.out).2.2 | (with_reducible refine Kd.C_alloc ?_ _) | (with_reducible refine Kd.C_drewN ?_ _) | (with_reducible refine Kd.C_drew ?_))); (case side2 => exact (Kd.R_reads' HO453.out).2.1); (case side3 => repeat (first | exact (Kd.R_reads' HO_5.out).2.2 | (with_reducible refine Kd.C_alloc ?_ _) | (with_reducible refine Kd.C_drewN ?_ _) | (with_reducible refine Kd.C_drew ?_))); (case side4 => exact (Kd.R_reads' HO_5.out).2.1); rintro e w' ⟨rfl, ⟨nd, rfl⟩⟩))
               go_ret
               exact ⟨z23_, z7_⟩
           · replace c30 := Bool.eq_false_iff.mpr c30
             subst c30
             have H1 : (some false) = some r := by rw [if_neg (show ¬ (false = true) by decide)] at H; exact H
             clear H
             have H := H1
             clear H1
             obtain rfl := Option.some.inj H
             obtain ⟨Ao62, co62, eo62⟩ := Kd.R_slice HO_5.out
             subst eo62
             go_wp2_with (first | ((with_reducible refine gate_callee (f := 49) rfl ?_); refine goesL_ (some 57) rfl rfl Try.func49 (by kernel_rfl) rfl #[.slice Ao8 t427.length co8, .slice Ao62 t433.length co62] rfl z5_ ?_; (with_reducible refine (impl_ZeroPlain.calls kj5 _ _ t427 _ _ t433 t443 true _ ?side1 ?side2 ?side3 ?side4 A24.out).mono ?_); (case side1 => repeat (first | exact (Kd.R_reads' HO_3.out).2.2 | (with_reducible refine Kd.C_alloc ?_ _) | (with_reducible refine Kd.C_drewN ?_ _) | (with_reducible refine Kd.C_drew ?_))); (case side2 => exact (Kd.R_reads' HO_3.out).2.1); (case side3 => repeat (first | exact (Kd.R_reads' HO_5.out).2.2 | (with_reducible refine Kd.C_alloc ?_ _) | (with_reducible refine Kd.C_drewN ?_ _) | (with_reducible refine Kd.C_drew ?_))); (case side4 => exact (Kd.R_reads' HO_5.out).2.1); rintro e w63 ⟨v445, rfl, ho0, hb⟩; refine ⟨_, rfl, ?_⟩; have n0_ := Aside0.mk (Kd.R_elder' z22_ (Kd.R_base ho0) hb); have n1_ := Aside0.mk (Kd.R_elder' z20_ (Kd.R_base ho0) hb); have n2_ := Aside0.mk (Kd.R_elder' z21_ (Kd.R_base ho0) hb); have n3_ := Aside0.mk (Kd.R_elder' z19_ (Kd.R_base ho0) hb); have n4_ := Aside0.mk (Kd.R_lower (Kd.R_new' (Kd.R_new' (Kd.R_new' (Kd.R_new' ho0 (Kd.R_lt z22_)) (Kd.R_lt z20_)) (Kd.R_lt z21_)) (Kd.R_lt z19_)) (below_size z7_)); have n5_ := Aside0.mk (below_step z7_ hb); clear HO_3; clear HO_4; clear HO_5; clear HO_7; clear HB; have HO_3 := n0_; have HO_4 := n1_; have HO_5 := n2_; have HO_7 := n3_; have HO446 := n4_; have HB := n5_; clear n0_ n1_ n2_ n3_ n4_ n5_; (try clear hb); (try clear hb2); (try clear hk); (try clear hi); (try clear ho0)) | ((with_reducible refine gate_callee (f := 52) rfl ?_); refine goesL_ (some 63) rfl rfl Try.func52 (by kernel_rfl) rfl #[.slice Ao9 t428.length co9] rfl z5_ ?_; (with_reducible refine (laws_minusOf.calls kj5 _ _ t428 t447 _ ?side1 ?side2 A25.out).mono ?_); (case side1 => repeat (first | exact (Kd.R_reads' HO_4.out).2.2 | (with_reducible refine Kd.C_alloc ?_ _) | (with_reducible refine Kd.C_drewN ?_ _) | (with_reducible refine Kd.C_drew ?_))); (case side2 => exact (Kd.R_reads' HO_4.out).2.1); rintro e w64 ⟨v448, rfl, ho0, hb⟩; refine ⟨_, rfl, ?_⟩; have n0_ := Aside0.mk (Kd.R_elder' z22_ (Kd.R_base ho0) hb); have n1_ := Aside0.mk (Kd.R_elder' z20_ (Kd.R_base ho0) hb); have n2_ := Aside0.mk (Kd.R_elder' z21_ (Kd.R_base ho0) hb); have n3_ := Aside0.mk (Kd.R_elder' z19_ (Kd.R_base ho0) hb); have n4_ := Aside0.mk (Kd.R_elder' z10_ (Kd.R_base ho0) hb); have n5_ := Aside0.mk (Kd.R_lower (Kd.R_new' (Kd.R_new' (Kd.R_new' (Kd.R_new' (Kd.R_new' ho0 (Kd.R_lt z22_)) (Kd.R_lt z20_)) (Kd.R_lt z21_)) (Kd.R_lt z19_)) (Kd.R_lt z10_)) (below_size z7_)); have n6_ := Aside0.mk (below_step z7_ hb); clear HO_3; clear HO_4; clear HO_5; clear HO_7; clear HO446; clear HB; have HO_3 := n0_; have HO_4 := n1_; have HO_5 := n2_; have HO_7 := n3_; have HO446 := n4_; have HO449 := n5_; have HB := n6_; clear n0_ n1_ n2_ n3_ n4_ n5_ n6_; (try clear hb); (try clear hb2); (try clear hk); (try clear hi); (try clear ho0); obtain ⟨Ao65, co65, eo65⟩ := Kd.R_slice HO449.out; subst eo65) | ((with_reducible refine gate_callee (f := 49) rfl ?_); refine goesL_ (some 64) rfl rfl Try.func49 (by kernel_rfl) rfl #[.slice Ao8 t427.length co8, .slice Ao65 t447.length co65] rfl z5_ ?_; (with_reducible refine (impl_ZeroPlain.calls kj5 _ _ t427 _ _ t447 t450 true _ ?side1 ?side2 ?side3 ?side4 A26.out).mono ?_); (case side1 => repeat (first | exact (Kd.R_reads' HO_3.out).2.2 | (with_reducible refine Kd.C_alloc ?_ _) | (with_reducible refine Kd.C_drewN ?_ _) | (with_reducible refine Kd.C_drew ?_))); (case side2 => exact (Kd.R_reads' HO_3.out).2.1); (case side3 => repeat (first | exact (Kd.R_reads' HO449.out).2.2 | (with_reducible refine Kd.C_alloc ?_ _) | (with_reducible refine Kd.C_drewN ?_ _) | (with_reducible refine Kd.C_drew ?_))); (case side4 => exact (Kd.R_reads' HO449.out).2.1); rintro e w66 ⟨v452, rfl, ho0, hb⟩; refine ⟨_, rfl, ?_⟩; have n0_ := Aside0.mk (Kd.R_elder' z22_ (Kd.R_base ho0) hb); have n1_ := Aside0.mk (Kd.R_elder' z20_ (Kd.R_base ho0) hb); have n2_ := Aside0.mk (Kd.R_elder' z21_ (Kd.R_base ho0) hb); have n3_ := Aside0.mk (Kd.R_elder' z19_ (Kd.R_base ho0) hb); have n4_ := Aside0.mk (Kd.R_elder' z10_ (Kd.R_base ho0) hb); have n5_ := Aside0.mk (Kd.R_elder' z11_ (Kd.R_base ho0) hb); have n6_ := Aside0.mk (Kd.R_lower (Kd.R_new' (Kd.R_new' (Kd.R_new' (Kd.R_new' (Kd.R_new' (Kd.R_new' ho0 (Kd.R_lt z22_)) (Kd.R_lt z20_)) (Kd.R_lt z21_)) (Kd.R_lt z19_)) (Kd.R_lt z10_)) (Kd.R_lt z11_)) (below_size z7_)); have n7_ := Aside0.mk (below_step z7_ hb); clear HO_3; clear HO_4; clear HO_5; clear HO_7; clear HO446; clear HO449; clear HB; have HO_3 := n0_; have HO_4 := n1_; have HO_5 := n2_; have HO_7 := n3_; have HO446 := n4_; have HO449 := n5_; have HO453 := n6_; have HB := n7_; clear n0_ n1_ n2_ n3_ n4_ n5_ n6_ n7_; (try clear hb); (try clear hb2); (try clear hk); (try clear hi); (try clear ho0); obtain ⟨Ao67, co67, eo67⟩ := Kd.R_slice HO446.out; subst eo67) | (go_at_call 22; (with_reducible refine (laws_sameInts.calls kj5 _ _ t443 _ _ t433 false _ ?side1 ?side2 ?side3 ?side4 A29.out).mono ?_); (case side1 => repeat (first | exact (Kd.R_reads' HO446.out).2.2 | (with_reducible refine Kd.C_alloc ?_ _) | (with_reducible refine Kd.C_drewN ?_ _) | (with_reducible refine Kd.C_drew ?_))); (case side2 => exact (Kd.R_reads' HO446.out).2.1); (case side3 => repeat (first | exact (Kd.R_reads' HO_5.out).2.2 | (with_reducible refine Kd.C_alloc ?_ _) | (with_reducible refine Kd.C_drewN ?_ _) | (with_reducible refine Kd.C_drew ?_))); (case side4 => exact (Kd.R_reads' HO_5.out).2.1); rintro e w' ⟨rfl, ⟨nd, rfl⟩⟩))
             go_ret
             exact ⟨z23_, z7_⟩
         · replace c28 := Bool.eq_false_iff.mpr c28
           subst c28
           have H1 : (some false) = some r := by rw [if_neg (show ¬ (false = true) by decide)] at H; exact H
           clear H
           have H := H1
           clear H1
           obtain rfl := Option.some.inj H
           obtain ⟨Ao68, co68, eo68⟩ := Kd.R_slice HO_5.out
           subst eo68
           go_wp2_with (first | ((with_reducible refine gate_callee (f := 49) rfl ?_); refine goesL_ (some 57) rfl rfl Try.func49 (by kernel_rfl) rfl #[.slice Ao8 t427.length co8, .slice Ao68 t433.length co68] rfl z5_ ?_; (with_reducible refine (impl_ZeroPlain.calls kj5 _ _ t427 _ _ t433 t443 true _ ?side1 ?side2 ?side3 ?side4 A24.out).mono ?_); (case side1 => repeat (first | exact (Kd.R_reads' HO_3.out).2.2 | (with_reducible refine Kd.C_alloc ?_ _) | (with_reducible refine Kd.C_drewN ?_ _) | (with_reducible refine Kd.C_drew ?_))); (case side2 => exact (Kd.R_reads' HO_3.out).2.1); (case side3 => repeat (first | exact (Kd.R_reads' HO_5.out).2.2 | (with_reducible refine Kd.C_alloc ?_ _) | (with_reducible refine Kd.C_drewN ?_ _) | (with_reducible refine Kd.C_drew ?_))); (case side4 => exact (Kd.R_reads' HO_5.out).2.1); rintro e w69 ⟨v445, rfl, ho0, hb⟩; refine ⟨_, rfl, ?_⟩; have n0_ := Aside0.mk (Kd.R_elder' z22_ (Kd.R_base ho0) hb); have n1_ := Aside0.mk (Kd.R_elder' z20_ (Kd.R_base ho0) hb); have n2_ := Aside0.mk (Kd.R_elder' z21_ (Kd.R_base ho0) hb); have n3_ := Aside0.mk (Kd.R_elder' z19_ (Kd.R_base ho0) hb); have n4_ := Aside0.mk (Kd.R_lower (Kd.R_new' (Kd.R_new' (Kd.R_new' (Kd.R_new' ho0 (Kd.R_lt z22_)) (Kd.R_lt z20_)) (Kd.R_lt z21_)) (Kd.R_lt z19_)) (below_size z7_)); have n5_ := Aside0.mk (below_step z7_ hb); clear HO_3; clear HO_4; clear HO_5; clear HO_7; clear HB; have HO_3 := n0_; have HO_4 := n1_; have HO_5 := n2_; have HO_7 := n3_; have HO446 := n4_; have HB := n5_; clear n0_ n1_ n2_ n3_ n4_ n5_; (try clear hb); (try clear hb2); (try clear hk); (try clear hi); (try clear ho0)) | ((with_reducible refine gate_callee (f := 52) rfl ?_); refine goesL_ (some 63) rfl rfl Try.func52 (by kernel_rfl) rfl #[.slice Ao9 t428.length co9] rfl z5_ ?_; (with_reducible refine (laws_minusOf.calls kj5 _ _ t428 t447 _ ?side1 ?side2 A25.out).mono ?_); (case side1 => repeat (first | exact (Kd.R_reads' HO_4.out).2.2 | (with_reducible refine Kd.C_alloc ?_ _) | (with_reducible refine Kd.C_drewN ?_ _) | (with_reducible refine Kd.C_drew ?_))); (case side2 => exact (Kd.R_reads' HO_4.out).2.1); rintro e w70 ⟨v448, rfl, ho0, hb⟩; refine ⟨_, rfl, ?_⟩; have n0_ := Aside0.mk (Kd.R_elder' z22_ (Kd.R_base ho0) hb); have n1_ := Aside0.mk (Kd.R_elder' z20_ (Kd.R_base ho0) hb); have n2_ := Aside0.mk (Kd.R_elder' z21_ (Kd.R_base ho0) hb); have n3_ := Aside0.mk (Kd.R_elder' z19_ (Kd.R_base ho0) hb); have n4_ := Aside0.mk (Kd.R_elder' z10_ (Kd.R_base ho0) hb); have n5_ := Aside0.mk (Kd.R_lower (Kd.R_new' (Kd.R_new' (Kd.R_new' (Kd.R_new' (Kd.R_new' ho0 (Kd.R_lt z22_)) (Kd.R_lt z20_)) (Kd.R_lt z21_)) (Kd.R_lt z19_)) (Kd.R_lt z10_)) (below_size z7_)); have n6_ := Aside0.mk (below_step z7_ hb); clear HO_3; clear HO_4; clear HO_5; clear HO_7; clear HO446; clear HB; have HO_3 := n0_; have HO_4 := n1_; have HO_5 := n2_; have HO_7 := n3_; have HO446 := n4_; have HO449 := n5_; have HB := n6_; clear n0_ n1_ n2_ n3_ n4_ n5_ n6_; (try clear hb); (try clear hb2); (try clear hk); (try clear hi); (try clear ho0); obtain ⟨Ao71, co71, eo71⟩ := Kd.R_slice HO449.out; subst eo71) | ((with_reducible refine gate_callee (f := 49) rfl ?_); refine goesL_ (some 64) rfl rfl Try.func49 (by kernel_rfl) rfl #[.slice Ao8 t427.length co8, .slice Ao71 t447.length co71] rfl z5_ ?_; (with_reducible refine (impl_ZeroPlain.calls kj5 _ _ t427 _ _ t447 t450 false _ ?side1 ?side2 ?side3 ?side4 A26.out).mono ?_); (case side1 => repeat (first | exact (Kd.R_reads' HO_3.out).2.2 | (with_reducible refine Kd.C_alloc ?_ _) | (with_reducible refine Kd.C_drewN ?_ _) | (with_reducible refine Kd.C_drew ?_))); (case side2 => exact (Kd.R_reads' HO_3.out).2.1); (case side3 => repeat (first | exact (Kd.R_reads' HO449.out).2.2 | (with_reducible refine Kd.C_alloc ?_ _) | (with_reducible refine Kd.C_drewN ?_ _) | (with_reducible refine Kd.C_drew ?_))); (case side4 => exact (Kd.R_reads' HO449.out).2.1); rintro e w72 ⟨v452, rfl, ho0, hb⟩; refine ⟨_, rfl, ?_⟩; have n0_ := Aside0.mk (Kd.R_elder' z22_ (Kd.R_base ho0) hb); have n1_ := Aside0.mk (Kd.R_elder' z20_ (Kd.R_base ho0) hb); have n2_ := Aside0.mk (Kd.R_elder' z21_ (Kd.R_base ho0) hb); have n3_ := Aside0.mk (Kd.R_elder' z19_ (Kd.R_base ho0) hb); have n4_ := Aside0.mk (Kd.R_elder' z10_ (Kd.R_base ho0) hb); have n5_ := Aside0.mk (Kd.R_elder' z11_ (Kd.R_base ho0) hb); have n6_ := Aside0.mk (Kd.R_lower (Kd.R_new' (Kd.R_new' (Kd.R_new' (Kd.R_new' (Kd.R_new' (Kd.R_new' ho0 (Kd.R_lt z22_)) (Kd.R_lt z20_)) (Kd.R_lt z21_)) (Kd.R_lt z19_)) (Kd.R_lt z10_)) (Kd.R_lt z11_)) (below_size z7_)); have n7_ := Aside0.mk (below_step z7_ hb); clear HO_3; clear HO_4; clear HO_5; clear HO_7; clear HO446; clear HO449; clear HB; have HO_3 := n0_; have HO_4 := n1_; have HO_5 := n2_; have HO_7 := n3_; have HO446 := n4_; have HO449 := n5_; have HO453 := n6_; have HB := n7_; clear n0_ n1_ n2_ n3_ n4_ n5_ n6_ n7_; (try clear hb); (try clear hb2); (try clear hk); (try clear hi); (try clear ho0)))
           go_ret
           exact ⟨z23_, z7_⟩
       · replace c27 := Bool.eq_false_iff.mpr c27
         subst c27
         have H1 : (some false) = some r := by rw [if_neg (show ¬ (false = true) by decide)] at H; exact H
         clear H
         have H := H1
         clear H1
         obtain rfl := Option.some.inj H
         obtain ⟨Ao73, co73, eo73⟩ := Kd.R_slice HO_5.out
         subst eo73
         go_wp2_with (first | ((with_reducible refine gate_callee (f := 49) rfl ?_); refine goesL_ (some 57) rfl rfl Try.func49 (by kernel_rfl) rfl #[.slice Ao8 t427.length co8, .slice Ao73 t433.length co73] rfl z5_ ?_; (with_reducible refine (impl_ZeroPlain.calls kj5 _ _ t427 _ _ t433 t443 false _ ?side1 ?side2 ?side3 ?side4 A24.out).mono ?_); (case side1 => repeat (first | exact (Kd.R_reads' HO_3.out).2.2 | (with_reducible refine Kd.C_alloc ?_ _) | (with_reducible refine Kd.C_drewN ?_ _) | (with_reducible refine Kd.C_drew ?_))); (case side2 => exact (Kd.R_reads' HO_3.out).2.1); (case side3 => repeat (first | exact (Kd.R_reads' HO_5.out).2.2 | (with_reducible refine Kd.C_alloc ?_ _) | (with_reducible refine Kd.C_drewN ?_ _) | (with_reducible refine Kd.C_drew ?_))); (case side4 => exact (Kd.R_reads' HO_5.out).2.1); rintro e w74 ⟨v445, rfl, ho0, hb⟩; refine ⟨_, rfl, ?_⟩; have n0_ := Aside0.mk (Kd.R_elder' z22_ (Kd.R_base ho0) hb); have n1_ := Aside0.mk (Kd.R_elder' z20_ (Kd.R_base ho0) hb); have n2_ := Aside0.mk (Kd.R_elder' z21_ (Kd.R_base ho0) hb); have n3_ := Aside0.mk (Kd.R_elder' z19_ (Kd.R_base ho0) hb); have n4_ := Aside0.mk (Kd.R_lower (Kd.R_new' (Kd.R_new' (Kd.R_new' (Kd.R_new' ho0 (Kd.R_lt z22_)) (Kd.R_lt z20_)) (Kd.R_lt z21_)) (Kd.R_lt z19_)) (below_size z7_)); have n5_ := Aside0.mk (below_step z7_ hb); clear HO_3; clear HO_4; clear HO_5; clear HO_7; clear HB; have HO_3 := n0_; have HO_4 := n1_; have HO_5 := n2_; have HO_7 := n3_; have HO446 := n4_; have HB := n5_; clear n0_ n1_ n2_ n3_ n4_ n5_; (try clear hb); (try clear hb2); (try clear hk); (try clear hi); (try clear ho0)) | ((with_reducible refine gate_callee (f := 52) rfl ?_); refine goesL_ (some 63) rfl rfl Try.func52 (by kernel_rfl) rfl #[.slice Ao9 t428.length co9] rfl z5_ ?_; (with_reducible refine (laws_minusOf.calls kj5 _ _ t428 t447 _ ?side1 ?side2 A25.out).mono ?_); (case side1 => repeat (first | exact (Kd.R_reads' HO_4.out).2.2 | (with_reducible refine Kd.C_alloc ?_ _) | (with_reducible refine Kd.C_drewN ?_ _) | (with_reducible refine Kd.C_drew ?_))); (case side2 => exact (Kd.R_reads' HO_4.out).2.1); rintro e w75 ⟨v448, rfl, ho0, hb⟩; refine ⟨_, rfl, ?_⟩; have n0_ := Aside0.mk (Kd.R_elder' z22_ (Kd.R_base ho0) hb); have n1_ := Aside0.mk (Kd.R_elder' z20_ (Kd.R_base ho0) hb); have n2_ := Aside0.mk (Kd.R_elder' z21_ (Kd.R_base ho0) hb); have n3_ := Aside0.mk (Kd.R_elder' z19_ (Kd.R_base ho0) hb); have n4_ := Aside0.mk (Kd.R_elder' z10_ (Kd.R_base ho0) hb); have n5_ := Aside0.mk (Kd.R_lower (Kd.R_new' (Kd.R_new' (Kd.R_new' (Kd.R_new' (Kd.R_new' ho0 (Kd.R_lt z22_)) (Kd.R_lt z20_)) (Kd.R_lt z21_)) (Kd.R_lt z19_)) (Kd.R_lt z10_)) (below_size z7_)); have n6_ := Aside0.mk (below_step z7_ hb); clear HO_3; clear HO_4; clear HO_5; clear HO_7; clear HO446; clear HB; have HO_3 := n0_; have HO_4 := n1_; have HO_5 := n2_; have HO_7 := n3_; have HO446 := n4_; have HO449 := n5_; have HB := n6_; clear n0_ n1_ n2_ n3_ n4_ n5_ n6_; (try clear hb); (try clear hb2); (try clear hk); (try clear hi); (try clear ho0); obtain ⟨Ao76, co76, eo76⟩ := Kd.R_slice HO449.out; subst eo76) | ((with_reducible refine gate_callee (f := 49) rfl ?_); refine goesL_ (some 64) rfl rfl Try.func49 (by kernel_rfl) rfl #[.slice Ao8 t427.length co8, .slice Ao76 t447.length co76] rfl z5_ ?_; (with_reducible refine (impl_ZeroPlain.calls kj5 _ _ t427 _ _ t447 t450 t451 _ ?side1 ?side2 ?side3 ?side4 A26.out).mono ?_); (case side1 => repeat (first | exact (Kd.R_reads' HO_3.out).2.2 | (with_reducible refine Kd.C_alloc ?_ _) | (with_reducible refine Kd.C_drewN ?_ _) | (with_reducible refine Kd.C_drew ?_))); (case side2 => exact (Kd.R_reads' HO_3.out).2.1); (case side3 => repeat (first | exact (Kd.R_reads' HO449.out).2.2 | (with_reducible refine Kd.C_alloc ?_ _) | (with_reducible refine Kd.C_drewN ?_ _) | (with_reducible refine Kd.C_drew ?_))); (case side4 => exact (Kd.R_reads' HO449.out).2.1); rintro e w77 ⟨v452, rfl, ho0, hb⟩; refine ⟨_, rfl, ?_⟩; have n0_ := Aside0.mk (Kd.R_elder' z22_ (Kd.R_base ho0) hb); have n1_ := Aside0.mk (Kd.R_elder' z20_ (Kd.R_base ho0) hb); have n2_ := Aside0.mk (Kd.R_elder' z21_ (Kd.R_base ho0) hb); have n3_ := Aside0.mk (Kd.R_elder' z19_ (Kd.R_base ho0) hb); have n4_ := Aside0.mk (Kd.R_elder' z10_ (Kd.R_base ho0) hb); have n5_ := Aside0.mk (Kd.R_elder' z11_ (Kd.R_base ho0) hb); have n6_ := Aside0.mk (Kd.R_lower (Kd.R_new' (Kd.R_new' (Kd.R_new' (Kd.R_new' (Kd.R_new' (Kd.R_new' ho0 (Kd.R_lt z22_)) (Kd.R_lt z20_)) (Kd.R_lt z21_)) (Kd.R_lt z19_)) (Kd.R_lt z10_)) (Kd.R_lt z11_)) (below_size z7_)); have n7_ := Aside0.mk (below_step z7_ hb); clear HO_3; clear HO_4; clear HO_5; clear HO_7; clear HO446; clear HO449; clear HB; have HO_3 := n0_; have HO_4 := n1_; have HO_5 := n2_; have HO_7 := n3_; have HO446 := n4_; have HO449 := n5_; have HO453 := n6_; have HB := n7_; clear n0_ n1_ n2_ n3_ n4_ n5_ n6_ n7_; (try clear hb); (try clear hb2); (try clear hk); (try clear hi); (try clear ho0)))
         go_ret
         exact ⟨z23_, z7_⟩

/-- THE ONE PURE STATEMENT of laws_FnPlain: yours. -/
def laws_FnPlain.Pure : Prop := ∀ (l0 : List Int), l0.length ≤ maxLen → l0.length * 1 ≤ 140737488351232 → (∀ x ∈ l0, (Lit.int .u8 x).wf = true) → ∃ k, laws_FnPlain.f k l0 = some true
theorem laws_FnPlain.walk (P : laws_FnPlain.Pure) (a0 : Option Addr) (len0 cap0 : Nat) (z0 : List Int) (w : World) (w0 : (a0 = none ∧ len0 = 0 ∧ cap0 = 0 ∧ z0 = []) ∨ ∃ x, a0 = some x ∧ len0 ≤ cap0 ∧ cap0 ≤ maxLen ∧ z0.length = cap0 ∧ (∀ i, i < z0.length → w.cell? (x.add i) = some (.int .u8 (z0.getD i 0))) ∧ ∀ n ∈ z0, (Lit.int .u8 n).wf = true) (y0 : len0 * 1 ≤ 140737488351232) :
 Calls Try.prog 11 #[.slice a0 len0 cap0] w fun e w' => e = .returned (.bool true) ∧ Below w.heap.size w w' := by
 obtain ⟨l0, rfl, hr0, hm0, hw0, hc0⟩ := ReadsInt.ofRowC w0
 obtain ⟨k, h⟩ := P l0 hm0 y0 hw0
 refine (laws_FnPlain.calls k _ _ l0 true w (Kd.C_of_reads (d := (0 : Int)) (h1 := fun _ => rfl) hr0) hc0 h).mono ?_
 rintro e w' ⟨rfl, hd⟩
 exact ⟨rfl, hd⟩

end Go.Proofs.Ytdeahlommlgceaa.PFnPlain

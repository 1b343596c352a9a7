-- Written by a program of this repo (wip/gen/gen.py) over the kit's print.
-- (slim)
import Derived.Test.YtdeahlommlgceaaPFnPlainx0
import Derived.Test.YtdeahlommlgceaaPFnPlainx2
import Derived.Test.YtdeahlommlgceaaPFnPlainx3
import Derived.Test.YtdeahlommlgceaaPFnPlainx4
import Derived.Test.YtdeahlommlgceaaPFnPlainx5
import Derived.Test.YtdeahlommlgceaaPFnPlainx8
import Derived.Test.YtdeahlommlgceaaPFnPlainx9
namespace Go.Proofs.Ytdeahlommlgceaa.PFnPlain
open Go.RowKit Go.Proofs.YtdeahlommlgceaaW.PrintWords Go.Proofs.YtdeahlommlgceaaW.PrintLast Go.Proofs.YtdeahlommlgceaaW.PrintMore
attribute [local go_sem] max2_int min2_int max_two min_two max_three min_three max_four min_four   -- for this text's walks alone
set_option linter.unusedVariables false
set_option maxHeartbeats 8000000
set_option maxRecDepth 100000
set_option linter.unusedSimpArgs false

/-! ### spec_ZeroFind: function 127 -/
def spec_ZeroFind.f (k : Nat) (l0 : List Int) : Option (List Int × Bool) := (spec_FormValid.f k l0).bind fun t326 => (if t326 = true then (if (l0.length : Int) = 2 then (if 0 < (l0.length : Int) then ((spec_l1Core.f k (rd l0 0)).bind fun bt331 => (if 1 < (l0.length : Int) then ((spec_l1Core.f k (rd l0 1)).bind fun bt334 => (if (wrap64 (bt331.1 + bt334.1)) = 0 then ((spec_l5Plain.f k (([bt334.2, bt331.2] : List Int))).bind fun t339 => (some (t339, true))) else (some ((([] : List Int)), false)))) else (none))) else (none)) else (if (l0.length : Int) = 3 then ((spec_l5Three.f k l0).bind fun bt345 => (some (bt345.1, bt345.2))) else (if (l0.length : Int) = 4 then ((spec_l5Four.f k l0).bind fun bt349 => (some (bt349.1, bt349.2))) else (some ((([] : List Int)), false))))) else (some ((([] : List Int)), false)))
theorem spec_ZeroFind.mono : ∀ a0 k, LeO (spec_ZeroFind.f k a0) (spec_ZeroFind.f (k + 1) a0) := by
 intro a0 k
 unfold spec_ZeroFind.f
 repeat' first
  | (with_reducible exact spec_FormValid.mono _ _)
  | (with_reducible exact spec_l1Core.mono _ _)
  | (with_reducible exact spec_l5Four.mono _ _)
  | (with_reducible exact spec_l5Plain.mono _ _)
  | (with_reducible exact spec_l5Three.mono _ _)
  | (with_reducible exact LeO.refl _)
  | (with_reducible exact LeO.none _)
  | (with_reducible refine LeO.ite ?_ ?_)
  | (with_reducible refine LeO.bind ?_ (fun _ => ?_))
  | exact spec_FormValid.mono _ _
  | exact spec_l1Core.mono _ _
  | exact spec_l5Four.mono _ _
  | exact spec_l5Plain.mono _ _
  | exact spec_l5Three.mono _ _
  | exact LeO.none _
  | refine LeO.ite ?_ ?_
  | refine LeO.bind ?_ (fun _ => ?_)
theorem spec_ZeroFind.calls (k : Nat) (A0 : Option Addr) (c0 : Nat) (l0 : List Int) (r1 : List Int) (r2 : Bool) (w : World) (hr0 : Kd.C (Kd.int .i64) w A0 l0.length l0) (hc0 : l0.length ≤ c0) (h : spec_ZeroFind.f k l0 = some (r1, r2)) :
 Calls Try.prog 127 #[.slice A0 l0.length c0] w fun e w' => ∃ v0_ : Value, e = .returned (.tuple #[v0_, .bool r2]) ∧ Kd.R (Kd.int .i64) 3 w' w.heap.size (fun _ => True) v0_ r1 ∧ Below w.heap.size w w' := by
 have HR0 := Aside0.mk hr0
 have HC0 := Aside0.mk hc0
 clear hr0 hc0
 have HB := Aside0.mk (Below.refl w.heap.size w)
 have H : ((spec_FormValid.f k l0).bind fun t326 => (if t326 = true then (if (l0.length : Int) = 2 then (if 0 < (l0.length : Int) then ((spec_l1Core.f k (rd l0 0)).bind fun bt331 => (if 1 < (l0.length : Int) then ((spec_l1Core.f k (rd l0 1)).bind fun bt334 => (if (wrap64 (bt331.1 + bt334.1)) = 0 then ((spec_l5Plain.f k (([bt334.2, bt331.2] : List Int))).bind fun t339 => (some (t339, true))) else (some ((([] : List Int)), false)))) else (none))) else (none)) else (if (l0.length : Int) = 3 then ((spec_l5Three.f k l0).bind fun bt345 => (some (bt345.1, bt345.2))) else (if (l0.length : Int) = 4 then ((spec_l5Four.f k l0).bind fun bt349 => (some (bt349.1, bt349.2))) else (some ((([] : List Int)), false))))) else (some ((([] : List Int)), false)))) = some (r1, r2) := h
 clear h
 replace H := Option.bind_eq_some_iff.mp H
 obtain ⟨t326, A20, H⟩ := H
 replace H : (if t326 = true then (if (l0.length : Int) = 2 then (if 0 < (l0.length : Int) then ((spec_l1Core.f k (rd l0 0)).bind fun bt331 => (if 1 < (l0.length : Int) then ((spec_l1Core.f k (rd l0 1)).bind fun bt334 => (if (wrap64 (bt331.1 + bt334.1)) = 0 then ((spec_l5Plain.f k (([bt334.2, bt331.2] : List Int))).bind fun t339 => (some (t339, true))) else (some ((([] : List Int)), false)))) else (none))) else (none)) else (if (l0.length : Int) = 3 then ((spec_l5Three.f k l0).bind fun bt345 => (some (bt345.1, bt345.2))) else (if (l0.length : Int) = 4 then ((spec_l5Four.f k l0).bind fun bt349 => (some (bt349.1, bt349.2))) else (some ((([] : List Int)), false))))) else (some ((([] : List Int)), false))) = some (r1, r2) := H
 have A2 := Aside0.mk A20
 clear A20
 by_cases c3 : t326 = true
 · subst c3
   have H1 : (if (l0.length : Int) = 2 then (if 0 < (l0.length : Int) then ((spec_l1Core.f k (rd l0 0)).bind fun bt331 => (if 1 < (l0.length : Int) then ((spec_l1Core.f k (rd l0 1)).bind fun bt334 => (if (wrap64 (bt331.1 + bt334.1)) = 0 then ((spec_l5Plain.f k (([bt334.2, bt331.2] : List Int))).bind fun t339 => (some (t339, true))) else (some ((([] : List Int)), false)))) else (none))) else (none)) else (if (l0.length : Int) = 3 then ((spec_l5Three.f k l0).bind fun bt345 => (some (bt345.1, bt345.2))) else (if (l0.length : Int) = 4 then ((spec_l5Four.f k l0).bind fun bt349 => (some (bt349.1, bt349.2))) else (some ((([] : List Int)), false))))) = some (r1, r2) := by rw [if_pos rfl] at H; exact H
   clear H
   have H := H1
   clear H1
   by_cases c4 : (l0.length : Int) = 2
   · rw [if_pos c4] at H
     have c4b0 : ((l0.length : Int) == 2) = true := beq_iff_eq.mpr c4
     have c4b1 : ((l0.length : Int) != 2) = false := bne_eq_false_iff_eq.mpr c4
     clear c4
     by_cases c5 : 0 < (l0.length : Int)
     · rw [if_pos c5] at H
       have c5b0 : decide (0 < (l0.length : Int)) = true := decide_eq_true c5
       have c5b1 : decide (0 < l0.length) = true := decide_eq_true (by omega)
       clear c5
       replace H := Option.bind_eq_some_iff.mp H
       obtain ⟨⟨t331, t332⟩, A60, H⟩ := H
       replace H : (if 1 < (l0.length : Int) then ((spec_l1Core.f k (rd l0 1)).bind fun bt334 => (if (wrap64 (t331 + bt334.1)) = 0 then ((spec_l5Plain.f k (([bt334.2, t332] : List Int))).bind fun t339 => (some (t339, true))) else (some ((([] : List Int)), false)))) else (none)) = some (r1, r2) := H
       have A6 := Aside0.mk A60
       clear A60
       by_cases c7 : 1 < (l0.length : Int)
       · rw [if_pos c7] at H
         have c7b0 : decide (1 < (l0.length : Int)) = true := decide_eq_true c7
         have c7b1 : decide (1 < l0.length) = true := decide_eq_true (by omega)
         clear c7
         replace H := Option.bind_eq_some_iff.mp H
         obtain ⟨⟨t334, t335⟩, A80, H⟩ := H
         replace H : (if (wrap64 (t331 + t334)) = 0 then ((spec_l5Plain.f k (([t335, t332] : List Int))).bind fun t339 => (some (t339, true))) else (some ((([] : List Int)), false))) = some (r1, r2) := H
         have A8 := Aside0.mk A80
         clear A80
         by_cases c9 : (wrap64 (t331 + t334)) = 0
         · rw [if_pos c9] at H
           have c9b0 : ((wrap64 (t331 + t334)) == 0) = true := beq_iff_eq.mpr c9
           have c9b1 : ((wrap64 (t331 + t334)) != 0) = false := bne_eq_false_iff_eq.mpr c9
           clear c9
           obtain ⟨y336, hy336⟩ : ∃ y_ : List Int, y_ = (([t335, t332] : List Int)) := ⟨_, rfl⟩
           replace H : ((spec_l5Plain.f k y336).bind fun t339 => (some (t339, true))) = some (r1, r2) := by first | (rw [hy336]; with_reducible exact H) | (have H2_ := (Option.bind_some _ _).symm.trans H; rw [hy336]; with_reducible exact H2_) | (have H2_ := (Option.bind_some _ _).symm.trans H; with_reducible exact H2_) | with_reducible exact H | (rw [hy336]; exact H) | exact H
           have Ny336 := Aside0.mk hy336
           clear hy336
           replace H := Option.bind_eq_some_iff.mp H
           obtain ⟨t339, A100, H⟩ := H
           replace H : (some (t339, true)) = some (r1, r2) := H
           have A10 := Aside0.mk A100
           clear A100
           simp only [Option.some.injEq, Prod.mk.injEq] at H
           obtain ⟨rfl, rfl⟩ := H
           go_enter Try.func127, Try.ntmps127
           go_wp2_with (first | ((with_reducible refine gate_callee (f := 73) rfl ?_); refine goesL_ (some 9) rfl rfl Try.func73 (by kernel_rfl) rfl #[.slice A0 l0.length c0] rfl z5_ ?_; (with_reducible refine (spec_FormValid.calls k _ _ l0 true _ ?side1 ?side2 A2.out).mono ?_); (case side1 => repeat (first | exact HR0.out | (with_reducible refine Kd.C_alloc ?_ _) | (with_reducible refine Kd.C_drewN ?_ _) | (with_reducible refine Kd.C_drew ?_))); (case side2 => exact HC0.out); rintro e w' ⟨rfl, ⟨nd, rfl⟩⟩; refine ⟨_, rfl, ?_⟩; have p330 : 0 ≤ (0 : Int) := (by omega); have q330 : 0 < (l0.length : Int) := of_decide_eq_true z25_; obtain ⟨ad330, e330, hx330_0⟩ := Kd.at_int HR0.out 0 p330 q330; cases e330; have qi330 : (0 < l0.length) = True := eq_true (by omega); (try rw [show ((0 : Int)).toNat = 0 from rfl] at hx330_0); (try rw [Addr.add_zero'] at hx330_0); replace p330 := eq_true p330; replace q330 := eq_true q330) | ((with_reducible refine gate_callee (f := 113) rfl ?_); refine goesL_ (some 20) rfl rfl Try.func113 (by kernel_rfl) rfl #[.int .i64 (rd l0 0)] rfl z5_ ?_; (with_reducible refine (spec_l1Core.calls k (rd l0 0) t331 t332 _ A6.out).mono ?_); rintro e w11 ⟨rfl, hb⟩; refine ⟨_, rfl, ?_⟩; have n0_ := Aside0.mk (below_step z7_ hb); clear HB; have HB := n0_; clear n0_; (try clear hb); (try clear hb2); (try clear hk); (try clear hi); have p333 : 0 ≤ (1 : Int) := (by omega); have q333 : 1 < (l0.length : Int) := of_decide_eq_true z25_; obtain ⟨ad333, e333, hx333_0⟩ := Kd.at_int HR0.out 1 p333 q333; obtain rfl : ad330 = ad333 := (by injection e333); (try simp only [show (1 : Int).toNat = 1 from rfl, Nat.reduceMul, Nat.reduceEqDiff, Go.Addr.add, ↓reduceIte] at hx333_0); have qi333 : (1 < l0.length) = True := eq_true (by omega); (try rw [show ((1 : Int)).toNat = 1 from rfl] at hx333_0); replace hx333_0 := (HB.out.cell (World.block_lt_of_cell? w _ hx333_0)).trans hx333_0; replace p333 := eq_true p333; replace q333 := eq_true q333) | ((with_reducible refine gate_callee (f := 113) rfl ?_); refine goesL_ (some 27) rfl rfl Try.func113 (by kernel_rfl) rfl #[.int .i64 (rd l0 1)] rfl z5_ ?_; (with_reducible refine (spec_l1Core.calls k (rd l0 1) t334 t335 _ A8.out).mono ?_); rintro e w12 ⟨rfl, hb⟩; refine ⟨_, rfl, ?_⟩; have n0_ := Aside0.mk (below_step z7_ hb); clear HB; have HB := n0_; clear n0_; (try clear hb); (try clear hb2); (try clear hk); (try clear hi)) | ((with_reducible refine gate_dst (N := 36) rfl ?_); refine Kd.R_lit (Kd.int .i64) _ 3 ?hg (N := 36) ?hd (xs := ([t335, t332] : List Int)) (inner := [.int .i64 t335, .int .i64 t332]) (ok := fun _ => True) (okp := fun _ => True) ?hr ?hp (fun _ hk => hk) trivial (Below.refl _ _) (Nat.le_refl _) (by simp) ?_; (case hd => rfl); (case hg => rfl); (case hr => first | (go_simp; done) | (go_simp; rfl)); (case hp => exact (Reps.one (show Kd.M (Kd.int .i64) _ _ _ t335 [.int .i64 t335] from rfl) (Reps.one (show Kd.M (Kd.int .i64) _ _ _ t332 [.int .i64 t332] from rfl) (Reps.none _ _)))); intro v337 w13 ho14 hb hg_ hnew_; clear hg_ hnew_; (first | rw [← Ny336.out] at ho14 | (simp only [Int.reduceToNat] at ho14; rw [← Ny336.out] at ho14)); have n0_ := Aside0.mk (Kd.R_lower ho14 (below_size z7_)); have n1_ := Aside0.mk (below_step z7_ hb); clear HB; have HO338 := n0_; have HB := n1_; clear n0_ n1_; clear hb ho14; obtain ⟨Ao15, co15, eo15⟩ := Kd.R_slice HO338.out; subst eo15) | ((with_reducible refine gate_callee (f := 106) rfl ?_); refine goesL_ (some 37) rfl rfl Try.func106 (by kernel_rfl) rfl #[.slice Ao15 y336.length co15] rfl z5_ ?_; (with_reducible refine (spec_l5Plain.calls k _ _ y336 t339 _ ?side1 ?side2 A10.out).mono ?_); (case side1 => repeat (first | exact (Kd.R_reads' HO338.out).2.2 | (with_reducible refine Kd.C_alloc ?_ _) | (with_reducible refine Kd.C_drewN ?_ _) | (with_reducible refine Kd.C_drew ?_))); (case side2 => exact (Kd.R_reads' HO338.out).2.1); rintro e w16 ⟨v340, rfl, ho0, hb⟩; refine ⟨_, rfl, ?_⟩; have n0_ := Aside0.mk (Kd.R_elder' (by (with_reducible repeat (first | apply Kd.R_alloc | apply Kd.R_drewN | apply Kd.R_drew)); exact HO338.out) (Kd.R_base ho0) hb); have n1_ := Aside0.mk (Kd.R_lower (Kd.R_new' ho0 (Kd.R_lt (by (with_reducible repeat (first | apply Kd.R_alloc | apply Kd.R_drewN | apply Kd.R_drew)); exact HO338.out))) (below_size z7_)); have n2_ := Aside0.mk (below_step z7_ hb); clear HO338; clear HB; have HO338 := n0_; have HO341 := n1_; have HB := n2_; clear n0_ n1_ n2_; (try clear hb); (try clear hb2); (try clear hk); (try clear hi); (try clear ho0)))
           go_ret2
           exact ⟨_, z23_, by (with_reducible repeat (first | apply Kd.R_alloc | apply Kd.R_drewN | apply Kd.R_drew)); exact Kd.R_mono HO341.out (fun _ hk => trivial), z7_⟩
         · rw [if_neg c9] at H
           have c9b0 : ((wrap64 (t331 + t334)) == 0) = false := beq_eq_false_iff_ne.mpr c9
           have c9b1 : ((wrap64 (t331 + t334)) != 0) = true := bne_iff_ne.mpr c9
           obtain ⟨y342, hy342⟩ : ∃ y_ : List Int, y_ = (([] : List Int)) := ⟨_, rfl⟩
           replace H : (some (y342, false)) = some (r1, r2) := by first | (rw [hy342]; with_reducible exact H) | (have H2_ := (Option.bind_some _ _).symm.trans H; rw [hy342]; with_reducible exact H2_) | (have H2_ := (Option.bind_some _ _).symm.trans H; with_reducible exact H2_) | with_reducible exact H | (rw [hy342]; exact H) | exact H
           have Ny342 := Aside0.mk hy342
           clear hy342
           simp only [Option.some.injEq, Prod.mk.injEq] at H
           obtain ⟨rfl, rfl⟩ := H
           go_enter Try.func127, Try.ntmps127
           go_wp2_with (first | ((with_reducible refine gate_callee (f := 73) rfl ?_); refine goesL_ (some 9) rfl rfl Try.func73 (by kernel_rfl) rfl #[.slice A0 l0.length c0] rfl z5_ ?_; (with_reducible refine (spec_FormValid.calls k _ _ l0 true _ ?side1 ?side2 A2.out).mono ?_); (case side1 => repeat (first | exact HR0.out | (with_reducible refine Kd.C_alloc ?_ _) | (with_reducible refine Kd.C_drewN ?_ _) | (with_reducible refine Kd.C_drew ?_))); (case side2 => exact HC0.out); rintro e w' ⟨rfl, ⟨nd, rfl⟩⟩; refine ⟨_, rfl, ?_⟩; have p330 : 0 ≤ (0 : Int) := (by omega); have q330 : 0 < (l0.length : Int) := of_decide_eq_true z25_; obtain ⟨ad330, e330, hx330_0⟩ := Kd.at_int HR0.out 0 p330 q330; cases e330; have qi330 : (0 < l0.length) = True := eq_true (by omega); (try rw [show ((0 : Int)).toNat = 0 from rfl] at hx330_0); (try rw [Addr.add_zero'] at hx330_0); replace p330 := eq_true p330; replace q330 := eq_true q330) | ((with_reducible refine gate_callee (f := 113) rfl ?_); refine goesL_ (some 20) rfl rfl Try.func113 (by kernel_rfl) rfl #[.int .i64 (rd l0 0)] rfl z5_ ?_; (with_reducible refine (spec_l1Core.calls k (rd l0 0) t331 t332 _ A6.out).mono ?_); rintro e w17 ⟨rfl, hb⟩; refine ⟨_, rfl, ?_⟩; have n0_ := Aside0.mk (below_step z7_ hb); clear HB; have HB := n0_; clear n0_; (try clear hb); (try clear hb2); (try clear hk); (try clear hi); have p333 : 0 ≤ (1 : Int) := (by omega); have q333 : 1 < (l0.length : Int) := of_decide_eq_true z25_; obtain ⟨ad333, e333, hx333_0⟩ := Kd.at_int HR0.out 1 p333 q333; obtain rfl : ad330 = ad333 := (by injection e333); (try simp only [show (1 : Int).toNat = 1 from rfl, Nat.reduceMul, Nat.reduceEqDiff, Go.Addr.add, ↓reduceIte] at hx333_0); have qi333 : (1 < l0.length) = True := eq_true (by omega); (try rw [show ((1 : Int)).toNat = 1 from rfl] at hx333_0); replace hx333_0 := (HB.out.cell (World.block_lt_of_cell? w _ hx333_0)).trans hx333_0; replace p333 := eq_true p333; replace q333 := eq_true q333) | ((with_reducible refine gate_callee (f := 113) rfl ?_); refine goesL_ (some 27) rfl rfl Try.func113 (by kernel_rfl) rfl #[.int .i64 (rd l0 1)] rfl z5_ ?_; (with_reducible refine (spec_l1Core.calls k (rd l0 1) t334 t335 _ A8.out).mono ?_); rintro e w18 ⟨rfl, hb⟩; refine ⟨_, rfl, ?_⟩; have n0_ := Aside0.mk (below_step z7_ hb); clear HB; have HB := n0_; clear n0_; (try clear hb); (try clear hb2); (try clear hk); (try clear hi)) | ((with_reducible refine gate_dst (N := 50) rfl ?_); refine Kd.R_lit (Kd.int .i64) _ 3 ?hg (N := 50) ?hd (xs := ([] : List Int)) (inner := []) (ok := fun _ => True) (okp := fun _ => True) ?hr ?hp (fun _ hk => hk) trivial (Below.refl _ _) (Nat.le_refl _) (by simp) ?_; (case hd => rfl); (case hg => rfl); (case hr => first | (go_simp; done) | (go_simp; rfl)); (case hp => exact (Reps.none _ _)); intro v343 w19 ho20 hb hg_ hnew_; clear hg_ hnew_; (first | rw [← Ny342.out] at ho20 | (simp only [Int.reduceToNat] at ho20; rw [← Ny342.out] at ho20)); have n0_ := Aside0.mk (Kd.R_lower ho20 (below_size z7_)); have n1_ := Aside0.mk (below_step z7_ hb); clear HB; have HO344 := n0_; have HB := n1_; clear n0_ n1_; clear hb ho20))
           go_ret2
           exact ⟨_, z23_, by (with_reducible repeat (first | apply Kd.R_alloc | apply Kd.R_drewN | apply Kd.R_drew)); exact HO344.out, z7_⟩
       · rw [if_neg c7] at H
         exact absurd H (by simp)
     · rw [if_neg c5] at H
       exact absurd H (by simp)
   · rw [if_neg c4] at H
     have c4b0 : ((l0.length : Int) == 2) = false := beq_eq_false_iff_ne.mpr c4
     have c4b1 : ((l0.length : Int) != 2) = true := bne_iff_ne.mpr c4
     by_cases c21 : (l0.length : Int) = 3
     · rw [if_pos c21] at H
       have c21b0 : ((l0.length : Int) == 3) = true := beq_iff_eq.mpr c21
       have c21b1 : ((l0.length : Int) != 3) = false := bne_eq_false_iff_eq.mpr c21
       clear c21
       replace H := Option.bind_eq_some_iff.mp H
       obtain ⟨⟨t345, t346⟩, A220, H⟩ := H
       replace H : (some (t345, t346)) = some (r1, r2) := H
       have A22 := Aside0.mk A220
       clear A220
       simp only [Option.some.injEq, Prod.mk.injEq] at H
       obtain ⟨rfl, rfl⟩ := H
       go_enter Try.func127, Try.ntmps127
       go_wp2_with (first | ((with_reducible refine gate_callee (f := 73) rfl ?_); refine goesL_ (some 9) rfl rfl Try.func73 (by kernel_rfl) rfl #[.slice A0 l0.length c0] rfl z5_ ?_; (with_reducible refine (spec_FormValid.calls k _ _ l0 true _ ?side1 ?side2 A2.out).mono ?_); (case side1 => repeat (first | exact HR0.out | (with_reducible refine Kd.C_alloc ?_ _) | (with_reducible refine Kd.C_drewN ?_ _) | (with_reducible refine Kd.C_drew ?_))); (case side2 => exact HC0.out); rintro e w' ⟨rfl, ⟨nd, rfl⟩⟩; refine ⟨_, rfl, ?_⟩) | ((with_reducible refine gate_callee (f := 139) rfl ?_); refine goesL_ (some 41) rfl rfl Try.func139 (by kernel_rfl) rfl #[.slice A0 l0.length c0] rfl z5_ ?_; (with_reducible refine (spec_l5Three.calls k _ _ l0 t345 t346 _ ?side1 ?side2 A22.out).mono ?_); (case side1 => repeat (first | exact HR0.out | (with_reducible refine Kd.C_alloc ?_ _) | (with_reducible refine Kd.C_drewN ?_ _) | (with_reducible refine Kd.C_drew ?_))); (case side2 => exact HC0.out); rintro e w23 ⟨v347, rfl, ho0, hb⟩; refine ⟨_, rfl, ?_⟩; have n0_ := Aside0.mk (Kd.R_lower ho0 (below_size z7_)); have n1_ := Aside0.mk (below_step z7_ hb); clear HB; have HO348 := n0_; have HB := n1_; clear n0_ n1_; (try clear hb); (try clear hb2); (try clear hk); (try clear hi); (try clear ho0)))
       go_ret2
       exact ⟨_, z23_, by (with_reducible repeat (first | apply Kd.R_alloc | apply Kd.R_drewN | apply Kd.R_drew)); exact HO348.out, z7_⟩
     · rw [if_neg c21] at H
       have c21b0 : ((l0.length : Int) == 3) = false := beq_eq_false_iff_ne.mpr c21
       have c21b1 : ((l0.length : Int) != 3) = true := bne_iff_ne.mpr c21
       by_cases c24 : (l0.length : Int) = 4
       · rw [if_pos c24] at H
         have c24b0 : ((l0.length : Int) == 4) = true := beq_iff_eq.mpr c24
         have c24b1 : ((l0.length : Int) != 4) = false := bne_eq_false_iff_eq.mpr c24
         clear c24
         replace H := Option.bind_eq_some_iff.mp H
         obtain ⟨⟨t349, t350⟩, A250, H⟩ := H
         replace H : (some (t349, t350)) = some (r1, r2) := H
         have A25 := Aside0.mk A250
         clear A250
         simp only [Option.some.injEq, Prod.mk.injEq] at H
         obtain ⟨rfl, rfl⟩ := H
         go_enter Try.func127, Try.ntmps127
         go_wp2_with (first | ((with_reducible refine gate_callee (f := 73) rfl ?_); refine goesL_ (some 9) rfl rfl Try.func73 (by kernel_rfl) rfl #[.slice A0 l0.length c0] rfl z5_ ?_; (with_reducible refine (spec_FormValid.calls k _ _ l0 true _ ?side1 ?side2 A2.out).mono ?_); (case side1 => repeat (first | exact HR0.out | (with_reducible refine Kd.C_alloc ?_ _) | (with_reducible refine Kd.C_drewN ?_ _) | (with_reducible refine Kd.C_drew ?_))); (case side2 => exact HC0.out); rintro e w' ⟨rfl, ⟨nd, rfl⟩⟩; refine ⟨_, rfl, ?_⟩) | ((with_reducible refine gate_callee (f := 140) rfl ?_); refine goesL_ (some 47) rfl rfl Try.func140 (by kernel_rfl) rfl #[.slice A0 l0.length c0] rfl z5_ ?_; (with_reducible refine (spec_l5Four.calls k _ _ l0 t349 t350 _ ?side1 ?side2 A25.out).mono ?_); (case side1 => repeat (first | exact HR0.out | (with_reducible refine Kd.C_alloc ?_ _) | (with_reducible refine Kd.C_drewN ?_ _) | (with_reducible refine Kd.C_drew ?_))); (case side2 => exact HC0.out); rintro e w26 ⟨v351, rfl, ho0, hb⟩; refine ⟨_, rfl, ?_⟩; have n0_ := Aside0.mk (Kd.R_lower ho0 (below_size z7_)); have n1_ := Aside0.mk (below_step z7_ hb); clear HB; have HO352 := n0_; have HB := n1_; clear n0_ n1_; (try clear hb); (try clear hb2); (try clear hk); (try clear hi); (try clear ho0)))
         go_ret2
         exact ⟨_, z23_, by (with_reducible repeat (first | apply Kd.R_alloc | apply Kd.R_drewN | apply Kd.R_drew)); exact HO352.out, z7_⟩
       · rw [if_neg c24] at H
         have c24b0 : ((l0.length : Int) == 4) = false := beq_eq_false_iff_ne.mpr c24
         have c24b1 : ((l0.length : Int) != 4) = true := bne_iff_ne.mpr c24
         obtain ⟨y353, hy353⟩ : ∃ y_ : List Int, y_ = (([] : List Int)) := ⟨_, rfl⟩
         replace H : (some (y353, false)) = some (r1, r2) := by first | (rw [hy353]; with_reducible exact H) | (have H2_ := (Option.bind_some _ _).symm.trans H; rw [hy353]; with_reducible exact H2_) | (have H2_ := (Option.bind_some _ _).symm.trans H; with_reducible exact H2_) | with_reducible exact H | (rw [hy353]; exact H) | exact H
         have Ny353 := Aside0.mk hy353
         clear hy353
         simp only [Option.some.injEq, Prod.mk.injEq] at H
         obtain ⟨rfl, rfl⟩ := H
         go_enter Try.func127, Try.ntmps127
         go_wp2_with (first | ((with_reducible refine gate_callee (f := 73) rfl ?_); refine goesL_ (some 9) rfl rfl Try.func73 (by kernel_rfl) rfl #[.slice A0 l0.length c0] rfl z5_ ?_; (with_reducible refine (spec_FormValid.calls k _ _ l0 true _ ?side1 ?side2 A2.out).mono ?_); (case side1 => repeat (first | exact HR0.out | (with_reducible refine Kd.C_alloc ?_ _) | (with_reducible refine Kd.C_drewN ?_ _) | (with_reducible refine Kd.C_drew ?_))); (case side2 => exact HC0.out); rintro e w' ⟨rfl, ⟨nd, rfl⟩⟩; refine ⟨_, rfl, ?_⟩) | ((with_reducible refine gate_dst (N := 50) rfl ?_); refine Kd.R_lit (Kd.int .i64) _ 3 ?hg (N := 50) ?hd (xs := ([] : List Int)) (inner := []) (ok := fun _ => True) (okp := fun _ => True) ?hr ?hp (fun _ hk => hk) trivial (Below.refl _ _) (Nat.le_refl _) (by simp) ?_; (case hd => rfl); (case hg => rfl); (case hr => first | (go_simp; done) | (go_simp; rfl)); (case hp => exact (Reps.none _ _)); intro v354 w27 ho28 hb hg_ hnew_; clear hg_ hnew_; (first | rw [← Ny353.out] at ho28 | (simp only [Int.reduceToNat] at ho28; rw [← Ny353.out] at ho28)); have n0_ := Aside0.mk (Kd.R_lower ho28 (below_size z7_)); have n1_ := Aside0.mk (below_step z7_ hb); clear HB; have HO355 := n0_; have HB := n1_; clear n0_ n1_; clear hb ho28))
         go_ret2
         exact ⟨_, z23_, by (with_reducible repeat (first | apply Kd.R_alloc | apply Kd.R_drewN | apply Kd.R_drew)); exact HO355.out, z7_⟩
 · replace c3 := Bool.eq_false_iff.mpr c3
   subst c3
   have H1 : (some ((([] : List Int)), false)) = some (r1, r2) := by rw [if_neg (show ¬ (false = true) by decide)] at H; exact H
   clear H
   have H := H1
   clear H1
   obtain ⟨y327, hy327⟩ : ∃ y_ : List Int, y_ = (([] : List Int)) := ⟨_, rfl⟩
   replace H : (some (y327, false)) = some (r1, r2) := by first | (rw [hy327]; with_reducible exact H) | (have H2_ := (Option.bind_some _ _).symm.trans H; rw [hy327]; with_reducible exact H2_) | (have H2_ := (Option.bind_some _ _).symm.trans H; with_reducible exact H2_) | with_reducible exact H | (rw [hy327]; exact H) | exact H
   have Ny327 := Aside0.mk hy327
   clear hy327
   simp only [Option.some.injEq, Prod.mk.injEq] at H
   obtain ⟨rfl, rfl⟩ := H
   go_enter Try.func127, Try.ntmps127
   go_wp2_with (first | ((with_reducible refine gate_callee (f := 73) rfl ?_); refine goesL_ (some 9) rfl rfl Try.func73 (by kernel_rfl) rfl #[.slice A0 l0.length c0] rfl z5_ ?_; (with_reducible refine (spec_FormValid.calls k _ _ l0 false _ ?side1 ?side2 A2.out).mono ?_); (case side1 => repeat (first | exact HR0.out | (with_reducible refine Kd.C_alloc ?_ _) | (with_reducible refine Kd.C_drewN ?_ _) | (with_reducible refine Kd.C_drew ?_))); (case side2 => exact HC0.out); rintro e w' ⟨rfl, ⟨nd, rfl⟩⟩; refine ⟨_, rfl, ?_⟩) | ((with_reducible refine gate_dst (N := 11) rfl ?_); refine Kd.R_lit (Kd.int .i64) _ 3 ?hg (N := 11) ?hd (xs := ([] : List Int)) (inner := []) (ok := fun _ => True) (okp := fun _ => True) ?hr ?hp (fun _ hk => hk) trivial (Below.refl _ _) (Nat.le_refl _) (by simp) ?_; (case hd => rfl); (case hg => rfl); (case hr => first | (go_simp; done) | (go_simp; rfl)); (case hp => exact (Reps.none _ _)); intro v328 w29 ho30 hb hg_ hnew_; clear hg_ hnew_; (first | rw [← Ny327.out] at ho30 | (simp only [Int.reduceToNat] at ho30; rw [← Ny327.out] at ho30)); have n0_ := Aside0.mk (Kd.R_lower ho30 (below_size z7_)); have n1_ := Aside0.mk (below_step z7_ hb); clear HB; have HO329 := n0_; have HB := n1_; clear n0_ n1_; clear hb ho30))
   go_ret2
   exact ⟨_, z23_, by (with_reducible repeat (first | apply Kd.R_alloc | apply Kd.R_drewN | apply Kd.R_drew)); exact HO329.out, z7_⟩

/-! ### spec_l91Vector: function 128 -/
def spec_l91Vector.l0 : Nat → List Int → Int → List Int → Int → List Int → Int → Option (List Int × Int)
 | 0, _, _, _, _, _, _ => none
 | k + 1, x1, x2, x7, x8, x1000, x1001 => if x8 < (x1.length : Int) then ((spec_l6Rd_pick.f k x1000 x1001 (wrap64 ((wrap64 (2 * x2)) + 1))).bind fun bt359 => (if x7.length < 17592186044416 then (spec_l91Vector.l0 k x1 x2 (x7 ++ [wrap64 (bt359.1 - x2)]) (wrap64 (x8 + 1)) x1000 bt359.2) else (none))) else (some (x7, x1001))
def spec_l91Vector.f (k : Nat) (s0_0 : List Int) (s0_1 : Int) (l1 : List Int) (a2 : Int) : Option (List Int × Int) := spec_l91Vector.l0 k l1 a2 (([] : List Int)) 0 s0_0 s0_1
theorem spec_l91Vector.mono_l : ∀ k, (∀ y0 y1 y2 y3 y4 y5, LeO (spec_l91Vector.l0 k y0 y1 y2 y3 y4 y5) (spec_l91Vector.l0 (k + 1) y0 y1 y2 y3 y4 y5))
 | 0 => fun _ _ _ _ _ _ r h => by simp [spec_l91Vector.l0] at h
 | k + 1 => by
  have ih0 := spec_l91Vector.mono_l k
  · intro y0 y1 y2 y3 y4 y5
    unfold spec_l91Vector.l0
    repeat' first
    | (with_reducible exact ih0 _ _ _ _ _ _)
    | (with_reducible exact spec_l6Rd_pick.mono _ _ _ _)
    | (with_reducible exact LeO.refl _)
    | (with_reducible exact LeO.none _)
    | (with_reducible refine LeO.ite ?_ ?_)
    | (with_reducible refine LeO.bind ?_ (fun _ => ?_))
    | exact ih0 _ _ _ _ _ _
    | exact spec_l6Rd_pick.mono _ _ _ _
    | exact LeO.none _
    | refine LeO.ite ?_ ?_
    | refine LeO.bind ?_ (fun _ => ?_)
theorem spec_l91Vector.mono : ∀ a0 a1 a2 a3 k, LeO (spec_l91Vector.f k a0 a1 a2 a3) (spec_l91Vector.f (k + 1) a0 a1 a2 a3) := by
 intro a0 a1 a2 a3 k
 have ih0 := spec_l91Vector.mono_l k
 unfold spec_l91Vector.f
 repeat' first
  | (with_reducible exact ih0 _ _ _ _ _ _)
  | (with_reducible exact spec_l6Rd_pick.mono _ _ _ _)
  | (with_reducible exact LeO.refl _)
  | (with_reducible exact LeO.none _)
  | (with_reducible refine LeO.ite ?_ ?_)
  | (with_reducible refine LeO.bind ?_ (fun _ => ?_))
  | exact ih0 _ _ _ _ _ _
  | exact spec_l6Rd_pick.mono _ _ _ _
  | exact LeO.none _
  | refine LeO.ite ?_ ?_
  | refine LeO.bind ?_ (fun _ => ?_)
theorem spec_l91Vector.calls (k : Nat) (g : Nat) (s0_0 : List Int) (s0_1 : Int) (A1 : Option Addr) (c1 : Nat) (l1 : List Int) (a2 : Int) (r1 : List Int) (r2 : Int) (w0 w : World) (hI : IsS81 w0 w g s0_0 s0_1) (hB : Below w0.heap.size w0 w) (hr1 : Kd.C (Kd.int .i64) w A1 l1.length l1) (hc1 : l1.length ≤ c1) (hf1 : ∀ ad, A1 = some ad → 0 < l1.length → ad.block ≠ g) (h : spec_l91Vector.f k s0_0 s0_1 l1 a2 = some (r1, r2)) :
 Calls Try.prog 128 #[.pointer (some ⟨g, 0, none⟩), .slice A1 l1.length c1, .int .i64 a2] w fun e w' => ∃ v0_ : Value, e = .returned (v0_) ∧ Kd.R (Kd.int .i64) 3 w' w.heap.size (fun _ => True) v0_ r1 ∧ IsS81 w0 w' g s0_0 r2 ∧ Below w0.heap.size w0 w' ∧ KeepBut w w' g none := by
 have HR1 := Aside0.mk hr1
 have HC1 := Aside0.mk hc1
 clear hr1 hc1
 have HI0 := Aside0.mk hI
 have HK := Aside0.mk (KeepBut.refl w g none)
 have HL := Aside0.mk hB.size
 clear hI
 have HW0 := Aside0.mk hB.size
 have HB := Aside0.mk hB
 clear hB
 have H : (spec_l91Vector.l0 k l1 a2 (([] : List Int)) 0 s0_0 s0_1) = some (r1, r2) := h
 clear h
 obtain ⟨y356, hy356⟩ : ∃ y_ : List Int, y_ = (([] : List Int)) := ⟨_, rfl⟩
 replace H : (spec_l91Vector.l0 k l1 a2 y356 0 s0_0 s0_1) = some (r1, r2) := by first | (rw [hy356]; with_reducible exact H) | (have H2_ := (Option.bind_some _ _).symm.trans H; rw [hy356]; with_reducible exact H2_) | (have H2_ := (Option.bind_some _ _).symm.trans H; with_reducible exact H2_) | with_reducible exact H | (rw [hy356]; exact H) | exact H
 have Ny356 := Aside0.mk hy356
 clear hy356
 have H' := Aside0.mk H
 clear H
 go_enter Try.func128, Try.ntmps128
 go_wp2_with (first | ((with_reducible refine gate_dst (N := 9) rfl ?_); refine Kd.R_lit (Kd.int .i64) _ 3 ?hg (N := 9) ?hd (xs := ([] : List Int)) (inner := []) (ok := fun _ => True) (okp := fun _ => True) ?hr ?hp (fun _ hk => hk) trivial (Below.refl _ _) (Nat.le_refl _) (by simp) ?_; (case hd => rfl); (case hg => rfl); (case hr => first | (go_simp; done) | (go_simp; rfl)); (case hp => exact (Reps.none _ _)); intro v357 w4 ho5 hb hg_ hnew_; clear hg_ hnew_; (first | rw [← Ny356.out] at ho5 | (simp only [Int.reduceToNat] at ho5; rw [← Ny356.out] at ho5)); have n0_ := Aside0.mk (Kd.R_lower ho5 (keep_size (w := w) (g := g) (row := none) z4_)); have n1_ := Aside0.mk (IsS81.below z3_ hb); have n2_ := Aside0.mk (KeepBut.trans z4_ (KeepBut.of_below hb g none) (.inl rfl)); have n3_ := Aside0.mk (below_step z2_ hb); clear HI0; clear HK; clear HB; have HO358 := n0_; have HI0 := n1_; have HK := n2_; have HB := n3_; clear n0_ n1_ n2_ n3_; clear hb ho5))
 go_loopg [7, 8] k (fun kq v7 v8 w' => ∃ (x7_1 : List Int) (x8_1 : Int) (x1001_1 : Int), v8 = .int .i64 x8_1 ∧ Aside0 (spec_l91Vector.l0 kq l1 a2 x7_1 x8_1 s0_0 x1001_1 = some (r1, r2)) ∧ Aside0 (kq ≤ k) ∧ Aside0 (Kd.R (Kd.int .i64) 3 w' w.heap.size (fun _ => True) v7 x7_1) ∧ Aside0 (IsS81 w0 w' g s0_0 x1001_1) ∧ Aside0 (KeepBut w w' g none) ∧ Aside0 (Below w0.heap.size w0 w'))
 case atStart => exact ⟨(y356), (0), (s0_1), z26_, H', ⟨Nat.le_refl _⟩, ⟨by (with_reducible repeat (first | apply Kd.R_alloc | apply Kd.R_drewN | apply Kd.R_drew)); exact HO358.out⟩, ⟨z3_⟩, ⟨z4_⟩, ⟨z2_⟩⟩
 case round =>
  clear H'
  try clear c1
  try clear p2
  obtain ⟨x7_1, x8_1, x1001_1, rfl, HA, HK1, HO_7, HI0, HK, HB⟩ := hrel
  cases gk with
  | zero => exact absurd HA.out (by simp [spec_l91Vector.l0])
  | succ k1 =>
   have H := HA.out
   clear HA
   simp only [spec_l91Vector.l0] at H
   by_cases c6 : x8_1 < (l1.length : Int)
   · rw [if_pos c6] at H
     have c6b0 : decide (x8_1 < (l1.length : Int)) = true := decide_eq_true c6
     clear c6
     replace H := Option.bind_eq_some_iff.mp H
     obtain ⟨⟨t359, t360⟩, A70, H⟩ := H
     replace H : (if x7_1.length < 17592186044416 then (spec_l91Vector.l0 k1 l1 a2 (x7_1 ++ [wrap64 (t359 - a2)]) (wrap64 (x8_1 + 1)) s0_0 t360) else (none)) = some (r1, r2) := H
     have A7 := Aside0.mk A70
     clear A70
     by_cases c8 : x7_1.length < 17592186044416
     · rw [if_pos c8] at H
       have LMc8 := Aside0.mk c8
       clear c8
       obtain ⟨y361, hy361⟩ : ∃ y_ : List Int, y_ = (x7_1 ++ [wrap64 (t359 - a2)]) := ⟨_, rfl⟩
       replace H : (spec_l91Vector.l0 k1 l1 a2 y361 (wrap64 (x8_1 + 1)) s0_0 t360) = some (r1, r2) := by first | (rw [hy361]; with_reducible exact H) | (have H2_ := (Option.bind_some _ _).symm.trans H; rw [hy361]; with_reducible exact H2_) | (have H2_ := (Option.bind_some _ _).symm.trans H; with_reducible exact H2_) | with_reducible exact H | (rw [hy361]; exact H) | exact H
       have Ny361 := Aside0.mk hy361
       clear hy361
       have H' := Aside0.mk H
       clear H
       go_wp2_with (first | ((with_reducible refine gate_callee (f := 68) rfl ?_); refine goesL_ (some 21) rfl rfl Try.func68 (by kernel_rfl) rfl #[.pointer (some ⟨g, 0, none⟩), .int .i64 (wrap64 ((wrap64 (2 * a2)) + 1))] rfl z5_ ?_; (with_reducible refine (spec_l6Rd_pick.calls k1 g s0_0 x1001_1 (wrap64 ((wrap64 (2 * a2)) + 1)) t359 t360 w0 _ ?side1 ?side2 A7.out).mono ?_); (case side1 => exact z3_); (case side2 => exact z2_); rintro e w9 ⟨rfl, hi, hb, hk⟩; refine ⟨_, rfl, ?_⟩; have n0_ := Aside0.mk (Kd.R_mono (Kd.R_keep (IsS81.apart (show IsS81 w0 _ g s0_0 x1001_1 from by repeat (first | (with_reducible first | exact HI0.out | apply IsS81.alloc | apply IsS81.drewN | apply IsS81.drew | apply IsS81.set_1) | exact HI0.out)) z19_ (by decide)) hk (fun _ h => h.2)) (fun _ h => h.1)); have n1_ := Aside0.mk (KeepBut.trans z4_ hk (.inl rfl)); have n2_ := Aside0.mk (hb); have n3_ := Aside0.mk (hi); clear HO_7; clear HK; clear HB; clear HI0; have HO_7 := n0_; have HK := n1_; have HB := n2_; have HI0 := n3_; clear n0_ n1_ n2_ n3_; (try clear hb); (try clear hb2); (try clear hk); (try clear hi)) | ((with_reducible refine gate_builtin (b := .append) (xs := #[.tmp 16, .tmp 24]) rfl ?_); at_builtin; refine Kd.R_append (Kd.int .i64) w.heap.size rfl (.tmp 16) (.tmp 24) 23 3 (.int .i64 0) 8 rfl Try.underlying23 info3 rfl (by decide) (by omega) u7 x7_1 (wrap64 (t359 - a2)) [.int .i64 (wrap64 (t359 - a2))] (fun _ => True) (fun _ => False) rfl rfl ?aP (fun _ hk => hk.elim) ?aF ?aO (Below.refl _ _) ?aS ?aL ?_; (case aP => exact rfl); (case aF => exact (fun _ _ => trivial)); (case aO => exact z19_); (case aS => exact (keep_size (w := w) (g := g) (row := none) z4_)); (case aL => have := LMc8.out; omega); intro v362 w10 ho hb hg hat; rw [← Ny361.out] at ho; have n0_ := Aside0.mk (IsS81.grown z3_ hg (IsS81.own_ne HI0.out HO_7.out (by decide))); have n1_ := Aside0.mk (below_weaken z2_ HL.out hb); have n2_ := Aside0.mk (KeepBut.trans z4_ (KeepBut.of_grown hg g) (Kd.R_base2 HO_7.out)); have n3_ := Aside0.mk (ho); clear HI0; clear HB; clear HK; clear HO_7; have HI0 := n0_; have HB := n1_; have HK := n2_; have HO363 := n3_; clear n0_ n1_ n2_ n3_; clear ho hb hg hat))
       go_roundg k1
       case measure => have := HK1.out; omega
       case rel => exact ⟨(y361), (wrap64 (x8_1 + 1)), (t360), z26_, H', ⟨by have := HK1.out; omega⟩, ⟨by (with_reducible repeat (first | apply Kd.R_alloc | apply Kd.R_drewN | apply Kd.R_drew)); exact HO363.out⟩, ⟨z3_⟩, ⟨z4_⟩, ⟨z2_⟩⟩
     · rw [if_neg c8] at H
       exact absurd H (by simp)
   · rw [if_neg c6] at H
     have c6b0 : decide (x8_1 < (l1.length : Int)) = false := decide_eq_false c6
     clear c6
     simp only [Option.some.injEq, Prod.mk.injEq] at H
     obtain ⟨rfl, rfl⟩ := H
     go_wp2
     go_ret
     exact ⟨_, z23_, z19_, z3_, z2_, z4_⟩

/-! ### spec_l92Zero: function 102 -/
mutual
def spec_l92Zero.j0 : Nat → List Int → List Int → Bool → List Int → Int → Option (List Int × List Int × Int)
 | 0, _, _, _, _, _ => none
 | k + 1, x4, x5, x25, x1000, x1001 => if x25 = true then ((some (([1, 2, (-1), (-3), 1] : List Int) : List Int)).bind fun y379 => ((spec_l6Rd_pick.f k x1000 x1001 5).bind fun bt382 => (if 0 ≤ bt382.1 then (if bt382.1 < (y379.length : Int) then (spec_l92Zero.l0 k x4 x5 (([] : List Int)) (rd y379 bt382.1) 0 x1000 bt382.2) else (none)) else (none)))) else ((spec_l91Vector.f k x1000 x1001 x4 4).bind fun bt389 => (some (x4, bt389.1, bt389.2)))
def spec_l92Zero.l0 : Nat → List Int → List Int → List Int → Int → Int → List Int → Int → Option (List Int × List Int × Int)
 | 0, _, _, _, _, _, _, _ => none
 | k + 1, x4, x5, x7, x8, x9, x1000, x1001 => if x9 < (x5.length : Int) then (if 0 ≤ x9 then (if x7.length < 17592186044416 then (spec_l92Zero.l0 k x4 x5 (x7 ++ [wrap64 (x8 * (rd x5 x9))]) x8 (wrap64 (x9 + 1)) x1000 x1001) else (none)) else (none)) else (some (x4, x7, x1001))
end
def spec_l92Zero.f (k : Nat) (s0_0 : List Int) (s0_1 : Int) : Option (List Int × List Int × Int) := (spec_l6Rd_pick.f k s0_0 s0_1 3).bind fun bt364 => ((spec_l92Form.f k s0_0 bt364.2 (wrap64 (2 + bt364.1))).bind fun bt366 => ((spec_ZeroFind.f k bt366.1).bind fun bt370 => (if bt370.2 = true then ((spec_l6Rd_pick.f k s0_0 bt366.2 4).bind fun bt374 => (spec_l92Zero.j0 k bt366.1 bt370.1 (decide (bt374.1 > 0)) s0_0 bt374.2)) else (spec_l92Zero.j0 k bt366.1 bt370.1 false s0_0 bt366.2))))
theorem spec_l92Zero.mono_l : ∀ k, (∀ y0 y1 y2 y3 y4, LeO (spec_l92Zero.j0 k y0 y1 y2 y3 y4) (spec_l92Zero.j0 (k + 1) y0 y1 y2 y3 y4)) ∧ (∀ y0 y1 y2 y3 y4 y5 y6, LeO (spec_l92Zero.l0 k y0 y1 y2 y3 y4 y5 y6) (spec_l92Zero.l0 (k + 1) y0 y1 y2 y3 y4 y5 y6))
 | 0 => ⟨fun _ _ _ _ _ r h => by simp [spec_l92Zero.j0] at h, fun _ _ _ _ _ _ _ r h => by simp [spec_l92Zero.l0] at h⟩
 | k + 1 => by
  obtain ⟨ih0, ih1⟩ := spec_l92Zero.mono_l k
  refine ⟨?_, ?_⟩
  · intro y0 y1 y2 y3 y4
    unfold spec_l92Zero.j0
    repeat' first
    | (with_reducible exact ih0 _ _ _ _ _)
    | (with_reducible exact ih1 _ _ _ _ _ _ _)
    | (with_reducible exact spec_ZeroFind.mono _ _)
    | (with_reducible exact spec_l6Rd_pick.mono _ _ _ _)
    | (with_reducible exact spec_l91Vector.mono _ _ _ _ _)
    | (with_reducible exact spec_l92Form.mono _ _ _ _)
    | (with_reducible exact LeO.refl _)
    | (with_reducible exact LeO.none _)
    | (with_reducible refine LeO.ite ?_ ?_)
    | (with_reducible refine LeO.bind ?_ (fun _ => ?_))
    | exact ih0 _ _ _ _ _
    | exact ih1 _ _ _ _ _ _ _
    | exact spec_ZeroFind.mono _ _
    | exact spec_l6Rd_pick.mono _ _ _ _
    | exact spec_l91Vector.mono _ _ _ _ _
    | exact spec_l92Form.mono _ _ _ _
    | exact LeO.none _
    | refine LeO.ite ?_ ?_
    | refine LeO.bind ?_ (fun _ => ?_)
  · intro y0 y1 y2 y3 y4 y5 y6
    unfold spec_l92Zero.l0
    repeat' first
    | (with_reducible exact ih0 _ _ _ _ _)
    | (with_reducible exact ih1 _ _ _ _ _ _ _)
    | (with_reducible exact spec_ZeroFind.mono _ _)
    | (with_reducible exact spec_l6Rd_pick.mono _ _ _ _)
    | (with_reducible exact spec_l91Vector.mono _ _ _ _ _)
    | (with_reducible exact spec_l92Form.mono _ _ _ _)
    | (with_reducible exact LeO.refl _)
    | (with_reducible exact LeO.none _)
    | (with_reducible refine LeO.ite ?_ ?_)
    | (with_reducible refine LeO.bind ?_ (fun _ => ?_))
    | exact ih0 _ _ _ _ _
    | exact ih1 _ _ _ _ _ _ _
    | exact spec_ZeroFind.mono _ _
    | exact spec_l6Rd_pick.mono _ _ _ _
    | exact spec_l91Vector.mono _ _ _ _ _
    | exact spec_l92Form.mono _ _ _ _
    | exact LeO.none _
    | refine LeO.ite ?_ ?_
    | refine LeO.bind ?_ (fun _ => ?_)
theorem spec_l92Zero.mono : ∀ a0 a1 k, LeO (spec_l92Zero.f k a0 a1) (spec_l92Zero.f (k + 1) a0 a1) := by
 intro a0 a1 k
 obtain ⟨ih0, ih1⟩ := spec_l92Zero.mono_l k
 unfold spec_l92Zero.f
 repeat' first
  | (with_reducible exact ih0 _ _ _ _ _)
  | (with_reducible exact ih1 _ _ _ _ _ _ _)
  | (with_reducible exact spec_ZeroFind.mono _ _)
  | (with_reducible exact spec_l6Rd_pick.mono _ _ _ _)
  | (with_reducible exact spec_l91Vector.mono _ _ _ _ _)
  | (with_reducible exact spec_l92Form.mono _ _ _ _)
  | (with_reducible exact LeO.refl _)
  | (with_reducible exact LeO.none _)
  | (with_reducible refine LeO.ite ?_ ?_)
  | (with_reducible refine LeO.bind ?_ (fun _ => ?_))
  | exact ih0 _ _ _ _ _
  | exact ih1 _ _ _ _ _ _ _
  | exact spec_ZeroFind.mono _ _
  | exact spec_l6Rd_pick.mono _ _ _ _
  | exact spec_l91Vector.mono _ _ _ _ _
  | exact spec_l92Form.mono _ _ _ _
  | exact LeO.none _
  | refine LeO.ite ?_ ?_
  | refine LeO.bind ?_ (fun _ => ?_)
theorem spec_l92Zero.calls (k : Nat) (g : Nat) (s0_0 : List Int) (s0_1 : Int) (r1 : List Int) (r2 : List Int) (r3 : Int) (w0 w : World) (hI : IsS81 w0 w g s0_0 s0_1) (hB : Below w0.heap.size w0 w) (h : spec_l92Zero.f k s0_0 s0_1 = some (r1, r2, r3)) :
 Calls Try.prog 102 #[.pointer (some ⟨g, 0, none⟩)] w fun e w' => ∃ v0_ v1_ : Value, e = .returned (.tuple #[v0_, v1_]) ∧ Kd.R (Kd.int .i64) 3 w' w.heap.size (fun k_ => some k_ ≠ (v1_ : Value).ownBlock) v0_ r1 ∧ Kd.R (Kd.int .i64) 3 w' w.heap.size (fun k_ => some k_ ≠ (v0_ : Value).ownBlock) v1_ r2 ∧ IsS81 w0 w' g s0_0 r3 ∧ Below w0.heap.size w0 w' ∧ KeepBut w w' g none := by
 have HI0 := Aside0.mk hI
 have HK := Aside0.mk (KeepBut.refl w g none)
 have HL := Aside0.mk hB.size
 clear hI
 have HW0 := Aside0.mk hB.size
 have HB := Aside0.mk hB
 clear hB
 have H : ((spec_l6Rd_pick.f k s0_0 s0_1 3).bind fun bt364 => ((spec_l92Form.f k s0_0 bt364.2 (wrap64 (2 + bt364.1))).bind fun bt366 => ((spec_ZeroFind.f k bt366.1).bind fun bt370 => (if bt370.2 = true then ((spec_l6Rd_pick.f k s0_0 bt366.2 4).bind fun bt374 => (spec_l92Zero.j0 k bt366.1 bt370.1 (decide (bt374.1 > 0)) s0_0 bt374.2)) else (spec_l92Zero.j0 k bt366.1 bt370.1 false s0_0 bt366.2))))) = some (r1, r2, r3) := h
 clear h
 replace H := Option.bind_eq_some_iff.mp H
 obtain ⟨⟨t364, t365⟩, A20, H⟩ := H
 replace H : ((spec_l92Form.f k s0_0 t365 (wrap64 (2 + t364))).bind fun bt366 => ((spec_ZeroFind.f k bt366.1).bind fun bt370 => (if bt370.2 = true then ((spec_l6Rd_pick.f k s0_0 bt366.2 4).bind fun bt374 => (spec_l92Zero.j0 k bt366.1 bt370.1 (decide (bt374.1 > 0)) s0_0 bt374.2)) else (spec_l92Zero.j0 k bt366.1 bt370.1 false s0_0 bt366.2)))) = some (r1, r2, r3) := H
 have A2 := Aside0.mk A20
 clear A20
 replace H := Option.bind_eq_some_iff.mp H
 obtain ⟨⟨t366, t369⟩, A30, H⟩ := H
 replace H : ((spec_ZeroFind.f k t366).bind fun bt370 => (if bt370.2 = true then ((spec_l6Rd_pick.f k s0_0 t369 4).bind fun bt374 => (spec_l92Zero.j0 k t366 bt370.1 (decide (bt374.1 > 0)) s0_0 bt374.2)) else (spec_l92Zero.j0 k t366 bt370.1 false s0_0 t369))) = some (r1, r2, r3) := H
 have A3 := Aside0.mk A30
 clear A30
 replace H := Option.bind_eq_some_iff.mp H
 obtain ⟨⟨t370, t371⟩, A40, H⟩ := H
 replace H : (if t371 = true then ((spec_l6Rd_pick.f k s0_0 t369 4).bind fun bt374 => (spec_l92Zero.j0 k t366 t370 (decide (bt374.1 > 0)) s0_0 bt374.2)) else (spec_l92Zero.j0 k t366 t370 false s0_0 t369)) = some (r1, r2, r3) := H
 have A4 := Aside0.mk A40
 clear A40
 have HC5 := Aside0.mk H
 clear H
 go_enter Try.func102, Try.ntmps102
 go_upto_region 3 with (first | ((with_reducible refine gate_callee (f := 68) rfl ?_); refine goesL_ (some 12) rfl rfl Try.func68 (by kernel_rfl) rfl #[.pointer (some ⟨g, 0, none⟩), .int .i64 3] rfl z5_ ?_; (with_reducible refine (spec_l6Rd_pick.calls k g s0_0 s0_1 3 t364 t365 w0 _ ?side1 ?side2 A2.out).mono ?_); (case side1 => exact z3_); (case side2 => exact z2_); rintro e w6 ⟨rfl, hi, hb, hk⟩; refine ⟨_, rfl, ?_⟩; have n0_ := Aside0.mk (KeepBut.trans z4_ hk (.inl rfl)); have n1_ := Aside0.mk (hb); have n2_ := Aside0.mk (hi); clear HK; clear HB; clear HI0; have HK := n0_; have HB := n1_; have HI0 := n2_; clear n0_ n1_ n2_; (try clear hb); (try clear hb2); (try clear hk); (try clear hi)) | ((with_reducible refine gate_callee (f := 70) rfl ?_); refine goesL_ (some 14) rfl rfl Try.func70 (by kernel_rfl) rfl #[.pointer (some ⟨g, 0, none⟩), .int .i64 (wrap64 (2 + t364))] rfl z5_ ?_; (with_reducible refine (spec_l92Form.calls k g s0_0 t365 (wrap64 (2 + t364)) t366 t369 w0 _ ?side1 ?side2 A3.out).mono ?_); (case side1 => exact z3_); (case side2 => exact z2_); rintro e w7 ⟨v367, rfl, ho0, hi, hb, hk⟩; refine ⟨_, rfl, ?_⟩; have n0_ := Aside0.mk (Kd.R_lower ho0 (keep_size (w := w) (g := g) (row := none) z4_)); have n1_ := Aside0.mk (KeepBut.trans z4_ hk (.inl rfl)); have n2_ := Aside0.mk (hb); have n3_ := Aside0.mk (hi); clear HK; clear HB; clear HI0; have HO368 := n0_; have HK := n1_; have HB := n2_; have HI0 := n3_; clear n0_ n1_ n2_ n3_; (try clear hb); (try clear hb2); (try clear hk); (try clear hi); (try clear ho0); obtain ⟨Ao8, co8, eo8⟩ := Kd.R_slice HO368.out; subst eo8) | ((with_reducible refine gate_callee (f := 127) rfl ?_); refine goesL_ (some 17) rfl rfl Try.func127 (by kernel_rfl) rfl #[.slice Ao8 t366.length co8] rfl z5_ ?_; (with_reducible refine (spec_ZeroFind.calls k _ _ t366 t370 t371 _ ?side1 ?side2 A4.out).mono ?_); (case side1 => repeat (first | exact (Kd.R_reads' HO368.out).2.2 | (with_reducible refine Kd.C_alloc ?_ _) | (with_reducible refine Kd.C_drewN ?_ _) | (with_reducible refine Kd.C_drew ?_))); (case side2 => exact (Kd.R_reads' HO368.out).2.1); rintro e w9 ⟨v372, rfl, ho0, hb⟩; refine ⟨_, rfl, ?_⟩; have n0_ := Aside0.mk (Kd.R_elder' (by (with_reducible repeat (first | apply Kd.R_alloc | apply Kd.R_drewN | apply Kd.R_drew)); exact HO368.out) (Kd.R_base ho0) hb); have n1_ := Aside0.mk (Kd.R_lower (Kd.R_new' ho0 (Kd.R_lt (by (with_reducible repeat (first | apply Kd.R_alloc | apply Kd.R_drewN | apply Kd.R_drew)); exact HO368.out))) (keep_size (w := w) (g := g) (row := none) z4_)); have n2_ := Aside0.mk (IsS81.below z3_ hb); have n3_ := Aside0.mk (KeepBut.trans z4_ (KeepBut.of_below hb g none) (.inl rfl)); have n4_ := Aside0.mk (below_step z2_ hb); clear HO368; clear HI0; clear HK; clear HB; have HO368 := n0_; have HO373 := n1_; have HI0 := n2_; have HK := n3_; have HB := n4_; clear n0_ n1_ n2_ n3_ n4_; (try clear hb); (try clear hb2); (try clear hk); (try clear hi); (try clear ho0)))
 (try simp only [Act.put, List.setIfInBounds_toArray, List.set_cons_zero, List.set_cons_succ])
 go_cut [25] (fun v25 wc => ∃ (kq : Nat) (x25_4 : Bool) (x1001_4 : Int), v25 = .bool x25_4 ∧ Aside0 (spec_l92Zero.j0 kq t366 t370 x25_4 s0_0 x1001_4 = some (r1, r2, r3)) ∧ Aside0 (kq ≤ k) ∧ Aside0 (Kd.R (Kd.int .i64) 3 wc w.heap.size (fun k_ => some k_ ≠ (v372 : Value).ownBlock) (.slice Ao8 t366.length co8) t366) ∧ Aside0 (Kd.R (Kd.int .i64) 3 wc w.heap.size (fun k_ => some k_ ≠ ((.slice Ao8 t366.length co8) : Value).ownBlock) v372 t370) ∧ Aside0 (IsS81 w0 wc g s0_0 x1001_4) ∧ Aside0 (KeepBut w wc g none) ∧ Aside0 (Below w0.heap.size w0 wc))
 case first =>
  have H := HC5.out
  clear HC5
  by_cases c10 : t371 = true
  · subst c10
    have H1 : ((spec_l6Rd_pick.f k s0_0 t369 4).bind fun bt374 => (spec_l92Zero.j0 k t366 t370 (decide (bt374.1 > 0)) s0_0 bt374.2)) = some (r1, r2, r3) := by rw [if_pos rfl] at H; exact H
    clear H
    have H := H1
    clear H1
    replace H := Option.bind_eq_some_iff.mp H
    obtain ⟨⟨t374, t375⟩, A110, H⟩ := H
    replace H : (spec_l92Zero.j0 k t366 t370 (decide (t374 > 0)) s0_0 t375) = some (r1, r2, r3) := H
    have A11 := Aside0.mk A110
    clear A110
    have H' := Aside0.mk H
    clear H
    go_wp2_with (first | (go_at_call 68; (with_reducible refine (spec_l6Rd_pick.calls k g s0_0 t369 4 t374 t375 w0 _ ?side1 ?side2 A11.out).mono ?_); (case side1 => exact z3_); (case side2 => exact z2_); rintro e w12 ⟨rfl, hi, hb, hk⟩; have n0_ := Aside0.mk (Kd.R_mono (Kd.R_keep (IsS81.apart (show IsS81 w0 _ g s0_0 t369 from by repeat (first | (with_reducible first | exact HI0.out | apply IsS81.alloc | apply IsS81.drewN | apply IsS81.drew | apply IsS81.set_1) | exact HI0.out)) (by (with_reducible repeat (first | apply Kd.R_alloc | apply Kd.R_drewN | apply Kd.R_drew)); exact HO368.out) (by decide)) hk (fun _ h => h.2)) (fun _ h => h.1)); have n1_ := Aside0.mk (Kd.R_mono (Kd.R_keep (IsS81.apart (show IsS81 w0 _ g s0_0 t369 from by repeat (first | (with_reducible first | exact HI0.out | apply IsS81.alloc | apply IsS81.drewN | apply IsS81.drew | apply IsS81.set_1) | exact HI0.out)) (by (with_reducible repeat (first | apply Kd.R_alloc | apply Kd.R_drewN | apply Kd.R_drew)); exact HO373.out) (by decide)) hk (fun _ h => h.2)) (fun _ h => h.1)); have n2_ := Aside0.mk (KeepBut.trans z4_ hk (.inl rfl)); have n3_ := Aside0.mk (hb); have n4_ := Aside0.mk (hi); clear HO368; clear HO373; clear HK; clear HB; clear HI0; have HO368 := n0_; have HO373 := n1_; have HK := n2_; have HB := n3_; have HI0 := n4_; clear n0_ n1_ n2_ n3_ n4_; (try clear hb); (try clear hb2); (try clear hk); (try clear hi)))
    go_meet
    case rel => exact ⟨_, (decide (t374 > 0)), (t375), z26_, H', ⟨z27_⟩, ⟨by (with_reducible repeat (first | apply Kd.R_alloc | apply Kd.R_drewN | apply Kd.R_drew)); exact Kd.R_mono HO368.out (fun _ hk => hk.2)⟩, ⟨by (with_reducible repeat (first | apply Kd.R_alloc | apply Kd.R_drewN | apply Kd.R_drew)); exact Kd.R_mono HO373.out (fun _ hk => hk.2)⟩, ⟨z3_⟩, ⟨z4_⟩, ⟨z2_⟩⟩
  · replace c10 := Bool.eq_false_iff.mpr c10
    subst c10
    have H1 : (spec_l92Zero.j0 k t366 t370 false s0_0 t369) = some (r1, r2, r3) := by rw [if_neg (show ¬ (false = true) by decide)] at H; exact H
    clear H
    have H := H1
    clear H1
    have H' := Aside0.mk H
    clear H
    go_wp2
    go_meet
    case rel => exact ⟨_, (false), (t369), z26_, H', ⟨z27_⟩, ⟨by (with_reducible repeat (first | apply Kd.R_alloc | apply Kd.R_drewN | apply Kd.R_drew)); exact Kd.R_mono HO368.out (fun _ hk => hk.2)⟩, ⟨by (with_reducible repeat (first | apply Kd.R_alloc | apply Kd.R_drewN | apply Kd.R_drew)); exact Kd.R_mono HO373.out (fun _ hk => hk.2)⟩, ⟨z3_⟩, ⟨z4_⟩, ⟨z2_⟩⟩
 case rest =>
  clear HC5
  try clear c1
  try clear p2
  try clear c6
  try clear p6
  try clear c7
  try clear c10
  try clear c12
  obtain ⟨kq, x25_4, x1001_4, rfl, HA, HJ4, HO_4, HO_5, HI0, HK, HB⟩ := hcut
  cases kq with
  | zero => exact absurd HA.out (by simp [spec_l92Zero.j0])
  | succ kj4 =>
   have H := HA.out
   clear HA
   simp only [spec_l92Zero.j0] at H
   by_cases c13 : x25_4 = true
   · subst c13
     have H1 : ((some (([1, 2, (-1), (-3), 1] : List Int) : List Int)).bind fun y379 => ((spec_l6Rd_pick.f kj4 s0_0 x1001_4 5).bind fun bt382 => (if 0 ≤ bt382.1 then (if bt382.1 < (y379.length : Int) then (spec_l92Zero.l0 kj4 t366 t370 (([] : List Int)) (rd y379 bt382.1) 0 s0_0 bt382.2) else (none)) else (none)))) = some (r1, r2, r3) := by rw [if_pos rfl] at H; exact H
     clear H
     have H := H1
     clear H1
     obtain ⟨y376, hy376⟩ : ∃ y_ : List Int, y_ = (([] : List Int)) := ⟨_, rfl⟩
     replace H : ((some (([1, 2, (-1), (-3), 1] : List Int) : List Int)).bind fun y379 => ((spec_l6Rd_pick.f kj4 s0_0 x1001_4 5).bind fun bt382 => (if 0 ≤ bt382.1 then (if bt382.1 < (y379.length : Int) then (spec_l92Zero.l0 kj4 t366 t370 y376 (rd y379 bt382.1) 0 s0_0 bt382.2) else (none)) else (none)))) = some (r1, r2, r3) := by first | (rw [hy376]; with_reducible exact H) | (have H2_ := (Option.bind_some _ _).symm.trans H; rw [hy376]; with_reducible exact H2_) | (have H2_ := (Option.bind_some _ _).symm.trans H; with_reducible exact H2_) | with_reducible exact H | (rw [hy376]; exact H) | exact H
     have Ny376 := Aside0.mk hy376
     clear hy376
     obtain ⟨y379, hy379⟩ : ∃ y_ : List Int, y_ = (([1, 2, (-1), (-3), 1] : List Int)) := ⟨_, rfl⟩
     replace H : ((spec_l6Rd_pick.f kj4 s0_0 x1001_4 5).bind fun bt382 => (if 0 ≤ bt382.1 then (if bt382.1 < (y379.length : Int) then (spec_l92Zero.l0 kj4 t366 t370 y376 (rd y379 bt382.1) 0 s0_0 bt382.2) else (none)) else (none))) = some (r1, r2, r3) := by first | (rw [hy379]; with_reducible exact H) | (have H2_ := (Option.bind_some _ _).symm.trans H; rw [hy379]; with_reducible exact H2_) | (have H2_ := (Option.bind_some _ _).symm.trans H; with_reducible exact H2_) | with_reducible exact H | (rw [hy379]; exact H) | exact H
     have Ny379 := Aside0.mk hy379
     clear hy379
     replace H := Option.bind_eq_some_iff.mp H
     obtain ⟨⟨t382, t383⟩, A140, H⟩ := H
     replace H : (if 0 ≤ t382 then (if t382 < (y379.length : Int) then (spec_l92Zero.l0 kj4 t366 t370 y376 (rd y379 t382) 0 s0_0 t383) else (none)) else (none)) = some (r1, r2, r3) := H
     have A14 := Aside0.mk A140
     clear A140
     by_cases c15 : 0 ≤ t382
     · rw [if_pos c15] at H
       have c15b0 : decide (0 ≤ t382) = true := decide_eq_true c15
       clear c15
       by_cases c16 : t382 < (y379.length : Int)
       · rw [if_pos c16] at H
         have c16b0 : decide (t382 < (y379.length : Int)) = true := decide_eq_true c16
         clear c16
         have H' := Aside0.mk H
         clear H
         go_wp2_with (first | ((with_reducible refine gate_dst (N := 26) rfl ?_); refine Kd.R_lit (Kd.int .i64) _ 3 ?hg (N := 26) ?hd (xs := ([] : List Int)) (inner := []) (ok := fun _ => True) (okp := fun _ => True) ?hr ?hp (fun _ hk => hk) trivial (Below.refl _ _) (Nat.le_refl _) (by simp) ?_; (case hd => rfl); (case hg => rfl); (case hr => first | (go_simp; done) | (go_simp; rfl)); (case hp => exact (Reps.none _ _)); intro v377 w17 ho18 hb hg_ hnew_; clear hg_ hnew_; (first | rw [← Ny376.out] at ho18 | (simp only [Int.reduceToNat] at ho18; rw [← Ny376.out] at ho18)); have n0_ := Aside0.mk (Kd.R_elder' z20_ (Kd.R_base ho18) hb); have n1_ := Aside0.mk (Kd.R_elder' z21_ (Kd.R_base ho18) hb); have n2_ := Aside0.mk (Kd.R_lower (Kd.R_new' (Kd.R_new' ho18 (Kd.R_lt z20_)) (Kd.R_lt z21_)) (keep_size (w := w) (g := g) (row := none) z4_)); have n3_ := Aside0.mk (IsS81.below z3_ hb); have n4_ := Aside0.mk (KeepBut.trans z4_ (KeepBut.of_below hb g none) (.inl rfl)); have n5_ := Aside0.mk (below_step z2_ hb); clear HO_4; clear HO_5; clear HI0; clear HK; clear HB; have HO_4 := n0_; have HO_5 := n1_; have HO378 := n2_; have HI0 := n3_; have HK := n4_; have HB := n5_; clear n0_ n1_ n2_ n3_ n4_ n5_; clear hb ho18) | ((with_reducible refine gate_dst (N := 27) rfl ?_); refine Kd.R_lit (Kd.int .i64) _ 3 ?hg (N := 27) ?hd (xs := ([1, 2, (-1), (-3), 1] : List Int)) (inner := [.int .i64 1, .int .i64 2, .int .i64 (-1), .int .i64 (-3), .int .i64 1]) (ok := fun _ => True) (okp := fun _ => True) ?hr ?hp (fun _ hk => hk) trivial (Below.refl _ _) (Nat.le_refl _) (by simp) ?_; (case hd => rfl); (case hg => rfl); (case hr => first | (go_simp; done) | (go_simp; rfl)); (case hp => exact (Reps.one (show Kd.M (Kd.int .i64) _ _ _ 1 [.int .i64 1] from rfl) (Reps.one (show Kd.M (Kd.int .i64) _ _ _ 2 [.int .i64 2] from rfl) (Reps.one (show Kd.M (Kd.int .i64) _ _ _ (-1) [.int .i64 (-1)] from rfl) (Reps.one (show Kd.M (Kd.int .i64) _ _ _ (-3) [.int .i64 (-3)] from rfl) (Reps.one (show Kd.M (Kd.int .i64) _ _ _ 1 [.int .i64 1] from rfl) (Reps.none _ _))))))); intro v380 w19 ho20 hb hg_ hnew_; clear hg_ hnew_; (first | rw [← Ny379.out] at ho20 | (simp only [Int.reduceToNat] at ho20; rw [← Ny379.out] at ho20)); have n0_ := Aside0.mk (Kd.R_elder' z20_ (Kd.R_base ho20) hb); have n1_ := Aside0.mk (Kd.R_elder' z21_ (Kd.R_base ho20) hb); have n2_ := Aside0.mk (Kd.R_elder' (by (with_reducible repeat (first | apply Kd.R_alloc | apply Kd.R_drewN | apply Kd.R_drew)); exact HO378.out) (Kd.R_base ho20) hb); have n3_ := Aside0.mk (Kd.R_lower (Kd.R_new' (Kd.R_new' (Kd.R_new' ho20 (Kd.R_lt z20_)) (Kd.R_lt z21_)) (Kd.R_lt (by (with_reducible repeat (first | apply Kd.R_alloc | apply Kd.R_drewN | apply Kd.R_drew)); exact HO378.out))) (keep_size (w := w) (g := g) (row := none) z4_)); have n4_ := Aside0.mk (IsS81.below z3_ hb); have n5_ := Aside0.mk (KeepBut.trans z4_ (KeepBut.of_below hb g none) (.inl rfl)); have n6_ := Aside0.mk (below_step z2_ hb); clear HO_4; clear HO_5; clear HO378; clear HI0; clear HK; clear HB; have HO_4 := n0_; have HO_5 := n1_; have HO378 := n2_; have HO381 := n3_; have HI0 := n4_; have HK := n5_; have HB := n6_; clear n0_ n1_ n2_ n3_ n4_ n5_ n6_; clear hb ho20) | ((with_reducible refine gate_callee (f := 68) rfl ?_); refine goesL_ (some 29) rfl rfl Try.func68 (by kernel_rfl) rfl #[.pointer (some ⟨g, 0, none⟩), .int .i64 5] rfl z5_ ?_; (with_reducible refine (spec_l6Rd_pick.calls kj4 g s0_0 x1001_4 5 t382 t383 w0 _ ?side1 ?side2 A14.out).mono ?_); (case side1 => exact z3_); (case side2 => exact z2_); rintro e w21 ⟨rfl, hi, hb, hk⟩; refine ⟨_, rfl, ?_⟩; have n0_ := Aside0.mk (Kd.R_mono (Kd.R_keep (IsS81.apart (show IsS81 w0 _ g s0_0 x1001_4 from by repeat (first | (with_reducible first | exact HI0.out | apply IsS81.alloc | apply IsS81.drewN | apply IsS81.drew | apply IsS81.set_1) | exact HI0.out)) z20_ (by decide)) hk (fun _ h => h.2)) (fun _ h => h.1)); have n1_ := Aside0.mk (Kd.R_mono (Kd.R_keep (IsS81.apart (show IsS81 w0 _ g s0_0 x1001_4 from by repeat (first | (with_reducible first | exact HI0.out | apply IsS81.alloc | apply IsS81.drewN | apply IsS81.drew | apply IsS81.set_1) | exact HI0.out)) z21_ (by decide)) hk (fun _ h => h.2)) (fun _ h => h.1)); have n2_ := Aside0.mk (Kd.R_mono (Kd.R_keep (IsS81.apart (show IsS81 w0 _ g s0_0 x1001_4 from by repeat (first | (with_reducible first | exact HI0.out | apply IsS81.alloc | apply IsS81.drewN | apply IsS81.drew | apply IsS81.set_1) | exact HI0.out)) (by (with_reducible repeat (first | apply Kd.R_alloc | apply Kd.R_drewN | apply Kd.R_drew)); exact HO378.out) (by decide)) hk (fun _ h => h.2)) (fun _ h => h.1)); have n3_ := Aside0.mk (Kd.R_mono (Kd.R_keep (IsS81.apart (show IsS81 w0 _ g s0_0 x1001_4 from by repeat (first | (with_reducible first | exact HI0.out | apply IsS81.alloc | apply IsS81.drewN | apply IsS81.drew | apply IsS81.set_1) | exact HI0.out)) (by (with_reducible repeat (first | apply Kd.R_alloc | apply Kd.R_drewN | apply Kd.R_drew)); exact HO381.out) (by decide)) hk (fun _ h => h.2)) (fun _ h => h.1)); have n4_ := Aside0.mk (KeepBut.trans z4_ hk (.inl rfl)); have n5_ := Aside0.mk (hb); have n6_ := Aside0.mk (hi); clear HO_4; clear HO_5; clear HO378; clear HO381; clear HK; clear HB; clear HI0; have HO_4 := n0_; have HO_5 := n1_; have HO378 := n2_; have HO381 := n3_; have HK := n4_; have HB := n5_; have HI0 := n6_; clear n0_ n1_ n2_ n3_ n4_ n5_ n6_; (try clear hb); (try clear hb2); (try clear hk); (try clear hi); obtain ⟨Ao22, co22, eo22⟩ := Kd.R_slice HO381.out; subst eo22; have p384 : 0 ≤ (t382 : Int) := of_decide_eq_true z25_; have q384 : t382 < (y379.length : Int) := of_decide_eq_true z25_; obtain ⟨ad384, e384, hx384_0⟩ := Kd.at_int (Kd.R_reads' HO381.out).2.2 t382 p384 q384; cases e384; replace p384 := eq_true p384; replace q384 := eq_true q384))
         go_loopg [7, 9] kj4 (fun kq v7 v9 w' => ∃ (x7_2 : List Int) (x9_2 : Int), v9 = .int .i64 x9_2 ∧ Aside0 (spec_l92Zero.l0 kq t366 t370 x7_2 (rd y379 t382) x9_2 s0_0 t383 = some (r1, r2, r3)) ∧ Aside0 (kq ≤ kj4) ∧ Aside0 (Kd.R (Kd.int .i64) 3 w' w.heap.size (fun k_ => some k_ ≠ (v372 : Value).ownBlock ∧ some k_ ≠ (v7 : Value).ownBlock) (.slice Ao8 t366.length co8) t366) ∧ Aside0 (Kd.R (Kd.int .i64) 3 w' w.heap.size (fun k_ => some k_ ≠ ((.slice Ao8 t366.length co8) : Value).ownBlock ∧ some k_ ≠ (v7 : Value).ownBlock) v372 t370) ∧ Aside0 (Kd.R (Kd.int .i64) 3 w' w.heap.size (fun k_ => some k_ ≠ ((.slice Ao8 t366.length co8) : Value).ownBlock ∧ some k_ ≠ (v372 : Value).ownBlock) v7 x7_2) ∧ Aside0 (IsS81 w0 w' g s0_0 t383) ∧ Aside0 (KeepBut w w' g none) ∧ Aside0 (Below w0.heap.size w0 w'))
         case atStart => exact ⟨(y376), (0), z26_, H', ⟨Nat.le_refl _⟩, ⟨by (with_reducible repeat (first | apply Kd.R_alloc | apply Kd.R_drewN | apply Kd.R_drew)); exact Kd.R_mono HO_4.out (fun _ hk => ⟨hk.1.1, hk.1.2⟩)⟩, ⟨by (with_reducible repeat (first | apply Kd.R_alloc | apply Kd.R_drewN | apply Kd.R_drew)); exact Kd.R_mono HO_5.out (fun _ hk => ⟨hk.1.1, hk.1.2⟩)⟩, ⟨by (with_reducible repeat (first | apply Kd.R_alloc | apply Kd.R_drewN | apply Kd.R_drew)); exact Kd.R_mono HO378.out (fun _ hk => ⟨hk.1.1.2, hk.1.2⟩)⟩, ⟨z3_⟩, ⟨z4_⟩, ⟨z2_⟩⟩
         case round =>
          clear H'
          try clear c1
          try clear p2
          try clear p3
          try clear q3
          try clear hx3
          try clear c6
          try clear p6
          try clear c7
          try clear c10
          try clear c12
          try clear c13
          try clear c15
          try clear c15b0
          try clear c16
          try clear c16b0
          try clear hx384_0
          try clear p2
          try clear p384
          try clear p6
          try clear q384
          obtain ⟨x7_2, x9_2, rfl, HA, HK2, HO_4, HO_5, HO_7, HI0, HK, HB⟩ := hrel
          cases gk with
          | zero => exact absurd HA.out (by simp [spec_l92Zero.l0])
          | succ k2 =>
           have H := HA.out
           clear HA
           simp only [spec_l92Zero.l0] at H
           by_cases c23 : x9_2 < (t370.length : Int)
           · rw [if_pos c23] at H
             have c23b0 : decide (x9_2 < (t370.length : Int)) = true := decide_eq_true c23
             clear c23
             by_cases c24 : 0 ≤ x9_2
             · rw [if_pos c24] at H
               have c24b0 : decide (0 ≤ x9_2) = true := decide_eq_true c24
               clear c24
               by_cases c25 : x7_2.length < 17592186044416
               · rw [if_pos c25] at H
                 have LMc25 := Aside0.mk c25
                 clear c25
                 obtain ⟨y386, hy386⟩ : ∃ y_ : List Int, y_ = (x7_2 ++ [wrap64 ((rd y379 t382) * (rd t370 x9_2))]) := ⟨_, rfl⟩
                 replace H : (spec_l92Zero.l0 k2 t366 t370 y386 (rd y379 t382) (wrap64 (x9_2 + 1)) s0_0 t383) = some (r1, r2, r3) := by first | (rw [hy386]; with_reducible exact H) | (have H2_ := (Option.bind_some _ _).symm.trans H; rw [hy386]; with_reducible exact H2_) | (have H2_ := (Option.bind_some _ _).symm.trans H; with_reducible exact H2_) | with_reducible exact H | (rw [hy386]; exact H) | exact H
                 have Ny386 := Aside0.mk hy386
                 clear hy386
                 have H' := Aside0.mk H
                 clear H
                 obtain ⟨Ao26, co26, eo26⟩ := Kd.R_slice HO_5.out
                 subst eo26
                 have p385 : 0 ≤ (x9_2 : Int) := of_decide_eq_true z25_
                 have q385 : x9_2 < (t370.length : Int) := of_decide_eq_true z25_
                 obtain ⟨ad385, e385, hx385_0⟩ := Kd.at_int (Kd.R_reads' HO_5.out).2.2 x9_2 p385 q385
                 cases e385
                 replace p385 := eq_true p385
                 replace q385 := eq_true q385
                 go_wp2_with (first | ((with_reducible refine gate_builtin (b := .append) (xs := #[.tmp 38, .tmp 45]) rfl ?_); at_builtin; refine Kd.R_append (Kd.int .i64) w.heap.size rfl (.tmp 38) (.tmp 45) 23 3 (.int .i64 0) 8 rfl Try.underlying23 info3 rfl (by decide) (by omega) u7 x7_2 (wrap64 ((rd y379 t382) * (rd t370 x9_2))) [.int .i64 (wrap64 ((rd y379 t382) * (rd t370 x9_2)))] (fun k_ => some k_ ≠ (.slice Ao8 t366.length co8 : Value).ownBlock ∧ some k_ ≠ (.slice (some ad385) t370.length co26 : Value).ownBlock) (fun _ => False) rfl rfl ?aP (fun _ hk => hk.elim) ?aF ?aO (Below.refl _ _) ?aS ?aL ?_; (case aP => exact rfl); (case aF => exact (fun k_ hk => ⟨Kd.fresh' (Kd.R_lt z20_) k_ hk, Kd.fresh' (Kd.R_lt z21_) k_ hk⟩)); (case aO => exact z19_); (case aS => exact (keep_size (w := w) (g := g) (row := none) z4_)); (case aL => have := LMc25.out; omega); intro v387 w27 ho hb hg hat; rw [← Ny386.out] at ho; have n0_ := Aside0.mk (Kd.R_after (ok := (fun k_ => some k_ ≠ (.slice (some ad385) t370.length co26 : Value).ownBlock)) z20_ hg hat); have n1_ := Aside0.mk (Kd.R_after (ok := (fun k_ => some k_ ≠ (.slice Ao8 t366.length co8 : Value).ownBlock)) z21_ hg hat); have n2_ := Aside0.mk (IsS81.grown z3_ hg (IsS81.own_ne HI0.out HO_7.out (by decide))); have n3_ := Aside0.mk (below_weaken z2_ HL.out hb); have n4_ := Aside0.mk (KeepBut.trans z4_ (KeepBut.of_grown hg g) (Kd.R_base2 HO_7.out)); have n5_ := Aside0.mk (ho); clear HO_4; clear HO_5; clear HI0; clear HB; clear HK; clear HO_7; have HO_4 := n0_; have HO_5 := n1_; have HI0 := n2_; have HB := n3_; have HK := n4_; have HO388 := n5_; clear n0_ n1_ n2_ n3_ n4_ n5_; clear ho hb hg hat))
                 go_roundg k2
                 case measure => have := HJ4.out; have := HK2.out; omega
                 case rel => exact ⟨(y386), (wrap64 (x9_2 + 1)), z26_, H', ⟨by have := HJ4.out; have := HK2.out; omega⟩, ⟨z20_⟩, ⟨z21_⟩, ⟨by (with_reducible repeat (first | apply Kd.R_alloc | apply Kd.R_drewN | apply Kd.R_drew)); exact HO388.out⟩, ⟨z3_⟩, ⟨z4_⟩, ⟨z2_⟩⟩
               · rw [if_neg c25] at H
                 exact absurd H (by simp)
             · rw [if_neg c24] at H
               exact absurd H (by simp)
           · rw [if_neg c23] at H
             have c23b0 : decide (x9_2 < (t370.length : Int)) = false := decide_eq_false c23
             clear c23
             simp only [Option.some.injEq, Prod.mk.injEq] at H
             obtain ⟨rfl, rfl, rfl⟩ := H
             obtain ⟨Ao28, co28, eo28⟩ := Kd.R_slice HO_5.out
             subst eo28
             go_wp2
             go_ret2
             exact ⟨_, _, z23_, by (with_reducible repeat (first | apply Kd.R_alloc | apply Kd.R_drewN | apply Kd.R_drew)); exact Kd.R_mono HO_4.out (fun _ hk => hk.2), by (with_reducible repeat (first | apply Kd.R_alloc | apply Kd.R_drewN | apply Kd.R_drew)); exact Kd.R_mono HO_7.out (fun _ hk => hk.1), z3_, z2_, z4_⟩
       · rw [if_neg c16] at H
         exact absurd H (by simp)
     · rw [if_neg c15] at H
       exact absurd H (by simp)
   · replace c13 := Bool.eq_false_iff.mpr c13
     subst c13
     have H1 : ((spec_l91Vector.f kj4 s0_0 x1001_4 t366 4).bind fun bt389 => (some (t366, bt389.1, bt389.2))) = some (r1, r2, r3) := by rw [if_neg (show ¬ (false = true) by decide)] at H; exact H
     clear H
     have H := H1
     clear H1
     replace H := Option.bind_eq_some_iff.mp H
     obtain ⟨⟨t389, t392⟩, A290, H⟩ := H
     replace H : (some (t366, t389, t392)) = some (r1, r2, r3) := H
     have A29 := Aside0.mk A290
     clear A290
     simp only [Option.some.injEq, Prod.mk.injEq] at H
     obtain ⟨rfl, rfl, rfl⟩ := H
     go_wp2_with (first | ((with_reducible refine gate_callee (f := 128) rfl ?_); refine goesL_ (some 52) rfl rfl Try.func128 (by kernel_rfl) rfl #[.pointer (some ⟨g, 0, none⟩), .slice Ao8 t366.length co8, .int .i64 4] rfl z5_ ?_; (with_reducible refine (spec_l91Vector.calls kj4 g s0_0 x1001_4 _ _ t366 4 t389 t392 w0 _ ?side1 ?side2 ?side3 ?side4 ?side5 A29.out).mono ?_); (case side1 => exact z3_); (case side2 => exact z2_); (case side3 => repeat (first | exact (Kd.R_reads' HO_4.out).2.2 | (with_reducible refine Kd.C_alloc ?_ _) | (with_reducible refine Kd.C_drewN ?_ _) | (with_reducible refine Kd.C_drew ?_))); (case side4 => exact (Kd.R_reads' HO_4.out).2.1); (case side5 => exact far_slice (IsS81.own_ne HI0.out HO_4.out (by decide))); rintro e w30 ⟨v390, rfl, ho0, hi, hb, hk⟩; refine ⟨_, rfl, ?_⟩; have n0_ := Aside0.mk (Kd.R_mono (Kd.R_told (Kd.R_oldK (IsS81.apart (show IsS81 w0 _ g s0_0 x1001_4 from by repeat (first | (with_reducible first | exact HI0.out | apply IsS81.alloc | apply IsS81.drewN | apply IsS81.drew | apply IsS81.set_1) | exact HI0.out)) z20_ (by decide)) hk) (Kd.R_base ho0)) (fun _ h_ => h_.1)); have n1_ := Aside0.mk (Kd.R_mono (Kd.R_told (Kd.R_oldK (IsS81.apart (show IsS81 w0 _ g s0_0 x1001_4 from by repeat (first | (with_reducible first | exact HI0.out | apply IsS81.alloc | apply IsS81.drewN | apply IsS81.drew | apply IsS81.set_1) | exact HI0.out)) z21_ (by decide)) hk) (Kd.R_base ho0)) (fun _ h_ => h_.1)); have n2_ := Aside0.mk (Kd.R_lower (Kd.R_new' (Kd.R_new' ho0 (Kd.R_lt z20_)) (Kd.R_lt z21_)) (keep_size (w := w) (g := g) (row := none) z4_)); have n3_ := Aside0.mk (KeepBut.trans z4_ hk (.inl rfl)); have n4_ := Aside0.mk (hb); have n5_ := Aside0.mk (hi); clear HO_4; clear HO_5; clear HK; clear HB; clear HI0; have HO_4 := n0_; have HO_5 := n1_; have HO391 := n2_; have HK := n3_; have HB := n4_; have HI0 := n5_; clear n0_ n1_ n2_ n3_ n4_ n5_; (try clear hb); (try clear hb2); (try clear hk); (try clear hi); (try clear ho0)))
     go_ret2
     exact ⟨_, _, z23_, by (with_reducible repeat (first | apply Kd.R_alloc | apply Kd.R_drewN | apply Kd.R_drew)); exact Kd.R_mono HO_4.out (fun _ hk => hk.2), by (with_reducible repeat (first | apply Kd.R_alloc | apply Kd.R_drewN | apply Kd.R_drew)); exact Kd.R_mono HO391.out (fun _ hk => hk.1.2), z3_, z2_, z4_⟩

/-! ### spec_DrawZeroPlain: function 50 -/
def spec_DrawZeroPlain.f (k : Nat) (l0 : List Int) : Option (List Int × List Int) := (spec_l6Open.f l0).bind fun bt393 => ((spec_l92Zero.f k bt393.1 bt393.2).bind fun bt396 => (some (bt396.1, bt396.2.1)))
theorem spec_DrawZeroPlain.mono : ∀ a0 k, LeO (spec_DrawZeroPlain.f k a0) (spec_DrawZeroPlain.f (k + 1) a0) := by
 intro a0 k
 unfold spec_DrawZeroPlain.f
 repeat' first
  | (with_reducible exact spec_l92Zero.mono _ _ _)
  | (with_reducible exact LeO.refl _)
  | (with_reducible exact LeO.none _)
  | (with_reducible refine LeO.ite ?_ ?_)
  | (with_reducible refine LeO.bind ?_ (fun _ => ?_))
  | exact spec_l92Zero.mono _ _ _
  | exact LeO.none _
  | refine LeO.ite ?_ ?_
  | refine LeO.bind ?_ (fun _ => ?_)
theorem spec_DrawZeroPlain.calls (k : Nat) (A0 : Option Addr) (c0 : Nat) (l0 : List Int) (r1 : List Int) (r2 : List Int) (w : World) (hr0 : Kd.C (Kd.int .u8) w A0 l0.length l0) (hc0 : l0.length ≤ c0) (h : spec_DrawZeroPlain.f k l0 = some (r1, r2)) :
 Calls Try.prog 50 #[.slice A0 l0.length c0] w fun e w' => ∃ v0_ v1_ : Value, e = .returned (.tuple #[v0_, v1_]) ∧ Kd.R (Kd.int .i64) 3 w' w.heap.size (fun k_ => some k_ ≠ (v1_ : Value).ownBlock) v0_ r1 ∧ Kd.R (Kd.int .i64) 3 w' w.heap.size (fun k_ => some k_ ≠ (v0_ : Value).ownBlock) v1_ r2 ∧ Below w.heap.size w w' := by
 have HR0 := Aside0.mk hr0
 have HC0 := Aside0.mk hc0
 clear hr0 hc0
 have HB := Aside0.mk (Below.refl w.heap.size w)
 have H : ((spec_l6Open.f l0).bind fun bt393 => ((spec_l92Zero.f k bt393.1 bt393.2).bind fun bt396 => (some (bt396.1, bt396.2.1)))) = some (r1, r2) := h
 clear h
 replace H := Option.bind_eq_some_iff.mp H
 obtain ⟨⟨t393, t394⟩, A20, H⟩ := H
 replace H : ((spec_l92Zero.f k t393 t394).bind fun bt396 => (some (bt396.1, bt396.2.1))) = some (r1, r2) := H
 have A2 := Aside0.mk A20
 clear A20
 replace H := Option.bind_eq_some_iff.mp H
 obtain ⟨⟨t396, t399, t402⟩, A30, H⟩ := H
 replace H : (some (t396, t399)) = some (r1, r2) := H
 have A3 := Aside0.mk A30
 clear A30
 simp only [Option.some.injEq, Prod.mk.injEq] at H
 obtain ⟨rfl, rfl⟩ := H
 go_enter Try.func50, Try.ntmps50
 go_wp2_with (first | ((with_reducible refine gate_callee (f := 56) rfl ?_); refine goesL_ (some 5) rfl rfl Try.func56 (by kernel_rfl) rfl #[.slice A0 l0.length c0] rfl z5_ ?_; (with_reducible refine (spec_l6Open.calls _ _ l0 t393 t394 w _ ?side1 ?side2 ?side3 A2.out).mono ?_); (case side1 => exact z7_); (case side2 => exact HR0.out); (case side3 => exact HC0.out); rintro e w4 ⟨g395, rfl, hi, hb, hb2⟩; refine ⟨_, rfl, ?_⟩; have n0_ := Aside0.mk (hb); have n1_ := Aside0.mk (hi); clear HB; have HB := n0_; have HI395 := n1_; clear n0_ n1_; (try clear hb); (try clear hb2); (try clear hk); (try clear hi)) | ((with_reducible refine gate_callee (f := 102) rfl ?_); refine goesL_ (some 6) rfl rfl Try.func102 (by kernel_rfl) rfl #[.pointer (some ⟨g395, 0, none⟩)] rfl z5_ ?_; (with_reducible refine (spec_l92Zero.calls k g395 t393 t394 t396 t399 t402 w _ ?side1 ?side2 A3.out).mono ?_); (case side1 => repeat (first | (with_reducible first | exact HI395.out | apply IsS81.alloc | apply IsS81.drewN | apply IsS81.drew | apply IsS81.set_1) | exact HI395.out)); (case side2 => exact z1_); rintro e w5 ⟨v397, v400, rfl, ho0, ho1, hi, hb, hk⟩; refine ⟨_, rfl, ?_⟩; have n0_ := Aside0.mk (Kd.R_lower ho0 (below_size z1_)); have n1_ := Aside0.mk (Kd.R_lower ho1 (below_size z1_)); have n2_ := Aside0.mk (hb); have n3_ := Aside0.mk (hi); clear HB; clear HI395; have HO398 := n0_; have HO401 := n1_; have HB := n2_; have HI395 := n3_; clear n0_ n1_ n2_ n3_; (try clear hb); (try clear hb2); (try clear hk); (try clear hi); (try clear ho0); (try clear ho1)))
 go_ret2
 exact ⟨_, _, z23_, by (with_reducible repeat (first | apply Kd.R_alloc | apply Kd.R_drewN | apply Kd.R_drew)); exact HO398.out, by (with_reducible repeat (first | apply Kd.R_alloc | apply Kd.R_drewN | apply Kd.R_drew)); exact HO401.out, z1_⟩

/-! ### spec_l4Value: function 124 -/
def spec_l4Value.l0 : Nat → List Int → List Int → Int → Int → Option (Int)
 | 0, _, _, _, _ => none
 | k + 1, x0, x1, x5, x6 => if x6 < (x0.length : Int) then (if 0 ≤ x6 then (if x6 < (x1.length : Int) then (spec_l4Value.l0 k x0 x1 (wrap64 (x5 + (wrap64 ((wrap64 ((rd x0 x6) * (rd x1 x6))) * (rd x1 x6))))) (wrap64 (x6 + 1))) else (none)) else (none)) else (some x5)
def spec_l4Value.f (k : Nat) (l0 : List Int) (l1 : List Int) : Option (Int) := spec_l4Value.l0 k l0 l1 0 0
theorem spec_l4Value.mono_l : ∀ k, (∀ y0 y1 y2 y3, LeO (spec_l4Value.l0 k y0 y1 y2 y3) (spec_l4Value.l0 (k + 1) y0 y1 y2 y3))
 | 0 => fun _ _ _ _ r h => by simp [spec_l4Value.l0] at h
 | k + 1 => by
  have ih0 := spec_l4Value.mono_l k
  · intro y0 y1 y2 y3
    unfold spec_l4Value.l0
    repeat' first
    | (with_reducible exact ih0 _ _ _ _)
    | (with_reducible exact LeO.refl _)
    | (with_reducible exact LeO.none _)
    | (with_reducible refine LeO.ite ?_ ?_)
    | (with_reducible refine LeO.bind ?_ (fun _ => ?_))
    | exact ih0 _ _ _ _
    | exact LeO.none _
    | refine LeO.ite ?_ ?_
    | refine LeO.bind ?_ (fun _ => ?_)
theorem spec_l4Value.mono : ∀ a0 a1 k, LeO (spec_l4Value.f k a0 a1) (spec_l4Value.f (k + 1) a0 a1) := by
 intro a0 a1 k
 have ih0 := spec_l4Value.mono_l k
 unfold spec_l4Value.f
 repeat' first
  | (with_reducible exact ih0 _ _ _ _)
  | (with_reducible exact LeO.refl _)
  | (with_reducible exact LeO.none _)
  | (with_reducible refine LeO.ite ?_ ?_)
  | (with_reducible refine LeO.bind ?_ (fun _ => ?_))
  | exact ih0 _ _ _ _
  | exact LeO.none _
  | refine LeO.ite ?_ ?_
  | refine LeO.bind ?_ (fun _ => ?_)
theorem spec_l4Value.calls (k : Nat) (A0 : Option Addr) (c0 : Nat) (l0 : List Int) (A1 : Option Addr) (c1 : Nat) (l1 : List Int) (r : Int) (w : World) (hr0 : Kd.C (Kd.int .i64) w A0 l0.length l0) (hc0 : l0.length ≤ c0) (hr1 : Kd.C (Kd.int .i64) w A1 l1.length l1) (hc1 : l1.length ≤ c1) (h : spec_l4Value.f k l0 l1 = some r) :
 Calls Try.prog 124 #[.slice A0 l0.length c0, .slice A1 l1.length c1] w fun e w' => e = .returned (.int .i64 r) ∧ Drawn0 w w' := by
 have HR0 := Aside0.mk hr0
 have HC0 := Aside0.mk hc0
 clear hr0 hc0
 have HR1 := Aside0.mk hr1
 have HC1 := Aside0.mk hc1
 clear hr1 hc1
 have H : (spec_l4Value.l0 k l0 l1 0 0) = some r := h
 clear h
 have H' := Aside0.mk H
 clear H
 go_enter Try.func124, Try.ntmps124
 go_wp2
 repeat (go_quiet (fail); try go_wp2)
 go_loopg [5, 6] k (fun kq v5 v6 w' => ∃ (x5_1 : Int) (x6_1 : Int), v5 = .int .i64 x5_1 ∧ v6 = .int .i64 x6_1 ∧ Aside0 (spec_l4Value.l0 kq l0 l1 x5_1 x6_1 = some r) ∧ Aside0 (kq ≤ k) ∧ Drawn0 w w')
 case atStart => exact ⟨(0), (0), z26_, z26_, H', ⟨Nat.le_refl _⟩, z24_⟩
 case round =>
  clear H'
  try clear c1
  try clear p2
  obtain ⟨x5_1, x6_1, rfl, rfl, HA, HK1, ⟨m1, rfl⟩⟩ := hrel
  cases gk with
  | zero => exact absurd HA.out (by simp [spec_l4Value.l0])
  | succ k1 =>
   have H := HA.out
   clear HA
   simp only [spec_l4Value.l0] at H
   by_cases c3 : x6_1 < (l0.length : Int)
   · rw [if_pos c3] at H
     have c3b0 : decide (x6_1 < (l0.length : Int)) = true := decide_eq_true c3
     clear c3
     by_cases c4 : 0 ≤ x6_1
     · rw [if_pos c4] at H
       have c4b0 : decide (0 ≤ x6_1) = true := decide_eq_true c4
       clear c4
       by_cases c5 : x6_1 < (l1.length : Int)
       · rw [if_pos c5] at H
         have c5b0 : decide (x6_1 < (l1.length : Int)) = true := decide_eq_true c5
         clear c5
         have H' := Aside0.mk H
         clear H
         have p403 : 0 ≤ (x6_1 : Int) := of_decide_eq_true z25_
         have q403 : x6_1 < (l0.length : Int) := of_decide_eq_true z25_
         obtain ⟨ad403, e403, hx403_0⟩ := Kd.at_int HR0.out x6_1 p403 q403
         cases e403
         replace p403 := eq_true p403
         replace q403 := eq_true q403
         have p404 : 0 ≤ (x6_1 : Int) := of_decide_eq_true z25_
         have q404 : x6_1 < (l1.length : Int) := of_decide_eq_true z25_
         obtain ⟨ad404, e404, hx404_0⟩ := Kd.at_int HR1.out x6_1 p404 q404
         cases e404
         replace p404 := eq_true p404
         replace q404 := eq_true q404
         have p405 : 0 ≤ (x6_1 : Int) := of_decide_eq_true z25_
         have q405 : x6_1 < (l1.length : Int) := of_decide_eq_true z25_
         obtain ⟨ad405, e405, hx405_0⟩ := Kd.at_int HR1.out x6_1 p405 q405
         obtain rfl : ad404 = ad405 := (by injection e405)
         replace p405 := eq_true p405
         replace q405 := eq_true q405
         go_wp2
         repeat (go_quiet (fail); try go_wp2)
         go_roundg k1
         case measure => have := HK1.out; omega
         case rel => exact ⟨(wrap64 (x5_1 + (wrap64 ((wrap64 ((rd l0 x6_1) * (rd l1 x6_1))) * (rd l1 x6_1))))), (wrap64 (x6_1 + 1)), z26_, z26_, H', ⟨by have := HK1.out; omega⟩, z24_⟩
       · rw [if_neg c5] at H
         exact absurd H (by simp)
     · rw [if_neg c4] at H
       exact absurd H (by simp)
   · rw [if_neg c3] at H
     have c3b0 : decide (x6_1 < (l0.length : Int)) = false := decide_eq_false c3
     clear c3
     obtain rfl := Option.some.inj H
     go_wp2
     repeat (go_quiet (fail); try go_wp2)
     go_ret
     exact ⟨z26_, z24_⟩

/-! ### spec_l4Vector: function 129 -/
def spec_l4Vector.l0 : Nat → List Int → List Int → Int → Int → Option (Bool)
 | 0, _, _, _, _ => none
 | k + 1, x0, x1, x2, x7 => if x7 < (x1.length : Int) then (if 0 ≤ x7 then ((spec_l6In.f (rd x1 x7) (wrap64 (-x2)) x2).bind fun t407 => (if t407 = true then (spec_l4Vector.l0 k x0 x1 x2 (wrap64 (x7 + 1))) else (some false))) else (none)) else ((spec_FormValid.f k x0).bind fun t408 => (if t408 = true then (some ((x1.length : Int) == (x0.length : Int))) else (some false)))
def spec_l4Vector.f (k : Nat) (l0 : List Int) (l1 : List Int) (a2 : Int) : Option (Bool) := spec_l4Vector.l0 k l0 l1 a2 0
theorem spec_l4Vector.mono_l : ∀ k, (∀ y0 y1 y2 y3, LeO (spec_l4Vector.l0 k y0 y1 y2 y3) (spec_l4Vector.l0 (k + 1) y0 y1 y2 y3))
 | 0 => fun _ _ _ _ r h => by simp [spec_l4Vector.l0] at h
 | k + 1 => by
  have ih0 := spec_l4Vector.mono_l k
  · intro y0 y1 y2 y3
    unfold spec_l4Vector.l0
    repeat' first
    | (with_reducible exact ih0 _ _ _ _)
    | (with_reducible exact spec_FormValid.mono _ _)
    | (with_reducible exact LeO.refl _)
    | (with_reducible exact LeO.none _)
    | (with_reducible refine LeO.ite ?_ ?_)
    | (with_reducible refine LeO.bind ?_ (fun _ => ?_))
    | exact ih0 _ _ _ _
    | exact spec_FormValid.mono _ _
    | exact LeO.none _
    | refine LeO.ite ?_ ?_
    | refine LeO.bind ?_ (fun _ => ?_)
theorem spec_l4Vector.mono : ∀ a0 a1 a2 k, LeO (spec_l4Vector.f k a0 a1 a2) (spec_l4Vector.f (k + 1) a0 a1 a2) := by
 intro a0 a1 a2 k
 have ih0 := spec_l4Vector.mono_l k
 unfold spec_l4Vector.f
 repeat' first
  | (with_reducible exact ih0 _ _ _ _)
  | (with_reducible exact spec_FormValid.mono _ _)
  | (with_reducible exact LeO.refl _)
  | (with_reducible exact LeO.none _)
  | (with_reducible refine LeO.ite ?_ ?_)
  | (with_reducible refine LeO.bind ?_ (fun _ => ?_))
  | exact ih0 _ _ _ _
  | exact spec_FormValid.mono _ _
  | exact LeO.none _
  | refine LeO.ite ?_ ?_
  | refine LeO.bind ?_ (fun _ => ?_)
theorem spec_l4Vector.calls (k : Nat) (A0 : Option Addr) (c0 : Nat) (l0 : List Int) (A1 : Option Addr) (c1 : Nat) (l1 : List Int) (a2 : Int) (r : Bool) (w : World) (hr0 : Kd.C (Kd.int .i64) w A0 l0.length l0) (hc0 : l0.length ≤ c0) (hr1 : Kd.C (Kd.int .i64) w A1 l1.length l1) (hc1 : l1.length ≤ c1) (h : spec_l4Vector.f k l0 l1 a2 = some r) :
 Calls Try.prog 129 #[.slice A0 l0.length c0, .slice A1 l1.length c1, .int .i64 a2] w fun e w' => e = .returned (.bool r) ∧ Drawn0 w w' := by
 have HR0 := Aside0.mk hr0
 have HC0 := Aside0.mk hc0
 clear hr0 hc0
 have HR1 := Aside0.mk hr1
 have HC1 := Aside0.mk hc1
 clear hr1 hc1
 have H : (spec_l4Vector.l0 k l0 l1 a2 0) = some r := h
 clear h
 have H' := Aside0.mk H
 clear H
 go_enter Try.func129, Try.ntmps129
 go_wp2
 go_loopg [7] k (fun kq v7 w' => ∃ (x7_1 : Int), v7 = .int .i64 x7_1 ∧ Aside0 (spec_l4Vector.l0 kq l0 l1 a2 x7_1 = some r) ∧ Aside0 (kq ≤ k) ∧ Drawn0 w w')
 case atStart => exact ⟨(0), z26_, H', ⟨Nat.le_refl _⟩, z24_⟩
 case round =>
  clear H'
  try clear c1
  try clear p2
  obtain ⟨x7_1, rfl, HA, HK1, ⟨m1, rfl⟩⟩ := hrel
  cases gk with
  | zero => exact absurd HA.out (by simp [spec_l4Vector.l0])
  | succ k1 =>
   have H := HA.out
   clear HA
   simp only [spec_l4Vector.l0] at H
   by_cases c4 : x7_1 < (l1.length : Int)
   · rw [if_pos c4] at H
     have c4b0 : decide (x7_1 < (l1.length : Int)) = true := decide_eq_true c4
     clear c4
     by_cases c5 : 0 ≤ x7_1
     · rw [if_pos c5] at H
       have c5b0 : decide (0 ≤ x7_1) = true := decide_eq_true c5
       clear c5
       replace H := Option.bind_eq_some_iff.mp H
       obtain ⟨t407, A60, H⟩ := H
       replace H : (if t407 = true then (spec_l4Vector.l0 k1 l0 l1 a2 (wrap64 (x7_1 + 1))) else (some false)) = some r := H
       have A6 := Aside0.mk A60
       clear A60
       by_cases c7 : t407 = true
       · subst c7
         have H1 : (spec_l4Vector.l0 k1 l0 l1 a2 (wrap64 (x7_1 + 1))) = some r := by rw [if_pos rfl] at H; exact H
         clear H
         have H := H1
         clear H1
         have H' := Aside0.mk H
         clear H
         have p406 : 0 ≤ (x7_1 : Int) := of_decide_eq_true z25_
         have q406 : x7_1 < (l1.length : Int) := of_decide_eq_true z25_
         obtain ⟨ad406, e406, hx406_0⟩ := Kd.at_int HR1.out x7_1 p406 q406
         cases e406
         replace p406 := eq_true p406
         replace q406 := eq_true q406
         go_wp2_with (first | ((with_reducible refine gate_callee (f := 94) rfl ?_); refine goesL_ (some 21) rfl rfl Try.func94 (by kernel_rfl) rfl #[.int .i64 (rd l1 x7_1), .int .i64 (wrap64 (-a2)), .int .i64 a2] rfl z5_ ?_; (with_reducible refine (spec_l6In.calls (rd l1 x7_1) (wrap64 (-a2)) a2 true _ A6.out).mono ?_); rintro e w' ⟨rfl, ⟨nd, rfl⟩⟩; refine ⟨_, rfl, ?_⟩))
         go_roundg k1
         case measure => have := HK1.out; omega
         case rel => exact ⟨(wrap64 (x7_1 + 1)), z26_, H', ⟨by have := HK1.out; omega⟩, z24_⟩
       · replace c7 := Bool.eq_false_iff.mpr c7
         subst c7
         have H1 : (some false) = some r := by rw [if_neg (show ¬ (false = true) by decide)] at H; exact H
         clear H
         have H := H1
         clear H1
         obtain rfl := Option.some.inj H
         have p406 : 0 ≤ (x7_1 : Int) := of_decide_eq_true z25_
         have q406 : x7_1 < (l1.length : Int) := of_decide_eq_true z25_
         obtain ⟨ad406, e406, hx406_0⟩ := Kd.at_int HR1.out x7_1 p406 q406
         cases e406
         replace p406 := eq_true p406
         replace q406 := eq_true q406
         go_wp2_with (first | ((with_reducible refine gate_callee (f := 94) rfl ?_); refine goesL_ (some 21) rfl rfl Try.func94 (by kernel_rfl) rfl #[.int .i64 (rd l1 x7_1), .int .i64 (wrap64 (-a2)), .int .i64 a2] rfl z5_ ?_; (with_reducible refine (spec_l6In.calls (rd l1 x7_1) (wrap64 (-a2)) a2 false _ A6.out).mono ?_); rintro e w' ⟨rfl, ⟨nd, rfl⟩⟩; refine ⟨_, rfl, ?_⟩))
         go_ret
         exact ⟨z26_, z24_⟩
     · rw [if_neg c5] at H
       exact absurd H (by simp)
   · rw [if_neg c4] at H
     have c4b0 : decide (x7_1 < (l1.length : Int)) = false := decide_eq_false c4
     clear c4
     replace H := Option.bind_eq_some_iff.mp H
     obtain ⟨t408, A80, H⟩ := H
     replace H : (if t408 = true then (some ((l1.length : Int) == (l0.length : Int))) else (some false)) = some r := H
     have A8 := Aside0.mk A80
     clear A80
     by_cases c9 : t408 = true
     · subst c9
       have H1 : (some ((l1.length : Int) == (l0.length : Int))) = some r := by rw [if_pos rfl] at H; exact H
       clear H
       have H := H1
       clear H1
       obtain rfl := Option.some.inj H
       go_wp2_with (first | ((with_reducible refine gate_callee (f := 73) rfl ?_); refine goesL_ (some 24) rfl rfl Try.func73 (by kernel_rfl) rfl #[.slice A0 l0.length c0] rfl z5_ ?_; (with_reducible refine (spec_FormValid.calls k1 _ _ l0 true _ ?side1 ?side2 A8.out).mono ?_); (case side1 => repeat (first | exact HR0.out | (with_reducible refine Kd.C_alloc ?_ _) | (with_reducible refine Kd.C_drewN ?_ _) | (with_reducible refine Kd.C_drew ?_))); (case side2 => exact HC0.out); rintro e w' ⟨rfl, ⟨nd, rfl⟩⟩; refine ⟨_, rfl, ?_⟩))
       go_ret
       exact ⟨z26_, z24_⟩
     · replace c9 := Bool.eq_false_iff.mpr c9
       subst c9
       have H1 : (some false) = some r := by rw [if_neg (show ¬ (false = true) by decide)] at H; exact H
       clear H
       have H := H1
       clear H1
       obtain rfl := Option.some.inj H
       go_wp2_with (first | ((with_reducible refine gate_callee (f := 73) rfl ?_); refine goesL_ (some 24) rfl rfl Try.func73 (by kernel_rfl) rfl #[.slice A0 l0.length c0] rfl z5_ ?_; (with_reducible refine (spec_FormValid.calls k1 _ _ l0 false _ ?side1 ?side2 A8.out).mono ?_); (case side1 => repeat (first | exact HR0.out | (with_reducible refine Kd.C_alloc ?_ _) | (with_reducible refine Kd.C_drewN ?_ _) | (with_reducible refine Kd.C_drew ?_))); (case side2 => exact HC0.out); rintro e w' ⟨rfl, ⟨nd, rfl⟩⟩; refine ⟨_, rfl, ?_⟩))
       go_ret
       exact ⟨z26_, z24_⟩

end Go.Proofs.Ytdeahlommlgceaa.PFnPlain

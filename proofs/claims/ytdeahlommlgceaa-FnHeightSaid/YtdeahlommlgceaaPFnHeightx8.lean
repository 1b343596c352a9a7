-- Written by a program of this repo (wip/gen/gen.py) over the kit's print.
-- (slim)
import Derived.Test.YtdeahlommlgceaaPFnHeightx0
import Derived.Test.YtdeahlommlgceaaPFnHeightx1
import Derived.Test.YtdeahlommlgceaaPFnHeightx2
import Derived.Test.YtdeahlommlgceaaPFnHeightx3
import Derived.Test.YtdeahlommlgceaaPFnHeightx6
import Derived.Test.YtdeahlommlgceaaPFnHeightx7
namespace Go.Proofs.Ytdeahlommlgceaa.PFnHeight
open Go.RowKit Go.Proofs.YtdeahlommlgceaaW.PrintWords Go.Proofs.YtdeahlommlgceaaW.PrintLast Go.Proofs.YtdeahlommlgceaaW.PrintMore
attribute [local go_sem] max2_int min2_int max_two min_two max_three min_three max_four min_four   -- for this text's walks alone
set_option linter.unusedVariables false
set_option maxHeartbeats 8000000
set_option maxRecDepth 100000
set_option linter.unusedSimpArgs false

/-! ### spec_ZeroFind: function 127 -/
def spec_ZeroFind.f (k : Nat) (l0 : List Int) : Option (List Int × Bool) := (spec_FormValid.f k l0).bind fun t296 => (if t296 = true then (if (l0.length : Int) = 2 then (if 0 < (l0.length : Int) then ((spec_l1Core.f k (rd l0 0)).bind fun bt301 => (if 1 < (l0.length : Int) then ((spec_l1Core.f k (rd l0 1)).bind fun bt304 => (if (wrap64 (bt301.1 + bt304.1)) = 0 then ((spec_l5Plain.f k (([bt304.2, bt301.2] : List Int))).bind fun t309 => (some (t309, true))) else (some ((([] : List Int)), false)))) else (none))) else (none)) else (if (l0.length : Int) = 3 then ((spec_l5Three.f k l0).bind fun bt315 => (some (bt315.1, bt315.2))) else (if (l0.length : Int) = 4 then ((spec_l5Four.f k l0).bind fun bt319 => (some (bt319.1, bt319.2))) else (some ((([] : List Int)), false))))) else (some ((([] : List Int)), false)))
theorem spec_ZeroFind.mono : ∀ a0 k, LeO (spec_ZeroFind.f k a0) (spec_ZeroFind.f (k + 1) a0) := by
 intro a0 k
 unfold spec_ZeroFind.f
 repeat' first
  | (with_reducible exact spec_FormValid.mono _ _)
  | (with_reducible exact spec_l1Core.mono _ _)
  | (with_reducible exact spec_l5Four.mono _ _)
  | (with_reducible exact spec_l5Plain.mono _ _)
  | (with_reducible exact spec_l5Three.mono _ _)
  | (with_reducible exact LeO.refl _)
  | (with_reducible exact LeO.none _)
  | (with_reducible refine LeO.ite ?_ ?_)
  | (with_reducible refine LeO.bind ?_ (fun _ => ?_))
  | exact spec_FormValid.mono _ _
  | exact spec_l1Core.mono _ _
  | exact spec_l5Four.mono _ _
  | exact spec_l5Plain.mono _ _
  | exact spec_l5Three.mono _ _
  | exact LeO.none _
  | refine LeO.ite ?_ ?_
  | refine LeO.bind ?_ (fun _ => ?_)
theorem spec_ZeroFind.calls (k : Nat) (A0 : Option Addr) (c0 : Nat) (l0 : List Int) (r1 : List Int) (r2 : Bool) (w : World) (hr0 : Kd.C (Kd.int .i64) w A0 l0.length l0) (hc0 : l0.length ≤ c0) (h : spec_ZeroFind.f k l0 = some (r1, r2)) :
 Calls Try.prog 127 #[.slice A0 l0.length c0] w fun e w' => ∃ v0_ : Value, e = .returned (.tuple #[v0_, .bool r2]) ∧ Kd.R (Kd.int .i64) 3 w' w.heap.size (fun _ => True) v0_ r1 ∧ Below w.heap.size w w' := by
 have HR0 := Aside0.mk hr0
 have HC0 := Aside0.mk hc0
 clear hr0 hc0
 have HB := Aside0.mk (Below.refl w.heap.size w)
 have H : ((spec_FormValid.f k l0).bind fun t296 => (if t296 = true then (if (l0.length : Int) = 2 then (if 0 < (l0.length : Int) then ((spec_l1Core.f k (rd l0 0)).bind fun bt301 => (if 1 < (l0.length : Int) then ((spec_l1Core.f k (rd l0 1)).bind fun bt304 => (if (wrap64 (bt301.1 + bt304.1)) = 0 then ((spec_l5Plain.f k (([bt304.2, bt301.2] : List Int))).bind fun t309 => (some (t309, true))) else (some ((([] : List Int)), false)))) else (none))) else (none)) else (if (l0.length : Int) = 3 then ((spec_l5Three.f k l0).bind fun bt315 => (some (bt315.1, bt315.2))) else (if (l0.length : Int) = 4 then ((spec_l5Four.f k l0).bind fun bt319 => (some (bt319.1, bt319.2))) else (some ((([] : List Int)), false))))) else (some ((([] : List Int)), false)))) = some (r1, r2) := h
 clear h
 replace H := Option.bind_eq_some_iff.mp H
 obtain ⟨t296, A20, H⟩ := H
 replace H : (if t296 = true then (if (l0.length : Int) = 2 then (if 0 < (l0.length : Int) then ((spec_l1Core.f k (rd l0 0)).bind fun bt301 => (if 1 < (l0.length : Int) then ((spec_l1Core.f k (rd l0 1)).bind fun bt304 => (if (wrap64 (bt301.1 + bt304.1)) = 0 then ((spec_l5Plain.f k (([bt304.2, bt301.2] : List Int))).bind fun t309 => (some (t309, true))) else (some ((([] : List Int)), false)))) else (none))) else (none)) else (if (l0.length : Int) = 3 then ((spec_l5Three.f k l0).bind fun bt315 => (some (bt315.1, bt315.2))) else (if (l0.length : Int) = 4 then ((spec_l5Four.f k l0).bind fun bt319 => (some (bt319.1, bt319.2))) else (some ((([] : List Int)), false))))) else (some ((([] : List Int)), false))) = some (r1, r2) := H
 have A2 := Aside0.mk A20
 clear A20
 by_cases c3 : t296 = true
 · subst c3
   have H1 : (if (l0.length : Int) = 2 then (if 0 < (l0.length : Int) then ((spec_l1Core.f k (rd l0 0)).bind fun bt301 => (if 1 < (l0.length : Int) then ((spec_l1Core.f k (rd l0 1)).bind fun bt304 => (if (wrap64 (bt301.1 + bt304.1)) = 0 then ((spec_l5Plain.f k (([bt304.2, bt301.2] : List Int))).bind fun t309 => (some (t309, true))) else (some ((([] : List Int)), false)))) else (none))) else (none)) else (if (l0.length : Int) = 3 then ((spec_l5Three.f k l0).bind fun bt315 => (some (bt315.1, bt315.2))) else (if (l0.length : Int) = 4 then ((spec_l5Four.f k l0).bind fun bt319 => (some (bt319.1, bt319.2))) else (some ((([] : List Int)), false))))) = some (r1, r2) := by rw [if_pos rfl] at H; exact H
   clear H
   have H := H1
   clear H1
   by_cases c4 : (l0.length : Int) = 2
   · rw [if_pos c4] at H
     have c4b0 : ((l0.length : Int) == 2) = true := beq_iff_eq.mpr c4
     have c4b1 : ((l0.length : Int) != 2) = false := bne_eq_false_iff_eq.mpr c4
     clear c4
     by_cases c5 : 0 < (l0.length : Int)
     · rw [if_pos c5] at H
       have c5b0 : decide (0 < (l0.length : Int)) = true := decide_eq_true c5
       have c5b1 : decide (0 < l0.length) = true := decide_eq_true (by omega)
       clear c5
       replace H := Option.bind_eq_some_iff.mp H
       obtain ⟨⟨t301, t302⟩, A60, H⟩ := H
       replace H : (if 1 < (l0.length : Int) then ((spec_l1Core.f k (rd l0 1)).bind fun bt304 => (if (wrap64 (t301 + bt304.1)) = 0 then ((spec_l5Plain.f k (([bt304.2, t302] : List Int))).bind fun t309 => (some (t309, true))) else (some ((([] : List Int)), false)))) else (none)) = some (r1, r2) := H
       have A6 := Aside0.mk A60
       clear A60
       by_cases c7 : 1 < (l0.length : Int)
       · rw [if_pos c7] at H
         have c7b0 : decide (1 < (l0.length : Int)) = true := decide_eq_true c7
         have c7b1 : decide (1 < l0.length) = true := decide_eq_true (by omega)
         clear c7
         replace H := Option.bind_eq_some_iff.mp H
         obtain ⟨⟨t304, t305⟩, A80, H⟩ := H
         replace H : (if (wrap64 (t301 + t304)) = 0 then ((spec_l5Plain.f k (([t305, t302] : List Int))).bind fun t309 => (some (t309, true))) else (some ((([] : List Int)), false))) = some (r1, r2) := H
         have A8 := Aside0.mk A80
         clear A80
         by_cases c9 : (wrap64 (t301 + t304)) = 0
         · rw [if_pos c9] at H
           have c9b0 : ((wrap64 (t301 + t304)) == 0) = true := beq_iff_eq.mpr c9
           have c9b1 : ((wrap64 (t301 + t304)) != 0) = false := bne_eq_false_iff_eq.mpr c9
           clear c9
           obtain ⟨y306, hy306⟩ : ∃ y_ : List Int, y_ = (([t305, t302] : List Int)) := ⟨_, rfl⟩
           replace H : ((spec_l5Plain.f k y306).bind fun t309 => (some (t309, true))) = some (r1, r2) := by first | (rw [hy306]; with_reducible exact H) | (have H2_ := (Option.bind_some _ _).symm.trans H; rw [hy306]; with_reducible exact H2_) | (have H2_ := (Option.bind_some _ _).symm.trans H; with_reducible exact H2_) | with_reducible exact H | (rw [hy306]; exact H) | exact H
           have Ny306 := Aside0.mk hy306
           clear hy306
           replace H := Option.bind_eq_some_iff.mp H
           obtain ⟨t309, A100, H⟩ := H
           replace H : (some (t309, true)) = some (r1, r2) := H
           have A10 := Aside0.mk A100
           clear A100
           simp only [Option.some.injEq, Prod.mk.injEq] at H
           obtain ⟨rfl, rfl⟩ := H
           go_enter Try.func127, Try.ntmps127
           go_wp2_with (first | ((with_reducible refine gate_callee (f := 73) rfl ?_); refine goesL_ (some 9) rfl rfl Try.func73 (by kernel_rfl) rfl #[.slice A0 l0.length c0] rfl z5_ ?_; (with_reducible refine (spec_FormValid.calls k _ _ l0 true _ ?side1 ?side2 A2.out).mono ?_); (case side1 => repeat (first | exact HR0.out | (with_reducible refine Kd.C_alloc ?_ _) | (with_reducible refine Kd.C_drewN ?_ _) | (with_reducible refine Kd.C_drew ?_))); (case side2 => exact HC0.out); rintro e w' ⟨rfl, ⟨nd, rfl⟩⟩; refine ⟨_, rfl, ?_⟩; have p300 : 0 ≤ (0 : Int) := (by omega); have q300 : 0 < (l0.length : Int) := of_decide_eq_true z22_; obtain ⟨ad300, e300, hx300_0⟩ := Kd.at_int HR0.out 0 p300 q300; cases e300; have qi300 : (0 < l0.length) = True := eq_true (by omega); (try rw [show ((0 : Int)).toNat = 0 from rfl] at hx300_0); (try rw [Addr.add_zero'] at hx300_0); replace p300 := eq_true p300; replace q300 := eq_true q300) | ((with_reducible refine gate_callee (f := 113) rfl ?_); refine goesL_ (some 20) rfl rfl Try.func113 (by kernel_rfl) rfl #[.int .i64 (rd l0 0)] rfl z5_ ?_; (with_reducible refine (spec_l1Core.calls k (rd l0 0) t301 t302 _ A6.out).mono ?_); rintro e w11 ⟨rfl, hb⟩; refine ⟨_, rfl, ?_⟩; have n0_ := Aside0.mk (below_step z7_ hb); clear HB; have HB := n0_; clear n0_; (try clear hb); (try clear hb2); (try clear hk); (try clear hi); have p303 : 0 ≤ (1 : Int) := (by omega); have q303 : 1 < (l0.length : Int) := of_decide_eq_true z22_; obtain ⟨ad303, e303, hx303_0⟩ := Kd.at_int HR0.out 1 p303 q303; obtain rfl : ad300 = ad303 := (by injection e303); (try simp only [show (1 : Int).toNat = 1 from rfl, Nat.reduceMul, Nat.reduceEqDiff, Go.Addr.add, ↓reduceIte] at hx303_0); have qi303 : (1 < l0.length) = True := eq_true (by omega); (try rw [show ((1 : Int)).toNat = 1 from rfl] at hx303_0); replace hx303_0 := (HB.out.cell (World.block_lt_of_cell? w _ hx303_0)).trans hx303_0; replace p303 := eq_true p303; replace q303 := eq_true q303) | ((with_reducible refine gate_callee (f := 113) rfl ?_); refine goesL_ (some 27) rfl rfl Try.func113 (by kernel_rfl) rfl #[.int .i64 (rd l0 1)] rfl z5_ ?_; (with_reducible refine (spec_l1Core.calls k (rd l0 1) t304 t305 _ A8.out).mono ?_); rintro e w12 ⟨rfl, hb⟩; refine ⟨_, rfl, ?_⟩; have n0_ := Aside0.mk (below_step z7_ hb); clear HB; have HB := n0_; clear n0_; (try clear hb); (try clear hb2); (try clear hk); (try clear hi)) | ((with_reducible refine gate_dst (N := 36) rfl ?_); refine Kd.R_lit (Kd.int .i64) _ 3 ?hg (N := 36) ?hd (xs := ([t305, t302] : List Int)) (inner := [.int .i64 t305, .int .i64 t302]) (ok := fun _ => True) (okp := fun _ => True) ?hr ?hp (fun _ hk => hk) trivial (Below.refl _ _) (Nat.le_refl _) (by simp) ?_; (case hd => rfl); (case hg => rfl); (case hr => first | (go_simp; done) | (go_simp; rfl)); (case hp => exact (Reps.one (show Kd.M (Kd.int .i64) _ _ _ t305 [.int .i64 t305] from rfl) (Reps.one (show Kd.M (Kd.int .i64) _ _ _ t302 [.int .i64 t302] from rfl) (Reps.none _ _)))); intro v307 w13 ho14 hb hg_ hnew_; clear hg_ hnew_; (first | rw [← Ny306.out] at ho14 | (simp only [Int.reduceToNat] at ho14; rw [← Ny306.out] at ho14)); have n0_ := Aside0.mk (Kd.R_lower ho14 (below_size z7_)); have n1_ := Aside0.mk (below_step z7_ hb); clear HB; have HO308 := n0_; have HB := n1_; clear n0_ n1_; clear hb ho14; obtain ⟨Ao15, co15, eo15⟩ := Kd.R_slice HO308.out; subst eo15) | ((with_reducible refine gate_callee (f := 106) rfl ?_); refine goesL_ (some 37) rfl rfl Try.func106 (by kernel_rfl) rfl #[.slice Ao15 y306.length co15] rfl z5_ ?_; (with_reducible refine (spec_l5Plain.calls k _ _ y306 t309 _ ?side1 ?side2 A10.out).mono ?_); (case side1 => repeat (first | exact (Kd.R_reads' HO308.out).2.2 | (with_reducible refine Kd.C_alloc ?_ _) | (with_reducible refine Kd.C_drewN ?_ _) | (with_reducible refine Kd.C_drew ?_))); (case side2 => exact (Kd.R_reads' HO308.out).2.1); rintro e w16 ⟨v310, rfl, ho0, hb⟩; refine ⟨_, rfl, ?_⟩; have n0_ := Aside0.mk (Kd.R_elder' (by (with_reducible repeat (first | apply Kd.R_alloc | apply Kd.R_drewN | apply Kd.R_drew)); exact HO308.out) (Kd.R_base ho0) hb); have n1_ := Aside0.mk (Kd.R_lower (Kd.R_new' ho0 (Kd.R_lt (by (with_reducible repeat (first | apply Kd.R_alloc | apply Kd.R_drewN | apply Kd.R_drew)); exact HO308.out))) (below_size z7_)); have n2_ := Aside0.mk (below_step z7_ hb); clear HO308; clear HB; have HO308 := n0_; have HO311 := n1_; have HB := n2_; clear n0_ n1_ n2_; (try clear hb); (try clear hb2); (try clear hk); (try clear hi); (try clear ho0)))
           go_ret2
           exact ⟨_, z20_, by (with_reducible repeat (first | apply Kd.R_alloc | apply Kd.R_drewN | apply Kd.R_drew)); exact Kd.R_mono HO311.out (fun _ hk => trivial), z7_⟩
         · rw [if_neg c9] at H
           have c9b0 : ((wrap64 (t301 + t304)) == 0) = false := beq_eq_false_iff_ne.mpr c9
           have c9b1 : ((wrap64 (t301 + t304)) != 0) = true := bne_iff_ne.mpr c9
           obtain ⟨y312, hy312⟩ : ∃ y_ : List Int, y_ = (([] : List Int)) := ⟨_, rfl⟩
           replace H : (some (y312, false)) = some (r1, r2) := by first | (rw [hy312]; with_reducible exact H) | (have H2_ := (Option.bind_some _ _).symm.trans H; rw [hy312]; with_reducible exact H2_) | (have H2_ := (Option.bind_some _ _).symm.trans H; with_reducible exact H2_) | with_reducible exact H | (rw [hy312]; exact H) | exact H
           have Ny312 := Aside0.mk hy312
           clear hy312
           simp only [Option.some.injEq, Prod.mk.injEq] at H
           obtain ⟨rfl, rfl⟩ := H
           go_enter Try.func127, Try.ntmps127
           go_wp2_with (first | ((with_reducible refine gate_callee (f := 73) rfl ?_); refine goesL_ (some 9) rfl rfl Try.func73 (by kernel_rfl) rfl #[.slice A0 l0.length c0] rfl z5_ ?_; (with_reducible refine (spec_FormValid.calls k _ _ l0 true _ ?side1 ?side2 A2.out).mono ?_); (case side1 => repeat (first | exact HR0.out | (with_reducible refine Kd.C_alloc ?_ _) | (with_reducible refine Kd.C_drewN ?_ _) | (with_reducible refine Kd.C_drew ?_))); (case side2 => exact HC0.out); rintro e w' ⟨rfl, ⟨nd, rfl⟩⟩; refine ⟨_, rfl, ?_⟩; have p300 : 0 ≤ (0 : Int) := (by omega); have q300 : 0 < (l0.length : Int) := of_decide_eq_true z22_; obtain ⟨ad300, e300, hx300_0⟩ := Kd.at_int HR0.out 0 p300 q300; cases e300; have qi300 : (0 < l0.length) = True := eq_true (by omega); (try rw [show ((0 : Int)).toNat = 0 from rfl] at hx300_0); (try rw [Addr.add_zero'] at hx300_0); replace p300 := eq_true p300; replace q300 := eq_true q300) | ((with_reducible refine gate_callee (f := 113) rfl ?_); refine goesL_ (some 20) rfl rfl Try.func113 (by kernel_rfl) rfl #[.int .i64 (rd l0 0)] rfl z5_ ?_; (with_reducible refine (spec_l1Core.calls k (rd l0 0) t301 t302 _ A6.out).mono ?_); rintro e w17 ⟨rfl, hb⟩; refine ⟨_, rfl, ?_⟩; have n0_ := Aside0.mk (below_step z7_ hb); clear HB; have HB := n0_; clear n0_; (try clear hb); (try clear hb2); (try clear hk); (try clear hi); have p303 : 0 ≤ (1 : Int) := (by omega); have q303 : 1 < (l0.length : Int) := of_decide_eq_true z22_; obtain ⟨ad303, e303, hx303_0⟩ := Kd.at_int HR0.out 1 p303 q303; obtain rfl : ad300 = ad303 := (by injection e303); (try simp only [show (1 : Int).toNat = 1 from rfl, Nat.reduceMul, Nat.reduceEqDiff, Go.Addr.add, ↓reduceIte] at hx303_0); have qi303 : (1 < l0.length) = True := eq_true (by omega); (try rw [show ((1 : Int)).toNat = 1 from rfl] at hx303_0); replace hx303_0 := (HB.out.cell (World.block_lt_of_cell? w _ hx303_0)).trans hx303_0; replace p303 := eq_true p303; replace q303 := eq_true q303) | ((with_reducible refine gate_callee (f := 113) rfl ?_); refine goesL_ (some 27) rfl rfl Try.func113 (by kernel_rfl) rfl #[.int .i64 (rd l0 1)] rfl z5_ ?_; (with_reducible refine (spec_l1Core.calls k (rd l0 1) t304 t305 _ A8.out).mono ?_); rintro e w18 ⟨rfl, hb⟩; refine ⟨_, rfl, ?_⟩; have n0_ := Aside0.mk (below_step z7_ hb); clear HB; have HB := n0_; clear n0_; (try clear hb); (try clear hb2); (try clear hk); (try clear hi)) | ((with_reducible refine gate_dst (N := 50) rfl ?_); refine Kd.R_lit (Kd.int .i64) _ 3 ?hg (N := 50) ?hd (xs := ([] : List Int)) (inner := []) (ok := fun _ => True) (okp := fun _ => True) ?hr ?hp (fun _ hk => hk) trivial (Below.refl _ _) (Nat.le_refl _) (by simp) ?_; (case hd => rfl); (case hg => rfl); (case hr => first | (go_simp; done) | (go_simp; rfl)); (case hp => exact (Reps.none _ _)); intro v313 w19 ho20 hb hg_ hnew_; clear hg_ hnew_; (first | rw [← Ny312.out] at ho20 | (simp only [Int.reduceToNat] at ho20; rw [← Ny312.out] at ho20)); have n0_ := Aside0.mk (Kd.R_lower ho20 (below_size z7_)); have n1_ := Aside0.mk (below_step z7_ hb); clear HB; have HO314 := n0_; have HB := n1_; clear n0_ n1_; clear hb ho20))
           go_ret2
           exact ⟨_, z20_, by (with_reducible repeat (first | apply Kd.R_alloc | apply Kd.R_drewN | apply Kd.R_drew)); exact HO314.out, z7_⟩
       · rw [if_neg c7] at H
         exact absurd H (by simp)
     · rw [if_neg c5] at H
       exact absurd H (by simp)
   · rw [if_neg c4] at H
     have c4b0 : ((l0.length : Int) == 2) = false := beq_eq_false_iff_ne.mpr c4
     have c4b1 : ((l0.length : Int) != 2) = true := bne_iff_ne.mpr c4
     by_cases c21 : (l0.length : Int) = 3
     · rw [if_pos c21] at H
       have c21b0 : ((l0.length : Int) == 3) = true := beq_iff_eq.mpr c21
       have c21b1 : ((l0.length : Int) != 3) = false := bne_eq_false_iff_eq.mpr c21
       clear c21
       replace H := Option.bind_eq_some_iff.mp H
       obtain ⟨⟨t315, t316⟩, A220, H⟩ := H
       replace H : (some (t315, t316)) = some (r1, r2) := H
       have A22 := Aside0.mk A220
       clear A220
       simp only [Option.some.injEq, Prod.mk.injEq] at H
       obtain ⟨rfl, rfl⟩ := H
       go_enter Try.func127, Try.ntmps127
       go_wp2_with (first | ((with_reducible refine gate_callee (f := 73) rfl ?_); refine goesL_ (some 9) rfl rfl Try.func73 (by kernel_rfl) rfl #[.slice A0 l0.length c0] rfl z5_ ?_; (with_reducible refine (spec_FormValid.calls k _ _ l0 true _ ?side1 ?side2 A2.out).mono ?_); (case side1 => repeat (first | exact HR0.out | (with_reducible refine Kd.C_alloc ?_ _) | (with_reducible refine Kd.C_drewN ?_ _) | (with_reducible refine Kd.C_drew ?_))); (case side2 => exact HC0.out); rintro e w' ⟨rfl, ⟨nd, rfl⟩⟩; refine ⟨_, rfl, ?_⟩) | ((with_reducible refine gate_callee (f := 139) rfl ?_); refine goesL_ (some 41) rfl rfl Try.func139 (by kernel_rfl) rfl #[.slice A0 l0.length c0] rfl z5_ ?_; (with_reducible refine (spec_l5Three.calls k _ _ l0 t315 t316 _ ?side1 ?side2 A22.out).mono ?_); (case side1 => repeat (first | exact HR0.out | (with_reducible refine Kd.C_alloc ?_ _) | (with_reducible refine Kd.C_drewN ?_ _) | (with_reducible refine Kd.C_drew ?_))); (case side2 => exact HC0.out); rintro e w23 ⟨v317, rfl, ho0, hb⟩; refine ⟨_, rfl, ?_⟩; have n0_ := Aside0.mk (Kd.R_lower ho0 (below_size z7_)); have n1_ := Aside0.mk (below_step z7_ hb); clear HB; have HO318 := n0_; have HB := n1_; clear n0_ n1_; (try clear hb); (try clear hb2); (try clear hk); (try clear hi); (try clear ho0)))
       go_ret2
       exact ⟨_, z20_, by (with_reducible repeat (first | apply Kd.R_alloc | apply Kd.R_drewN | apply Kd.R_drew)); exact HO318.out, z7_⟩
     · rw [if_neg c21] at H
       have c21b0 : ((l0.length : Int) == 3) = false := beq_eq_false_iff_ne.mpr c21
       have c21b1 : ((l0.length : Int) != 3) = true := bne_iff_ne.mpr c21
       by_cases c24 : (l0.length : Int) = 4
       · rw [if_pos c24] at H
         have c24b0 : ((l0.length : Int) == 4) = true := beq_iff_eq.mpr c24
         have c24b1 : ((l0.length : Int) != 4) = false := bne_eq_false_iff_eq.mpr c24
         clear c24
         replace H := Option.bind_eq_some_iff.mp H
         obtain ⟨⟨t319, t320⟩, A250, H⟩ := H
         replace H : (some (t319, t320)) = some (r1, r2) := H
         have A25 := Aside0.mk A250
         clear A250
         simp only [Option.some.injEq, Prod.mk.injEq] at H
         obtain ⟨rfl, rfl⟩ := H
         go_enter Try.func127, Try.ntmps127
         go_wp2_with (first | ((with_reducible refine gate_callee (f := 73) rfl ?_); refine goesL_ (some 9) rfl rfl Try.func73 (by kernel_rfl) rfl #[.slice A0 l0.length c0] rfl z5_ ?_; (with_reducible refine (spec_FormValid.calls k _ _ l0 true _ ?side1 ?side2 A2.out).mono ?_); (case side1 => repeat (first | exact HR0.out | (with_reducible refine Kd.C_alloc ?_ _) | (with_reducible refine Kd.C_drewN ?_ _) | (with_reducible refine Kd.C_drew ?_))); (case side2 => exact HC0.out); rintro e w' ⟨rfl, ⟨nd, rfl⟩⟩; refine ⟨_, rfl, ?_⟩) | ((with_reducible refine gate_callee (f := 140) rfl ?_); refine goesL_ (some 47) rfl rfl Try.func140 (by kernel_rfl) rfl #[.slice A0 l0.length c0] rfl z5_ ?_; (with_reducible refine (spec_l5Four.calls k _ _ l0 t319 t320 _ ?side1 ?side2 A25.out).mono ?_); (case side1 => repeat (first | exact HR0.out | (with_reducible refine Kd.C_alloc ?_ _) | (with_reducible refine Kd.C_drewN ?_ _) | (with_reducible refine Kd.C_drew ?_))); (case side2 => exact HC0.out); rintro e w26 ⟨v321, rfl, ho0, hb⟩; refine ⟨_, rfl, ?_⟩; have n0_ := Aside0.mk (Kd.R_lower ho0 (below_size z7_)); have n1_ := Aside0.mk (below_step z7_ hb); clear HB; have HO322 := n0_; have HB := n1_; clear n0_ n1_; (try clear hb); (try clear hb2); (try clear hk); (try clear hi); (try clear ho0)))
         go_ret2
         exact ⟨_, z20_, by (with_reducible repeat (first | apply Kd.R_alloc | apply Kd.R_drewN | apply Kd.R_drew)); exact HO322.out, z7_⟩
       · rw [if_neg c24] at H
         have c24b0 : ((l0.length : Int) == 4) = false := beq_eq_false_iff_ne.mpr c24
         have c24b1 : ((l0.length : Int) != 4) = true := bne_iff_ne.mpr c24
         obtain ⟨y323, hy323⟩ : ∃ y_ : List Int, y_ = (([] : List Int)) := ⟨_, rfl⟩
         replace H : (some (y323, false)) = some (r1, r2) := by first | (rw [hy323]; with_reducible exact H) | (have H2_ := (Option.bind_some _ _).symm.trans H; rw [hy323]; with_reducible exact H2_) | (have H2_ := (Option.bind_some _ _).symm.trans H; with_reducible exact H2_) | with_reducible exact H | (rw [hy323]; exact H) | exact H
         have Ny323 := Aside0.mk hy323
         clear hy323
         simp only [Option.some.injEq, Prod.mk.injEq] at H
         obtain ⟨rfl, rfl⟩ := H
         go_enter Try.func127, Try.ntmps127
         go_wp2_with (first | ((with_reducible refine gate_callee (f := 73) rfl ?_); refine goesL_ (some 9) rfl rfl Try.func73 (by kernel_rfl) rfl #[.slice A0 l0.length c0] rfl z5_ ?_; (with_reducible refine (spec_FormValid.calls k _ _ l0 true _ ?side1 ?side2 A2.out).mono ?_); (case side1 => repeat (first | exact HR0.out | (with_reducible refine Kd.C_alloc ?_ _) | (with_reducible refine Kd.C_drewN ?_ _) | (with_reducible refine Kd.C_drew ?_))); (case side2 => exact HC0.out); rintro e w' ⟨rfl, ⟨nd, rfl⟩⟩; refine ⟨_, rfl, ?_⟩) | ((with_reducible refine gate_dst (N := 50) rfl ?_); refine Kd.R_lit (Kd.int .i64) _ 3 ?hg (N := 50) ?hd (xs := ([] : List Int)) (inner := []) (ok := fun _ => True) (okp := fun _ => True) ?hr ?hp (fun _ hk => hk) trivial (Below.refl _ _) (Nat.le_refl _) (by simp) ?_; (case hd => rfl); (case hg => rfl); (case hr => first | (go_simp; done) | (go_simp; rfl)); (case hp => exact (Reps.none _ _)); intro v324 w27 ho28 hb hg_ hnew_; clear hg_ hnew_; (first | rw [← Ny323.out] at ho28 | (simp only [Int.reduceToNat] at ho28; rw [← Ny323.out] at ho28)); have n0_ := Aside0.mk (Kd.R_lower ho28 (below_size z7_)); have n1_ := Aside0.mk (below_step z7_ hb); clear HB; have HO325 := n0_; have HB := n1_; clear n0_ n1_; clear hb ho28))
         go_ret2
         exact ⟨_, z20_, by (with_reducible repeat (first | apply Kd.R_alloc | apply Kd.R_drewN | apply Kd.R_drew)); exact HO325.out, z7_⟩
 · replace c3 := Bool.eq_false_iff.mpr c3
   subst c3
   have H1 : (some ((([] : List Int)), false)) = some (r1, r2) := by rw [if_neg (show ¬ (false = true) by decide)] at H; exact H
   clear H
   have H := H1
   clear H1
   obtain ⟨y297, hy297⟩ : ∃ y_ : List Int, y_ = (([] : List Int)) := ⟨_, rfl⟩
   replace H : (some (y297, false)) = some (r1, r2) := by first | (rw [hy297]; with_reducible exact H) | (have H2_ := (Option.bind_some _ _).symm.trans H; rw [hy297]; with_reducible exact H2_) | (have H2_ := (Option.bind_some _ _).symm.trans H; with_reducible exact H2_) | with_reducible exact H | (rw [hy297]; exact H) | exact H
   have Ny297 := Aside0.mk hy297
   clear hy297
   simp only [Option.some.injEq, Prod.mk.injEq] at H
   obtain ⟨rfl, rfl⟩ := H
   go_enter Try.func127, Try.ntmps127
   go_wp2_with (first | ((with_reducible refine gate_callee (f := 73) rfl ?_); refine goesL_ (some 9) rfl rfl Try.func73 (by kernel_rfl) rfl #[.slice A0 l0.length c0] rfl z5_ ?_; (with_reducible refine (spec_FormValid.calls k _ _ l0 false _ ?side1 ?side2 A2.out).mono ?_); (case side1 => repeat (first | exact HR0.out | (with_reducible refine Kd.C_alloc ?_ _) | (with_reducible refine Kd.C_drewN ?_ _) | (with_reducible refine Kd.C_drew ?_))); (case side2 => exact HC0.out); rintro e w' ⟨rfl, ⟨nd, rfl⟩⟩; refine ⟨_, rfl, ?_⟩) | ((with_reducible refine gate_dst (N := 11) rfl ?_); refine Kd.R_lit (Kd.int .i64) _ 3 ?hg (N := 11) ?hd (xs := ([] : List Int)) (inner := []) (ok := fun _ => True) (okp := fun _ => True) ?hr ?hp (fun _ hk => hk) trivial (Below.refl _ _) (Nat.le_refl _) (by simp) ?_; (case hd => rfl); (case hg => rfl); (case hr => first | (go_simp; done) | (go_simp; rfl)); (case hp => exact (Reps.none _ _)); intro v298 w29 ho30 hb hg_ hnew_; clear hg_ hnew_; (first | rw [← Ny297.out] at ho30 | (simp only [Int.reduceToNat] at ho30; rw [← Ny297.out] at ho30)); have n0_ := Aside0.mk (Kd.R_lower ho30 (below_size z7_)); have n1_ := Aside0.mk (below_step z7_ hb); clear HB; have HO299 := n0_; have HB := n1_; clear n0_ n1_; clear hb ho30))
   go_ret2
   exact ⟨_, z20_, by (with_reducible repeat (first | apply Kd.R_alloc | apply Kd.R_drewN | apply Kd.R_drew)); exact HO299.out, z7_⟩

/-! ### spec_l91Vector: function 128 -/
def spec_l91Vector.l0 : Nat → List Int → Int → List Int → Int → List Int → Int → Option (List Int × Int)
 | 0, _, _, _, _, _, _ => none
 | k + 1, x1, x2, x7, x8, x1000, x1001 => if x8 < (x1.length : Int) then ((spec_l6Rd_pick.f k x1000 x1001 (wrap64 ((wrap64 (2 * x2)) + 1))).bind fun bt329 => (if x7.length < 17592186044416 then (spec_l91Vector.l0 k x1 x2 (x7 ++ [wrap64 (bt329.1 - x2)]) (wrap64 (x8 + 1)) x1000 bt329.2) else (none))) else (some (x7, x1001))
def spec_l91Vector.f (k : Nat) (s0_0 : List Int) (s0_1 : Int) (l1 : List Int) (a2 : Int) : Option (List Int × Int) := spec_l91Vector.l0 k l1 a2 (([] : List Int)) 0 s0_0 s0_1
theorem spec_l91Vector.mono_l : ∀ k, (∀ y0 y1 y2 y3 y4 y5, LeO (spec_l91Vector.l0 k y0 y1 y2 y3 y4 y5) (spec_l91Vector.l0 (k + 1) y0 y1 y2 y3 y4 y5))
 | 0 => fun _ _ _ _ _ _ r h => by simp [spec_l91Vector.l0] at h
 | k + 1 => by
  have ih0 := spec_l91Vector.mono_l k
  · intro y0 y1 y2 y3 y4 y5
    unfold spec_l91Vector.l0
    repeat' first
    | (with_reducible exact ih0 _ _ _ _ _ _)
    | (with_reducible exact spec_l6Rd_pick.mono _ _ _ _)
    | (with_reducible exact LeO.refl _)
    | (with_reducible exact LeO.none _)
    | (with_reducible refine LeO.ite ?_ ?_)
    | (with_reducible refine LeO.bind ?_ (fun _ => ?_))
    | exact ih0 _ _ _ _ _ _
    | exact spec_l6Rd_pick.mono _ _ _ _
    | exact LeO.none _
    | refine LeO.ite ?_ ?_
    | refine LeO.bind ?_ (fun _ => ?_)
theorem spec_l91Vector.mono : ∀ a0 a1 a2 a3 k, LeO (spec_l91Vector.f k a0 a1 a2 a3) (spec_l91Vector.f (k + 1) a0 a1 a2 a3) := by
 intro a0 a1 a2 a3 k
 have ih0 := spec_l91Vector.mono_l k
 unfold spec_l91Vector.f
 repeat' first
  | (with_reducible exact ih0 _ _ _ _ _ _)
  | (with_reducible exact spec_l6Rd_pick.mono _ _ _ _)
  | (with_reducible exact LeO.refl _)
  | (with_reducible exact LeO.none _)
  | (with_reducible refine LeO.ite ?_ ?_)
  | (with_reducible refine LeO.bind ?_ (fun _ => ?_))
  | exact ih0 _ _ _ _ _ _
  | exact spec_l6Rd_pick.mono _ _ _ _
  | exact LeO.none _
  | refine LeO.ite ?_ ?_
  | refine LeO.bind ?_ (fun _ => ?_)
theorem spec_l91Vector.calls (k : Nat) (g : Nat) (s0_0 : List Int) (s0_1 : Int) (A1 : Option Addr) (c1 : Nat) (l1 : List Int) (a2 : Int) (r1 : List Int) (r2 : Int) (w0 w : World) (hI : IsS81 w0 w g s0_0 s0_1) (hB : Below w0.heap.size w0 w) (hr1 : Kd.C (Kd.int .i64) w A1 l1.length l1) (hc1 : l1.length ≤ c1) (hf1 : ∀ ad, A1 = some ad → 0 < l1.length → ad.block ≠ g) (h : spec_l91Vector.f k s0_0 s0_1 l1 a2 = some (r1, r2)) :
 Calls Try.prog 128 #[.pointer (some ⟨g, 0, none⟩), .slice A1 l1.length c1, .int .i64 a2] w fun e w' => ∃ v0_ : Value, e = .returned (v0_) ∧ Kd.R (Kd.int .i64) 3 w' w.heap.size (fun _ => True) v0_ r1 ∧ IsS81 w0 w' g s0_0 r2 ∧ Below w0.heap.size w0 w' ∧ KeepBut w w' g none := by
 have HR1 := Aside0.mk hr1
 have HC1 := Aside0.mk hc1
 clear hr1 hc1
 have HI0 := Aside0.mk hI
 have HK := Aside0.mk (KeepBut.refl w g none)
 have HL := Aside0.mk hB.size
 clear hI
 have HW0 := Aside0.mk hB.size
 have HB := Aside0.mk hB
 clear hB
 have H : (spec_l91Vector.l0 k l1 a2 (([] : List Int)) 0 s0_0 s0_1) = some (r1, r2) := h
 clear h
 obtain ⟨y326, hy326⟩ : ∃ y_ : List Int, y_ = (([] : List Int)) := ⟨_, rfl⟩
 replace H : (spec_l91Vector.l0 k l1 a2 y326 0 s0_0 s0_1) = some (r1, r2) := by first | (rw [hy326]; with_reducible exact H) | (have H2_ := (Option.bind_some _ _).symm.trans H; rw [hy326]; with_reducible exact H2_) | (have H2_ := (Option.bind_some _ _).symm.trans H; with_reducible exact H2_) | with_reducible exact H | (rw [hy326]; exact H) | exact H
 have Ny326 := Aside0.mk hy326
 clear hy326
 have H' := Aside0.mk H
 clear H
 go_enter Try.func128, Try.ntmps128
 go_wp2_with (first | ((with_reducible refine gate_dst (N := 9) rfl ?_); refine Kd.R_lit (Kd.int .i64) _ 3 ?hg (N := 9) ?hd (xs := ([] : List Int)) (inner := []) (ok := fun _ => True) (okp := fun _ => True) ?hr ?hp (fun _ hk => hk) trivial (Below.refl _ _) (Nat.le_refl _) (by simp) ?_; (case hd => rfl); (case hg => rfl); (case hr => first | (go_simp; done) | (go_simp; rfl)); (case hp => exact (Reps.none _ _)); intro v327 w4 ho5 hb hg_ hnew_; clear hg_ hnew_; (first | rw [← Ny326.out] at ho5 | (simp only [Int.reduceToNat] at ho5; rw [← Ny326.out] at ho5)); have n0_ := Aside0.mk (Kd.R_lower ho5 (keep_size (w := w) (g := g) (row := none) z4_)); have n1_ := Aside0.mk (IsS81.below z3_ hb); have n2_ := Aside0.mk (KeepBut.trans z4_ (KeepBut.of_below hb g none) (.inl rfl)); have n3_ := Aside0.mk (below_step z2_ hb); clear HI0; clear HK; clear HB; have HO328 := n0_; have HI0 := n1_; have HK := n2_; have HB := n3_; clear n0_ n1_ n2_ n3_; clear hb ho5))
 go_loopg [7, 8] k (fun kq v7 v8 w' => ∃ (x7_1 : List Int) (x8_1 : Int) (x1001_1 : Int), v8 = .int .i64 x8_1 ∧ Aside0 (spec_l91Vector.l0 kq l1 a2 x7_1 x8_1 s0_0 x1001_1 = some (r1, r2)) ∧ Aside0 (kq ≤ k) ∧ Aside0 (Kd.R (Kd.int .i64) 3 w' w.heap.size (fun _ => True) v7 x7_1) ∧ Aside0 (IsS81 w0 w' g s0_0 x1001_1) ∧ Aside0 (KeepBut w w' g none) ∧ Aside0 (Below w0.heap.size w0 w'))
 case atStart => exact ⟨(y326), (0), (s0_1), z23_, H', ⟨Nat.le_refl _⟩, ⟨by (with_reducible repeat (first | apply Kd.R_alloc | apply Kd.R_drewN | apply Kd.R_drew)); exact HO328.out⟩, ⟨z3_⟩, ⟨z4_⟩, ⟨z2_⟩⟩
 case round =>
  clear H'
  try clear c1
  try clear p2
  obtain ⟨x7_1, x8_1, x1001_1, rfl, HA, HK1, HO_7, HI0, HK, HB⟩ := hrel
  cases gk with
  | zero => exact absurd HA.out (by simp [spec_l91Vector.l0])
  | succ k1 =>
   have H := HA.out
   clear HA
   simp only [spec_l91Vector.l0] at H
   by_cases c6 : x8_1 < (l1.length : Int)
   · rw [if_pos c6] at H
     have c6b0 : decide (x8_1 < (l1.length : Int)) = true := decide_eq_true c6
     clear c6
     replace H := Option.bind_eq_some_iff.mp H
     obtain ⟨⟨t329, t330⟩, A70, H⟩ := H
     replace H : (if x7_1.length < 17592186044416 then (spec_l91Vector.l0 k1 l1 a2 (x7_1 ++ [wrap64 (t329 - a2)]) (wrap64 (x8_1 + 1)) s0_0 t330) else (none)) = some (r1, r2) := H
     have A7 := Aside0.mk A70
     clear A70
     by_cases c8 : x7_1.length < 17592186044416
     · rw [if_pos c8] at H
       have LMc8 := Aside0.mk c8
       clear c8
       obtain ⟨y331, hy331⟩ : ∃ y_ : List Int, y_ = (x7_1 ++ [wrap64 (t329 - a2)]) := ⟨_, rfl⟩
       replace H : (spec_l91Vector.l0 k1 l1 a2 y331 (wrap64 (x8_1 + 1)) s0_0 t330) = some (r1, r2) := by first | (rw [hy331]; with_reducible exact H) | (have H2_ := (Option.bind_some _ _).symm.trans H; rw [hy331]; with_reducible exact H2_) | (have H2_ := (Option.bind_some _ _).symm.trans H; with_reducible exact H2_) | with_reducible exact H | (rw [hy331]; exact H) | exact H
       have Ny331 := Aside0.mk hy331
       clear hy331
       have H' := Aside0.mk H
       clear H
       go_wp2_with (first | ((with_reducible refine gate_callee (f := 68) rfl ?_); refine goesL_ (some 21) rfl rfl Try.func68 (by kernel_rfl) rfl #[.pointer (some ⟨g, 0, none⟩), .int .i64 (wrap64 ((wrap64 (2 * a2)) + 1))] rfl z5_ ?_; (with_reducible refine (spec_l6Rd_pick.calls k1 g s0_0 x1001_1 (wrap64 ((wrap64 (2 * a2)) + 1)) t329 t330 w0 _ ?side1 ?side2 A7.out).mono ?_); (case side1 => exact z3_); (case side2 => exact z2_); rintro e w9 ⟨rfl, hi, hb, hk⟩; refine ⟨_, rfl, ?_⟩; have n0_ := Aside0.mk (Kd.R_mono (Kd.R_keep (IsS81.apart (show IsS81 w0 _ g s0_0 x1001_1 from by repeat (first | (with_reducible first | exact HI0.out | apply IsS81.alloc | apply IsS81.drewN | apply IsS81.drew | apply IsS81.set_1) | exact HI0.out)) z19_ (by decide)) hk (fun _ h => h.2)) (fun _ h => h.1)); have n1_ := Aside0.mk (KeepBut.trans z4_ hk (.inl rfl)); have n2_ := Aside0.mk (hb); have n3_ := Aside0.mk (hi); clear HO_7; clear HK; clear HB; clear HI0; have HO_7 := n0_; have HK := n1_; have HB := n2_; have HI0 := n3_; clear n0_ n1_ n2_ n3_; (try clear hb); (try clear hb2); (try clear hk); (try clear hi)) | ((with_reducible refine gate_builtin (b := .append) (xs := #[.tmp 16, .tmp 24]) rfl ?_); at_builtin; refine Kd.R_append (Kd.int .i64) w.heap.size rfl (.tmp 16) (.tmp 24) 23 3 (.int .i64 0) 8 rfl Try.underlying23 info3 rfl (by decide) (by omega) u7 x7_1 (wrap64 (t329 - a2)) [.int .i64 (wrap64 (t329 - a2))] (fun _ => True) (fun _ => False) rfl rfl ?aP (fun _ hk => hk.elim) ?aF ?aO (Below.refl _ _) ?aS ?aL ?_; (case aP => exact rfl); (case aF => exact (fun _ _ => trivial)); (case aO => exact z19_); (case aS => exact (keep_size (w := w) (g := g) (row := none) z4_)); (case aL => have := LMc8.out; omega); intro v332 w10 ho hb hg hat; rw [← Ny331.out] at ho; have n0_ := Aside0.mk (IsS81.grown z3_ hg (IsS81.own_ne HI0.out HO_7.out (by decide))); have n1_ := Aside0.mk (below_weaken z2_ HL.out hb); have n2_ := Aside0.mk (KeepBut.trans z4_ (KeepBut.of_grown hg g) (Kd.R_base2 HO_7.out)); have n3_ := Aside0.mk (ho); clear HI0; clear HB; clear HK; clear HO_7; have HI0 := n0_; have HB := n1_; have HK := n2_; have HO333 := n3_; clear n0_ n1_ n2_ n3_; clear ho hb hg hat))
       go_roundg k1
       case measure => have := HK1.out; omega
       case rel => exact ⟨(y331), (wrap64 (x8_1 + 1)), (t330), z23_, H', ⟨by have := HK1.out; omega⟩, ⟨by (with_reducible repeat (first | apply Kd.R_alloc | apply Kd.R_drewN | apply Kd.R_drew)); exact HO333.out⟩, ⟨z3_⟩, ⟨z4_⟩, ⟨z2_⟩⟩
     · rw [if_neg c8] at H
       exact absurd H (by simp)
   · rw [if_neg c6] at H
     have c6b0 : decide (x8_1 < (l1.length : Int)) = false := decide_eq_false c6
     clear c6
     simp only [Option.some.injEq, Prod.mk.injEq] at H
     obtain ⟨rfl, rfl⟩ := H
     go_wp2
     go_ret
     exact ⟨_, z20_, z19_, z3_, z2_, z4_⟩

/-! ### spec_l92Zero: function 102 -/
mutual
def spec_l92Zero.j0 : Nat → List Int → List Int → Bool → List Int → Int → Option (List Int × List Int × Int)
 | 0, _, _, _, _, _ => none
 | k + 1, x4, x5, x25, x1000, x1001 => if x25 = true then ((some (([1, 2, (-1), (-3), 1] : List Int) : List Int)).bind fun y349 => ((spec_l6Rd_pick.f k x1000 x1001 5).bind fun bt352 => (if 0 ≤ bt352.1 then (if bt352.1 < (y349.length : Int) then (spec_l92Zero.l0 k x4 x5 (([] : List Int)) (rd y349 bt352.1) 0 x1000 bt352.2) else (none)) else (none)))) else ((spec_l91Vector.f k x1000 x1001 x4 4).bind fun bt359 => (some (x4, bt359.1, bt359.2)))
def spec_l92Zero.l0 : Nat → List Int → List Int → List Int → Int → Int → List Int → Int → Option (List Int × List Int × Int)
 | 0, _, _, _, _, _, _, _ => none
 | k + 1, x4, x5, x7, x8, x9, x1000, x1001 => if x9 < (x5.length : Int) then (if 0 ≤ x9 then (if x7.length < 17592186044416 then (spec_l92Zero.l0 k x4 x5 (x7 ++ [wrap64 (x8 * (rd x5 x9))]) x8 (wrap64 (x9 + 1)) x1000 x1001) else (none)) else (none)) else (some (x4, x7, x1001))
end
def spec_l92Zero.f (k : Nat) (s0_0 : List Int) (s0_1 : Int) : Option (List Int × List Int × Int) := (spec_l6Rd_pick.f k s0_0 s0_1 3).bind fun bt334 => ((spec_l92Form.f k s0_0 bt334.2 (wrap64 (2 + bt334.1))).bind fun bt336 => ((spec_ZeroFind.f k bt336.1).bind fun bt340 => (if bt340.2 = true then ((spec_l6Rd_pick.f k s0_0 bt336.2 4).bind fun bt344 => (spec_l92Zero.j0 k bt336.1 bt340.1 (decide (bt344.1 > 0)) s0_0 bt344.2)) else (spec_l92Zero.j0 k bt336.1 bt340.1 false s0_0 bt336.2))))
theorem spec_l92Zero.mono_l : ∀ k, (∀ y0 y1 y2 y3 y4, LeO (spec_l92Zero.j0 k y0 y1 y2 y3 y4) (spec_l92Zero.j0 (k + 1) y0 y1 y2 y3 y4)) ∧ (∀ y0 y1 y2 y3 y4 y5 y6, LeO (spec_l92Zero.l0 k y0 y1 y2 y3 y4 y5 y6) (spec_l92Zero.l0 (k + 1) y0 y1 y2 y3 y4 y5 y6))
 | 0 => ⟨fun _ _ _ _ _ r h => by simp [spec_l92Zero.j0] at h, fun _ _ _ _ _ _ _ r h => by simp [spec_l92Zero.l0] at h⟩
 | k + 1 => by
  obtain ⟨ih0, ih1⟩ := spec_l92Zero.mono_l k
  refine ⟨?_, ?_⟩
  · intro y0 y1 y2 y3 y4
    unfold spec_l92Zero.j0
    repeat' first
    | (with_reducible exact ih0 _ _ _ _ _)
    | (with_reducible exact ih1 _ _ _ _ _ _ _)
    | (with_reducible exact spec_ZeroFind.mono _ _)
    | (with_reducible exact spec_l6Rd_pick.mono _ _ _ _)
    | (with_reducible exact spec_l91Vector.mono _ _ _ _ _)
    | (with_reducible exact spec_l92Form.mono _ _ _ _)
    | (with_reducible exact LeO.refl _)
    | (with_reducible exact LeO.none _)
    | (with_reducible refine LeO.ite ?_ ?_)
    | (with_reducible refine LeO.bind ?_ (fun _ => ?_))
    | exact ih0 _ _ _ _ _
    | exact ih1 _ _ _ _ _ _ _
    | exact spec_ZeroFind.mono _ _
    | exact spec_l6Rd_pick.mono _ _ _ _
    | exact spec_l91Vector.mono _ _ _ _ _
    | exact spec_l92Form.mono _ _ _ _
    | exact LeO.none _
    | refine LeO.ite ?_ ?_
    | refine LeO.bind ?_ (fun _ => ?_)
  · intro y0 y1 y2 y3 y4 y5 y6
    unfold spec_l92Zero.l0
    repeat' first
    | (with_reducible exact ih0 _ _ _ _ _)
    | (with_reducible exact ih1 _ _ _ _ _ _ _)
    | (with_reducible exact spec_ZeroFind.mono _ _)
    | (with_reducible exact spec_l6Rd_pick.mono _ _ _ _)
    | (with_reducible exact spec_l91Vector.mono _ _ _ _ _)
    | (with_reducible exact spec_l92Form.mono _ _ _ _)
    | (with_reducible exact LeO.refl _)
    | (with_reducible exact LeO.none _)
    | (with_reducible refine LeO.ite ?_ ?_)
    | (with_reducible refine LeO.bind ?_ (fun _ => ?_))
    | exact ih0 _ _ _ _ _
    | exact ih1 _ _ _ _ _ _ _
    | exact spec_ZeroFind.mono _ _
    | exact spec_l6Rd_pick.mono _ _ _ _
    | exact spec_l91Vector.mono _ _ _ _ _
    | exact spec_l92Form.mono _ _ _ _
    | exact LeO.none _
    | refine LeO.ite ?_ ?_
    | refine LeO.bind ?_ (fun _ => ?_)
theorem spec_l92Zero.mono : ∀ a0 a1 k, LeO (spec_l92Zero.f k a0 a1) (spec_l92Zero.f (k + 1) a0 a1) := by
 intro a0 a1 k
 obtain ⟨ih0, ih1⟩ := spec_l92Zero.mono_l k
 unfold spec_l92Zero.f
 repeat' first
  | (with_reducible exact ih0 _ _ _ _ _)
  | (with_reducible exact ih1 _ _ _ _ _ _ _)
  | (with_reducible exact spec_ZeroFind.mono _ _)
  | (with_reducible exact spec_l6Rd_pick.mono _ _ _ _)
  | (with_reducible exact spec_l91Vector.mono _ _ _ _ _)
  | (with_reducible exact spec_l92Form.mono _ _ _ _)
  | (with_reducible exact LeO.refl _)
  | (with_reducible exact LeO.none _)
  | (with_reducible refine LeO.ite ?_ ?_)
  | (with_reducible refine LeO.bind ?_ (fun _ => ?_))
  | exact ih0 _ _ _ _ _
  | exact ih1 _ _ _ _ _ _ _
  | exact spec_ZeroFind.mono _ _
  | exact spec_l6Rd_pick.mono _ _ _ _
  | exact spec_l91Vector.mono _ _ _ _ _
  | exact spec_l92Form.mono _ _ _ _
  | exact LeO.none _
  | refine LeO.ite ?_ ?_
  | refine LeO.bind ?_ (fun _ => ?_)
theorem spec_l92Zero.calls (k : Nat) (g : Nat) (s0_0 : List Int) (s0_1 : Int) (r1 : List Int) (r2 : List Int) (r3 : Int) (w0 w : World) (hI : IsS81 w0 w g s0_0 s0_1) (hB : Below w0.heap.size w0 w) (h : spec_l92Zero.f k s0_0 s0_1 = some (r1, r2, r3)) :
 Calls Try.prog 102 #[.pointer (some ⟨g, 0, none⟩)] w fun e w' => ∃ v0_ v1_ : Value, e = .returned (.tuple #[v0_, v1_]) ∧ Kd.R (Kd.int .i64) 3 w' w.heap.size (fun k_ => some k_ ≠ (v1_ : Value).ownBlock) v0_ r1 ∧ Kd.R (Kd.int .i64) 3 w' w.heap.size (fun k_ => some k_ ≠ (v0_ : Value).ownBlock) v1_ r2 ∧ IsS81 w0 w' g s0_0 r3 ∧ Below w0.heap.size w0 w' ∧ KeepBut w w' g none := by
 have HI0 := Aside0.mk hI
 have HK := Aside0.mk (KeepBut.refl w g none)
 have HL := Aside0.mk hB.size
 clear hI
 have HW0 := Aside0.mk hB.size
 have HB := Aside0.mk hB
 clear hB
 have H : ((spec_l6Rd_pick.f k s0_0 s0_1 3).bind fun bt334 => ((spec_l92Form.f k s0_0 bt334.2 (wrap64 (2 + bt334.1))).bind fun bt336 => ((spec_ZeroFind.f k bt336.1).bind fun bt340 => (if bt340.2 = true then ((spec_l6Rd_pick.f k s0_0 bt336.2 4).bind fun bt344 => (spec_l92Zero.j0 k bt336.1 bt340.1 (decide (bt344.1 > 0)) s0_0 bt344.2)) else (spec_l92Zero.j0 k bt336.1 bt340.1 false s0_0 bt336.2))))) = some (r1, r2, r3) := h
 clear h
 replace H := Option.bind_eq_some_iff.mp H
 obtain ⟨⟨t334, t335⟩, A20, H⟩ := H
 replace H : ((spec_l92Form.f k s0_0 t335 (wrap64 (2 + t334))).bind fun bt336 => ((spec_ZeroFind.f k bt336.1).bind fun bt340 => (if bt340.2 = true then ((spec_l6Rd_pick.f k s0_0 bt336.2 4).bind fun bt344 => (spec_l92Zero.j0 k bt336.1 bt340.1 (decide (bt344.1 > 0)) s0_0 bt344.2)) else (spec_l92Zero.j0 k bt336.1 bt340.1 false s0_0 bt336.2)))) = some (r1, r2, r3) := H
 have A2 := Aside0.mk A20
 clear A20
 replace H := Option.bind_eq_some_iff.mp H
 obtain ⟨⟨t336, t339⟩, A30, H⟩ := H
 replace H : ((spec_ZeroFind.f k t336).bind fun bt340 => (if bt340.2 = true then ((spec_l6Rd_pick.f k s0_0 t339 4).bind fun bt344 => (spec_l92Zero.j0 k t336 bt340.1 (decide (bt344.1 > 0)) s0_0 bt344.2)) else (spec_l92Zero.j0 k t336 bt340.1 false s0_0 t339))) = some (r1, r2, r3) := H
 have A3 := Aside0.mk A30
 clear A30
 replace H := Option.bind_eq_some_iff.mp H
 obtain ⟨⟨t340, t341⟩, A40, H⟩ := H
 replace H : (if t341 = true then ((spec_l6Rd_pick.f k s0_0 t339 4).bind fun bt344 => (spec_l92Zero.j0 k t336 t340 (decide (bt344.1 > 0)) s0_0 bt344.2)) else (spec_l92Zero.j0 k t336 t340 false s0_0 t339)) = some (r1, r2, r3) := H
 have A4 := Aside0.mk A40
 clear A40
 have HC5 := Aside0.mk H
 clear H
 go_enter Try.func102, Try.ntmps102
 go_upto_region 3 with (first | ((with_reducible refine gate_callee (f := 68) rfl ?_); refine goesL_ (some 12) rfl rfl Try.func68 (by kernel_rfl) rfl #[.pointer (some ⟨g, 0, none⟩), .int .i64 3] rfl z5_ ?_; (with_reducible refine (spec_l6Rd_pick.calls k g s0_0 s0_1 3 t334 t335 w0 _ ?side1 ?side2 A2.out).mono ?_); (case side1 => exact z3_); (case side2 => exact z2_); rintro e w6 ⟨rfl, hi, hb, hk⟩; refine ⟨_, rfl, ?_⟩; have n0_ := Aside0.mk (KeepBut.trans z4_ hk (.inl rfl)); have n1_ := Aside0.mk (hb); have n2_ := Aside0.mk (hi); clear HK; clear HB; clear HI0; have HK := n0_; have HB := n1_; have HI0 := n2_; clear n0_ n1_ n2_; (try clear hb); (try clear hb2); (try clear hk); (try clear hi)) | ((with_reducible refine gate_callee (f := 70) rfl ?_); refine goesL_ (some 14) rfl rfl Try.func70 (by kernel_rfl) rfl #[.pointer (some ⟨g, 0, none⟩), .int .i64 (wrap64 (2 + t334))] rfl z5_ ?_; (with_reducible refine (spec_l92Form.calls k g s0_0 t335 (wrap64 (2 + t334)) t336 t339 w0 _ ?side1 ?side2 A3.out).mono ?_); (case side1 => exact z3_); (case side2 => exact z2_); rintro e w7 ⟨v337, rfl, ho0, hi, hb, hk⟩; refine ⟨_, rfl, ?_⟩; have n0_ := Aside0.mk (Kd.R_lower ho0 (keep_size (w := w) (g := g) (row := none) z4_)); have n1_ := Aside0.mk (KeepBut.trans z4_ hk (.inl rfl)); have n2_ := Aside0.mk (hb); have n3_ := Aside0.mk (hi); clear HK; clear HB; clear HI0; have HO338 := n0_; have HK := n1_; have HB := n2_; have HI0 := n3_; clear n0_ n1_ n2_ n3_; (try clear hb); (try clear hb2); (try clear hk); (try clear hi); (try clear ho0); obtain ⟨Ao8, co8, eo8⟩ := Kd.R_slice HO338.out; subst eo8) | ((with_reducible refine gate_callee (f := 127) rfl ?_); refine goesL_ (some 17) rfl rfl Try.func127 (by kernel_rfl) rfl #[.slice Ao8 t336.length co8] rfl z5_ ?_; (with_reducible refine (spec_ZeroFind.calls k _ _ t336 t340 t341 _ ?side1 ?side2 A4.out).mono ?_); (case side1 => repeat (first | exact (Kd.R_reads' HO338.out).2.2 | (with_reducible refine Kd.C_alloc ?_ _) | (with_reducible refine Kd.C_drewN ?_ _) | (with_reducible refine Kd.C_drew ?_))); (case side2 => exact (Kd.R_reads' HO338.out).2.1); rintro e w9 ⟨v342, rfl, ho0, hb⟩; refine ⟨_, rfl, ?_⟩; have n0_ := Aside0.mk (Kd.R_elder' (by (with_reducible repeat (first | apply Kd.R_alloc | apply Kd.R_drewN | apply Kd.R_drew)); exact HO338.out) (Kd.R_base ho0) hb); have n1_ := Aside0.mk (Kd.R_lower (Kd.R_new' ho0 (Kd.R_lt (by (with_reducible repeat (first | apply Kd.R_alloc | apply Kd.R_drewN | apply Kd.R_drew)); exact HO338.out))) (keep_size (w := w) (g := g) (row := none) z4_)); have n2_ := Aside0.mk (IsS81.below z3_ hb); have n3_ := Aside0.mk (KeepBut.trans z4_ (KeepBut.of_below hb g none) (.inl rfl)); have n4_ := Aside0.mk (below_step z2_ hb); clear HO338; clear HI0; clear HK; clear HB; have HO338 := n0_; have HO343 := n1_; have HI0 := n2_; have HK := n3_; have HB := n4_; clear n0_ n1_ n2_ n3_ n4_; (try clear hb); (try clear hb2); (try clear hk); (try clear hi); (try clear ho0)))
 (try simp only [Act.put, List.setIfInBounds_toArray, List.set_cons_zero, List.set_cons_succ])
 go_cut [25] (fun v25 wc => ∃ (kq : Nat) (x25_4 : Bool) (x1001_4 : Int), v25 = .bool x25_4 ∧ Aside0 (spec_l92Zero.j0 kq t336 t340 x25_4 s0_0 x1001_4 = some (r1, r2, r3)) ∧ Aside0 (kq ≤ k) ∧ Aside0 (Kd.R (Kd.int .i64) 3 wc w.heap.size (fun k_ => some k_ ≠ (v342 : Value).ownBlock) (.slice Ao8 t336.length co8) t336) ∧ Aside0 (Kd.R (Kd.int .i64) 3 wc w.heap.size (fun k_ => some k_ ≠ ((.slice Ao8 t336.length co8) : Value).ownBlock) v342 t340) ∧ Aside0 (IsS81 w0 wc g s0_0 x1001_4) ∧ Aside0 (KeepBut w wc g none) ∧ Aside0 (Below w0.heap.size w0 wc))
 case first =>
  have H := HC5.out
  clear HC5
  by_cases c10 : t341 = true
  · subst c10
    have H1 : ((spec_l6Rd_pick.f k s0_0 t339 4).bind fun bt344 => (spec_l92Zero.j0 k t336 t340 (decide (bt344.1 > 0)) s0_0 bt344.2)) = some (r1, r2, r3) := by rw [if_pos rfl] at H; exact H
    clear H
    have H := H1
    clear H1
    replace H := Option.bind_eq_some_iff.mp H
    obtain ⟨⟨t344, t345⟩, A110, H⟩ := H
    replace H : (spec_l92Zero.j0 k t336 t340 (decide (t344 > 0)) s0_0 t345) = some (r1, r2, r3) := H
    have A11 := Aside0.mk A110
    clear A110
    have H' := Aside0.mk H
    clear H
    go_wp2_with (first | (go_at_call 68; (with_reducible refine (spec_l6Rd_pick.calls k g s0_0 t339 4 t344 t345 w0 _ ?side1 ?side2 A11.out).mono ?_); (case side1 => exact z3_); (case side2 => exact z2_); rintro e w12 ⟨rfl, hi, hb, hk⟩; have n0_ := Aside0.mk (Kd.R_mono (Kd.R_keep (IsS81.apart (show IsS81 w0 _ g s0_0 t339 from by repeat (first | (with_reducible first | exact HI0.out | apply IsS81.alloc | apply IsS81.drewN | apply IsS81.drew | apply IsS81.set_1) | exact HI0.out)) (by (with_reducible repeat (first | apply Kd.R_alloc | apply Kd.R_drewN | apply Kd.R_drew)); exact HO338.out) (by decide)) hk (fun _ h => h.2)) (fun _ h => h.1)); have n1_ := Aside0.mk (Kd.R_mono (Kd.R_keep (IsS81.apart (show IsS81 w0 _ g s0_0 t339 from by repeat (first | (with_reducible first | exact HI0.out | apply IsS81.alloc | apply IsS81.drewN | apply IsS81.drew | apply IsS81.set_1) | exact HI0.out)) (by (with_reducible repeat (first | apply Kd.R_alloc | apply Kd.R_drewN | apply Kd.R_drew)); exact HO343.out) (by decide)) hk (fun _ h => h.2)) (fun _ h => h.1)); have n2_ := Aside0.mk (KeepBut.trans z4_ hk (.inl rfl)); have n3_ := Aside0.mk (hb); have n4_ := Aside0.mk (hi); clear HO338; clear HO343; clear HK; clear HB; clear HI0; have HO338 := n0_; have HO343 := n1_; have HK := n2_; have HB := n3_; have HI0 := n4_; clear n0_ n1_ n2_ n3_ n4_; (try clear hb); (try clear hb2); (try clear hk); (try clear hi)))
    go_meet
    case rel => exact ⟨_, (decide (t344 > 0)), (t345), z23_, H', ⟨z24_⟩, ⟨by (with_reducible repeat (first | apply Kd.R_alloc | apply Kd.R_drewN | apply Kd.R_drew)); exact Kd.R_mono HO338.out (fun _ hk => hk.2)⟩, ⟨by (with_reducible repeat (first | apply Kd.R_alloc | apply Kd.R_drewN | apply Kd.R_drew)); exact Kd.R_mono HO343.out (fun _ hk => hk.2)⟩, ⟨z3_⟩, ⟨z4_⟩, ⟨z2_⟩⟩
  · replace c10 := Bool.eq_false_iff.mpr c10
    subst c10
    have H1 : (spec_l92Zero.j0 k t336 t340 false s0_0 t339) = some (r1, r2, r3) := by rw [if_neg (show ¬ (false = true) by decide)] at H; exact H
    clear H
    have H := H1
    clear H1
    have H' := Aside0.mk H
    clear H
    go_wp2
    go_meet
    case rel => exact ⟨_, (false), (t339), z23_, H', ⟨z24_⟩, ⟨by (with_reducible repeat (first | apply Kd.R_alloc | apply Kd.R_drewN | apply Kd.R_drew)); exact Kd.R_mono HO338.out (fun _ hk => hk.2)⟩, ⟨by (with_reducible repeat (first | apply Kd.R_alloc | apply Kd.R_drewN | apply Kd.R_drew)); exact Kd.R_mono HO343.out (fun _ hk => hk.2)⟩, ⟨z3_⟩, ⟨z4_⟩, ⟨z2_⟩⟩
 case rest =>
  clear HC5
  try clear c1
  try clear p2
  try clear c6
  try clear p6
  try clear c7
  try clear c10
  try clear c12
  obtain ⟨kq, x25_4, x1001_4, rfl, HA, HJ4, HO_4, HO_5, HI0, HK, HB⟩ := hcut
  cases kq with
  | zero => exact absurd HA.out (by simp [spec_l92Zero.j0])
  | succ kj4 =>
   have H := HA.out
   clear HA
   simp only [spec_l92Zero.j0] at H
   by_cases c13 : x25_4 = true
   · subst c13
     have H1 : ((some (([1, 2, (-1), (-3), 1] : List Int) : List Int)).bind fun y349 => ((spec_l6Rd_pick.f kj4 s0_0 x1001_4 5).bind fun bt352 => (if 0 ≤ bt352.1 then (if bt352.1 < (y349.length : Int) then (spec_l92Zero.l0 kj4 t336 t340 (([] : List Int)) (rd y349 bt352.1) 0 s0_0 bt352.2) else (none)) else (none)))) = some (r1, r2, r3) := by rw [if_pos rfl] at H; exact H
     clear H
     have H := H1
     clear H1
     obtain ⟨y346, hy346⟩ : ∃ y_ : List Int, y_ = (([] : List Int)) := ⟨_, rfl⟩
     replace H : ((some (([1, 2, (-1), (-3), 1] : List Int) : List Int)).bind fun y349 => ((spec_l6Rd_pick.f kj4 s0_0 x1001_4 5).bind fun bt352 => (if 0 ≤ bt352.1 then (if bt352.1 < (y349.length : Int) then (spec_l92Zero.l0 kj4 t336 t340 y346 (rd y349 bt352.1) 0 s0_0 bt352.2) else (none)) else (none)))) = some (r1, r2, r3) := by first | (rw [hy346]; with_reducible exact H) | (have H2_ := (Option.bind_some _ _).symm.trans H; rw [hy346]; with_reducible exact H2_) | (have H2_ := (Option.bind_some _ _).symm.trans H; with_reducible exact H2_) | with_reducible exact H | (rw [hy346]; exact H) | exact H
     have Ny346 := Aside0.mk hy346
     clear hy346
     obtain ⟨y349, hy349⟩ : ∃ y_ : List Int, y_ = (([1, 2, (-1), (-3), 1] : List Int)) := ⟨_, rfl⟩
     replace H : ((spec_l6Rd_pick.f kj4 s0_0 x1001_4 5).bind fun bt352 => (if 0 ≤ bt352.1 then (if bt352.1 < (y349.length : Int) then (spec_l92Zero.l0 kj4 t336 t340 y346 (rd y349 bt352.1) 0 s0_0 bt352.2) else (none)) else (none))) = some (r1, r2, r3) := by first | (rw [hy349]; with_reducible exact H) | (have H2_ := (Option.bind_some _ _).symm.trans H; rw [hy349]; with_reducible exact H2_) | (have H2_ := (Option.bind_some _ _).symm.trans H; with_reducible exact H2_) | with_reducible exact H | (rw [hy349]; exact H) | exact H
     have Ny349 := Aside0.mk hy349
     clear hy349
     replace H := Option.bind_eq_some_iff.mp H
     obtain ⟨⟨t352, t353⟩, A140, H⟩ := H
     replace H : (if 0 ≤ t352 then (if t352 < (y349.length : Int) then (spec_l92Zero.l0 kj4 t336 t340 y346 (rd y349 t352) 0 s0_0 t353) else (none)) else (none)) = some (r1, r2, r3) := H
     have A14 := Aside0.mk A140
     clear A140
     by_cases c15 : 0 ≤ t352
     · rw [if_pos c15] at H
       have c15b0 : decide (0 ≤ t352) = true := decide_eq_true c15
       clear c15
       by_cases c16 : t352 < (y349.length : Int)
       · rw [if_pos c16] at H
         have c16b0 : decide (t352 < (y349.length : Int)) = true := decide_eq_true c16
         clear c16
         have H' := Aside0.mk H
         clear H
         go_wp2_with (first | ((with_reducible refine gate_dst (N := 26) rfl ?_); refine Kd.R_lit (Kd.int .i64) _ 3 ?hg (N := 26) ?hd (xs := ([] : List Int)) (inner := []) (ok := fun _ => True) (okp := fun _ => True) ?hr ?hp (fun _ hk => hk) trivial (Below.refl _ _) (Nat.le_refl _) (by simp) ?_; (case hd => rfl); (case hg => rfl); (case hr => first | (go_simp; done) | (go_simp; rfl)); (case hp => exact (Reps.none _ _)); intro v347 w17 ho18 hb hg_ hnew_; clear hg_ hnew_; (first | rw [← Ny346.out] at ho18 | (simp only [Int.reduceToNat] at ho18; rw [← Ny346.out] at ho18)); have n0_ := Aside0.mk (Kd.R_elder' z18_ (Kd.R_base ho18) hb); have n1_ := Aside0.mk (Kd.R_elder' z16_ (Kd.R_base ho18) hb); have n2_ := Aside0.mk (Kd.R_lower (Kd.R_new' (Kd.R_new' ho18 (Kd.R_lt z18_)) (Kd.R_lt z16_)) (keep_size (w := w) (g := g) (row := none) z4_)); have n3_ := Aside0.mk (IsS81.below z3_ hb); have n4_ := Aside0.mk (KeepBut.trans z4_ (KeepBut.of_below hb g none) (.inl rfl)); have n5_ := Aside0.mk (below_step z2_ hb); clear HO_4; clear HO_5; clear HI0; clear HK; clear HB; have HO_4 := n0_; have HO_5 := n1_; have HO348 := n2_; have HI0 := n3_; have HK := n4_; have HB := n5_; clear n0_ n1_ n2_ n3_ n4_ n5_; clear hb ho18) | ((with_reducible refine gate_dst (N := 27) rfl ?_); refine Kd.R_lit (Kd.int .i64) _ 3 ?hg (N := 27) ?hd (xs := ([1, 2, (-1), (-3), 1] : List Int)) (inner := [.int .i64 1, .int .i64 2, .int .i64 (-1), .int .i64 (-3), .int .i64 1]) (ok := fun _ => True) (okp := fun _ => True) ?hr ?hp (fun _ hk => hk) trivial (Below.refl _ _) (Nat.le_refl _) (by simp) ?_; (case hd => rfl); (case hg => rfl); (case hr => first | (go_simp; done) | (go_simp; rfl)); (case hp => exact (Reps.one (show Kd.M (Kd.int .i64) _ _ _ 1 [.int .i64 1] from rfl) (Reps.one (show Kd.M (Kd.int .i64) _ _ _ 2 [.int .i64 2] from rfl) (Reps.one (show Kd.M (Kd.int .i64) _ _ _ (-1) [.int .i64 (-1)] from rfl) (Reps.one (show Kd.M (Kd.int .i64) _ _ _ (-3) [.int .i64 (-3)] from rfl) (Reps.one (show Kd.M (Kd.int .i64) _ _ _ 1 [.int .i64 1] from rfl) (Reps.none _ _))))))); intro v350 w19 ho20 hb hg_ hnew_; clear hg_ hnew_; (first | rw [← Ny349.out] at ho20 | (simp only [Int.reduceToNat] at ho20; rw [← Ny349.out] at ho20)); have n0_ := Aside0.mk (Kd.R_elder' z18_ (Kd.R_base ho20) hb); have n1_ := Aside0.mk (Kd.R_elder' z16_ (Kd.R_base ho20) hb); have n2_ := Aside0.mk (Kd.R_elder' (by (with_reducible repeat (first | apply Kd.R_alloc | apply Kd.R_drewN | apply Kd.R_drew)); exact HO348.out) (Kd.R_base ho20) hb); have n3_ := Aside0.mk (Kd.R_lower (Kd.R_new' (Kd.R_new' (Kd.R_new' ho20 (Kd.R_lt z18_)) (Kd.R_lt z16_)) (Kd.R_lt (by (with_reducible repeat (first | apply Kd.R_alloc | apply Kd.R_drewN | apply Kd.R_drew)); exact HO348.out))) (keep_size (w := w) (g := g) (row := none) z4_)); have n4_ := Aside0.mk (IsS81.below z3_ hb); have n5_ := Aside0.mk (KeepBut.trans z4_ (KeepBut.of_below hb g none) (.inl rfl)); have n6_ := Aside0.mk (below_step z2_ hb); clear HO_4; clear HO_5; clear HO348; clear HI0; clear HK; clear HB; have HO_4 := n0_; have HO_5 := n1_; have HO348 := n2_; have HO351 := n3_; have HI0 := n4_; have HK := n5_; have HB := n6_; clear n0_ n1_ n2_ n3_ n4_ n5_ n6_; clear hb ho20) | ((with_reducible refine gate_callee (f := 68) rfl ?_); refine goesL_ (some 29) rfl rfl Try.func68 (by kernel_rfl) rfl #[.pointer (some ⟨g, 0, none⟩), .int .i64 5] rfl z5_ ?_; (with_reducible refine (spec_l6Rd_pick.calls kj4 g s0_0 x1001_4 5 t352 t353 w0 _ ?side1 ?side2 A14.out).mono ?_); (case side1 => exact z3_); (case side2 => exact z2_); rintro e w21 ⟨rfl, hi, hb, hk⟩; refine ⟨_, rfl, ?_⟩; have n0_ := Aside0.mk (Kd.R_mono (Kd.R_keep (IsS81.apart (show IsS81 w0 _ g s0_0 x1001_4 from by repeat (first | (with_reducible first | exact HI0.out | apply IsS81.alloc | apply IsS81.drewN | apply IsS81.drew | apply IsS81.set_1) | exact HI0.out)) z18_ (by decide)) hk (fun _ h => h.2)) (fun _ h => h.1)); have n1_ := Aside0.mk (Kd.R_mono (Kd.R_keep (IsS81.apart (show IsS81 w0 _ g s0_0 x1001_4 from by repeat (first | (with_reducible first | exact HI0.out | apply IsS81.alloc | apply IsS81.drewN | apply IsS81.drew | apply IsS81.set_1) | exact HI0.out)) z16_ (by decide)) hk (fun _ h => h.2)) (fun _ h => h.1)); have n2_ := Aside0.mk (Kd.R_mono (Kd.R_keep (IsS81.apart (show IsS81 w0 _ g s0_0 x1001_4 from by repeat (first | (with_reducible first | exact HI0.out | apply IsS81.alloc | apply IsS81.drewN | apply IsS81.drew | apply IsS81.set_1) | exact HI0.out)) (by (with_reducible repeat (first | apply Kd.R_alloc | apply Kd.R_drewN | apply Kd.R_drew)); exact HO348.out) (by decide)) hk (fun _ h => h.2)) (fun _ h => h.1)); have n3_ := Aside0.mk (Kd.R_mono (Kd.R_keep (IsS81.apart (show IsS81 w0 _ g s0_0 x1001_4 from by repeat (first | (with_reducible first | exact HI0.out | apply IsS81.alloc | apply IsS81.drewN | apply IsS81.drew | apply IsS81.set_1) | exact HI0.out)) (by (with_reducible repeat (first | apply Kd.R_alloc | apply Kd.R_drewN | apply Kd.R_drew)); exact HO351.out) (by decide)) hk (fun _ h => h.2)) (fun _ h => h.1)); have n4_ := Aside0.mk (KeepBut.trans z4_ hk (.inl rfl)); have n5_ := Aside0.mk (hb); have n6_ := Aside0.mk (hi); clear HO_4; clear HO_5; clear HO348; clear HO351; clear HK; clear HB; clear HI0; have HO_4 := n0_; have HO_5 := n1_; have HO348 := n2_; have HO351 := n3_; have HK := n4_; have HB := n5_; have HI0 := n6_; clear n0_ n1_ n2_ n3_ n4_ n5_ n6_; (try clear hb); (try clear hb2); (try clear hk); (try clear hi); obtain ⟨Ao22, co22, eo22⟩ := Kd.R_slice HO351.out; subst eo22; have p354 : 0 ≤ (t352 : Int) := of_decide_eq_true z22_; have q354 : t352 < (y349.length : Int) := of_decide_eq_true z22_; obtain ⟨ad354, e354, hx354_0⟩ := Kd.at_int (Kd.R_reads' HO351.out).2.2 t352 p354 q354; cases e354; replace p354 := eq_true p354; replace q354 := eq_true q354))
         go_loopg [7, 9] kj4 (fun kq v7 v9 w' => ∃ (x7_2 : List Int) (x9_2 : Int), v9 = .int .i64 x9_2 ∧ Aside0 (spec_l92Zero.l0 kq t336 t340 x7_2 (rd y349 t352) x9_2 s0_0 t353 = some (r1, r2, r3)) ∧ Aside0 (kq ≤ kj4) ∧ Aside0 (Kd.R (Kd.int .i64) 3 w' w.heap.size (fun k_ => some k_ ≠ (v342 : Value).ownBlock ∧ some k_ ≠ (v7 : Value).ownBlock) (.slice Ao8 t336.length co8) t336) ∧ Aside0 (Kd.R (Kd.int .i64) 3 w' w.heap.size (fun k_ => some k_ ≠ ((.slice Ao8 t336.length co8) : Value).ownBlock ∧ some k_ ≠ (v7 : Value).ownBlock) v342 t340) ∧ Aside0 (Kd.R (Kd.int .i64) 3 w' w.heap.size (fun k_ => some k_ ≠ ((.slice Ao8 t336.length co8) : Value).ownBlock ∧ some k_ ≠ (v342 : Value).ownBlock) v7 x7_2) ∧ Aside0 (IsS81 w0 w' g s0_0 t353) ∧ Aside0 (KeepBut w w' g none) ∧ Aside0 (Below w0.heap.size w0 w'))
         case atStart => exact ⟨(y346), (0), z23_, H', ⟨Nat.le_refl _⟩, ⟨by (with_reducible repeat (first | apply Kd.R_alloc | apply Kd.R_drewN | apply Kd.R_drew)); exact Kd.R_mono HO_4.out (fun _ hk => ⟨hk.1.1, hk.1.2⟩)⟩, ⟨by (with_reducible repeat (first | apply Kd.R_alloc | apply Kd.R_drewN | apply Kd.R_drew)); exact Kd.R_mono HO_5.out (fun _ hk => ⟨hk.1.1, hk.1.2⟩)⟩, ⟨by (with_reducible repeat (first | apply Kd.R_alloc | apply Kd.R_drewN | apply Kd.R_drew)); exact Kd.R_mono HO348.out (fun _ hk => ⟨hk.1.1.2, hk.1.2⟩)⟩, ⟨z3_⟩, ⟨z4_⟩, ⟨z2_⟩⟩
         case round =>
          clear H'
          try clear c1
          try clear p2
          try clear p3
          try clear q3
          try clear hx3
          try clear c6
          try clear p6
          try clear c7
          try clear c10
          try clear c12
          try clear c13
          try clear c15
          try clear c15b0
          try clear c16
          try clear c16b0
          try clear hx354_0
          try clear p2
          try clear p354
          try clear p6
          try clear q354
          obtain ⟨x7_2, x9_2, rfl, HA, HK2, HO_4, HO_5, HO_7, HI0, HK, HB⟩ := hrel
          cases gk with
          | zero => exact absurd HA.out (by simp [spec_l92Zero.l0])
          | succ k2 =>
           have H := HA.out
           clear HA
           simp only [spec_l92Zero.l0] at H
           by_cases c23 : x9_2 < (t340.length : Int)
           · rw [if_pos c23] at H
             have c23b0 : decide (x9_2 < (t340.length : Int)) = true := decide_eq_true c23
             clear c23
             by_cases c24 : 0 ≤ x9_2
             · rw [if_pos c24] at H
               have c24b0 : decide (0 ≤ x9_2) = true := decide_eq_true c24
               clear c24
               by_cases c25 : x7_2.length < 17592186044416
               · rw [if_pos c25] at H
                 have LMc25 := Aside0.mk c25
                 clear c25
                 obtain ⟨y356, hy356⟩ : ∃ y_ : List Int, y_ = (x7_2 ++ [wrap64 ((rd y349 t352) * (rd t340 x9_2))]) := ⟨_, rfl⟩
                 replace H : (spec_l92Zero.l0 k2 t336 t340 y356 (rd y349 t352) (wrap64 (x9_2 + 1)) s0_0 t353) = some (r1, r2, r3) := by first | (rw [hy356]; with_reducible exact H) | (have H2_ := (Option.bind_some _ _).symm.trans H; rw [hy356]; with_reducible exact H2_) | (have H2_ := (Option.bind_some _ _).symm.trans H; with_reducible exact H2_) | with_reducible exact H | (rw [hy356]; exact H) | exact H
                 have Ny356 := Aside0.mk hy356
                 clear hy356
                 have H' := Aside0.mk H
                 clear H
                 obtain ⟨Ao26, co26, eo26⟩ := Kd.R_slice HO_5.out
                 subst eo26
                 have p355 : 0 ≤ (x9_2 : Int) := of_decide_eq_true z22_
                 have q355 : x9_2 < (t340.length : Int) := of_decide_eq_true z22_
                 obtain ⟨ad355, e355, hx355_0⟩ := Kd.at_int (Kd.R_reads' HO_5.out).2.2 x9_2 p355 q355
                 cases e355
                 replace p355 := eq_true p355
                 replace q355 := eq_true q355
                 go_wp2_with (first | ((with_reducible refine gate_builtin (b := .append) (xs := #[.tmp 38, .tmp 45]) rfl ?_); at_builtin; refine Kd.R_append (Kd.int .i64) w.heap.size rfl (.tmp 38) (.tmp 45) 23 3 (.int .i64 0) 8 rfl Try.underlying23 info3 rfl (by decide) (by omega) u7 x7_2 (wrap64 ((rd y349 t352) * (rd t340 x9_2))) [.int .i64 (wrap64 ((rd y349 t352) * (rd t340 x9_2)))] (fun k_ => some k_ ≠ (.slice Ao8 t336.length co8 : Value).ownBlock ∧ some k_ ≠ (.slice (some ad355) t340.length co26 : Value).ownBlock) (fun _ => False) rfl rfl ?aP (fun _ hk => hk.elim) ?aF ?aO (Below.refl _ _) ?aS ?aL ?_; (case aP => exact rfl); (case aF => exact (fun k_ hk => ⟨Kd.fresh' (Kd.R_lt z18_) k_ hk, Kd.fresh' (Kd.R_lt z16_) k_ hk⟩)); (case aO => exact z19_); (case aS => exact (keep_size (w := w) (g := g) (row := none) z4_)); (case aL => have := LMc25.out; omega); intro v357 w27 ho hb hg hat; rw [← Ny356.out] at ho; have n0_ := Aside0.mk (Kd.R_after (ok := (fun k_ => some k_ ≠ (.slice (some ad355) t340.length co26 : Value).ownBlock)) z18_ hg hat); have n1_ := Aside0.mk (Kd.R_after (ok := (fun k_ => some k_ ≠ (.slice Ao8 t336.length co8 : Value).ownBlock)) z16_ hg hat); have n2_ := Aside0.mk (IsS81.grown z3_ hg (IsS81.own_ne HI0.out HO_7.out (by decide))); have n3_ := Aside0.mk (below_weaken z2_ HL.out hb); have n4_ := Aside0.mk (KeepBut.trans z4_ (KeepBut.of_grown hg g) (Kd.R_base2 HO_7.out)); have n5_ := Aside0.mk (ho); clear HO_4; clear HO_5; clear HI0; clear HB; clear HK; clear HO_7; have HO_4 := n0_; have HO_5 := n1_; have HI0 := n2_; have HB := n3_; have HK := n4_; have HO358 := n5_; clear n0_ n1_ n2_ n3_ n4_ n5_; clear ho hb hg hat))
                 go_roundg k2
                 case measure => have := HJ4.out; have := HK2.out; omega
                 case rel => exact ⟨(y356), (wrap64 (x9_2 + 1)), z23_, H', ⟨by have := HJ4.out; have := HK2.out; omega⟩, ⟨z18_⟩, ⟨z16_⟩, ⟨by (with_reducible repeat (first | apply Kd.R_alloc | apply Kd.R_drewN | apply Kd.R_drew)); exact HO358.out⟩, ⟨z3_⟩, ⟨z4_⟩, ⟨z2_⟩⟩
               · rw [if_neg c25] at H
                 exact absurd H (by simp)
             · rw [if_neg c24] at H
               exact absurd H (by simp)
           · rw [if_neg c23] at H
             have c23b0 : decide (x9_2 < (t340.length : Int)) = false := decide_eq_false c23
             clear c23
             simp only [Option.some.injEq, Prod.mk.injEq] at H
             obtain ⟨rfl, rfl, rfl⟩ := H
             obtain ⟨Ao28, co28, eo28⟩ := Kd.R_slice HO_5.out
             subst eo28
             go_wp2
             go_ret2
             exact ⟨_, _, z20_, by (with_reducible repeat (first | apply Kd.R_alloc | apply Kd.R_drewN | apply Kd.R_drew)); exact Kd.R_mono HO_4.out (fun _ hk => hk.2), by (with_reducible repeat (first | apply Kd.R_alloc | apply Kd.R_drewN | apply Kd.R_drew)); exact Kd.R_mono HO_7.out (fun _ hk => hk.1), z3_, z2_, z4_⟩
       · rw [if_neg c16] at H
         exact absurd H (by simp)
     · rw [if_neg c15] at H
       exact absurd H (by simp)
   · replace c13 := Bool.eq_false_iff.mpr c13
     subst c13
     have H1 : ((spec_l91Vector.f kj4 s0_0 x1001_4 t336 4).bind fun bt359 => (some (t336, bt359.1, bt359.2))) = some (r1, r2, r3) := by rw [if_neg (show ¬ (false = true) by decide)] at H; exact H
     clear H
     have H := H1
     clear H1
     replace H := Option.bind_eq_some_iff.mp H
     obtain ⟨⟨t359, t362⟩, A290, H⟩ := H
     replace H : (some (t336, t359, t362)) = some (r1, r2, r3) := H
     have A29 := Aside0.mk A290
     clear A290
     simp only [Option.some.injEq, Prod.mk.injEq] at H
     obtain ⟨rfl, rfl, rfl⟩ := H
     go_wp2_with (first | ((with_reducible refine gate_callee (f := 128) rfl ?_); refine goesL_ (some 52) rfl rfl Try.func128 (by kernel_rfl) rfl #[.pointer (some ⟨g, 0, none⟩), .slice Ao8 t336.length co8, .int .i64 4] rfl z5_ ?_; (with_reducible refine (spec_l91Vector.calls kj4 g s0_0 x1001_4 _ _ t336 4 t359 t362 w0 _ ?side1 ?side2 ?side3 ?side4 ?side5 A29.out).mono ?_); (case side1 => exact z3_); (case side2 => exact z2_); (case side3 => repeat (first | exact (Kd.R_reads' HO_4.out).2.2 | (with_reducible refine Kd.C_alloc ?_ _) | (with_reducible refine Kd.C_drewN ?_ _) | (with_reducible refine Kd.C_drew ?_))); (case side4 => exact (Kd.R_reads' HO_4.out).2.1); (case side5 => exact far_slice (IsS81.own_ne HI0.out HO_4.out (by decide))); rintro e w30 ⟨v360, rfl, ho0, hi, hb, hk⟩; refine ⟨_, rfl, ?_⟩; have n0_ := Aside0.mk (Kd.R_mono (Kd.R_told (Kd.R_oldK (IsS81.apart (show IsS81 w0 _ g s0_0 x1001_4 from by repeat (first | (with_reducible first | exact HI0.out | apply IsS81.alloc | apply IsS81.drewN | apply IsS81.drew | apply IsS81.set_1) | exact HI0.out)) z18_ (by decide)) hk) (Kd.R_base ho0)) (fun _ h_ => h_.1)); have n1_ := Aside0.mk (Kd.R_mono (Kd.R_told (Kd.R_oldK (IsS81.apart (show IsS81 w0 _ g s0_0 x1001_4 from by repeat (first | (with_reducible first | exact HI0.out | apply IsS81.alloc | apply IsS81.drewN | apply IsS81.drew | apply IsS81.set_1) | exact HI0.out)) z16_ (by decide)) hk) (Kd.R_base ho0)) (fun _ h_ => h_.1)); have n2_ := Aside0.mk (Kd.R_lower (Kd.R_new' (Kd.R_new' ho0 (Kd.R_lt z18_)) (Kd.R_lt z16_)) (keep_size (w := w) (g := g) (row := none) z4_)); have n3_ := Aside0.mk (KeepBut.trans z4_ hk (.inl rfl)); have n4_ := Aside0.mk (hb); have n5_ := Aside0.mk (hi); clear HO_4; clear HO_5; clear HK; clear HB; clear HI0; have HO_4 := n0_; have HO_5 := n1_; have HO361 := n2_; have HK := n3_; have HB := n4_; have HI0 := n5_; clear n0_ n1_ n2_ n3_ n4_ n5_; (try clear hb); (try clear hb2); (try clear hk); (try clear hi); (try clear ho0)))
     go_ret2
     exact ⟨_, _, z20_, by (with_reducible repeat (first | apply Kd.R_alloc | apply Kd.R_drewN | apply Kd.R_drew)); exact Kd.R_mono HO_4.out (fun _ hk => hk.2), by (with_reducible repeat (first | apply Kd.R_alloc | apply Kd.R_drewN | apply Kd.R_drew)); exact Kd.R_mono HO361.out (fun _ hk => hk.1.2), z3_, z2_, z4_⟩

/-! ### spec_DrawZeroHeight: function 46 -/
def spec_DrawZeroHeight.f (k : Nat) (l0 : List Int) : Option (List Int × List Int) := (spec_l6Open.f l0).bind fun bt363 => ((spec_l92Zero.f k bt363.1 bt363.2).bind fun bt366 => (some (bt366.1, bt366.2.1)))
theorem spec_DrawZeroHeight.mono : ∀ a0 k, LeO (spec_DrawZeroHeight.f k a0) (spec_DrawZeroHeight.f (k + 1) a0) := by
 intro a0 k
 unfold spec_DrawZeroHeight.f
 repeat' first
  | (with_reducible exact spec_l92Zero.mono _ _ _)
  | (with_reducible exact LeO.refl _)
  | (with_reducible exact LeO.none _)
  | (with_reducible refine LeO.ite ?_ ?_)
  | (with_reducible refine LeO.bind ?_ (fun _ => ?_))
  | exact spec_l92Zero.mono _ _ _
  | exact LeO.none _
  | refine LeO.ite ?_ ?_
  | refine LeO.bind ?_ (fun _ => ?_)
theorem spec_DrawZeroHeight.calls (k : Nat) (A0 : Option Addr) (c0 : Nat) (l0 : List Int) (r1 : List Int) (r2 : List Int) (w : World) (hr0 : Kd.C (Kd.int .u8) w A0 l0.length l0) (hc0 : l0.length ≤ c0) (h : spec_DrawZeroHeight.f k l0 = some (r1, r2)) :
 Calls Try.prog 46 #[.slice A0 l0.length c0] w fun e w' => ∃ v0_ v1_ : Value, e = .returned (.tuple #[v0_, v1_]) ∧ Kd.R (Kd.int .i64) 3 w' w.heap.size (fun k_ => some k_ ≠ (v1_ : Value).ownBlock) v0_ r1 ∧ Kd.R (Kd.int .i64) 3 w' w.heap.size (fun k_ => some k_ ≠ (v0_ : Value).ownBlock) v1_ r2 ∧ Below w.heap.size w w' := by
 have HR0 := Aside0.mk hr0
 have HC0 := Aside0.mk hc0
 clear hr0 hc0
 have HB := Aside0.mk (Below.refl w.heap.size w)
 have H : ((spec_l6Open.f l0).bind fun bt363 => ((spec_l92Zero.f k bt363.1 bt363.2).bind fun bt366 => (some (bt366.1, bt366.2.1)))) = some (r1, r2) := h
 clear h
 replace H := Option.bind_eq_some_iff.mp H
 obtain ⟨⟨t363, t364⟩, A20, H⟩ := H
 replace H : ((spec_l92Zero.f k t363 t364).bind fun bt366 => (some (bt366.1, bt366.2.1))) = some (r1, r2) := H
 have A2 := Aside0.mk A20
 clear A20
 replace H := Option.bind_eq_some_iff.mp H
 obtain ⟨⟨t366, t369, t372⟩, A30, H⟩ := H
 replace H : (some (t366, t369)) = some (r1, r2) := H
 have A3 := Aside0.mk A30
 clear A30
 simp only [Option.some.injEq, Prod.mk.injEq] at H
 obtain ⟨rfl, rfl⟩ := H
 go_enter Try.func46, Try.ntmps46
 go_wp2_with (first | ((with_reducible refine gate_callee (f := 56) rfl ?_); refine goesL_ (some 5) rfl rfl Try.func56 (by kernel_rfl) rfl #[.slice A0 l0.length c0] rfl z5_ ?_; (with_reducible refine (spec_l6Open.calls _ _ l0 t363 t364 w _ ?side1 ?side2 ?side3 A2.out).mono ?_); (case side1 => exact z7_); (case side2 => exact HR0.out); (case side3 => exact HC0.out); rintro e w4 ⟨g365, rfl, hi, hb, hb2⟩; refine ⟨_, rfl, ?_⟩; have n0_ := Aside0.mk (hb); have n1_ := Aside0.mk (hi); clear HB; have HB := n0_; have HI365 := n1_; clear n0_ n1_; (try clear hb); (try clear hb2); (try clear hk); (try clear hi)) | ((with_reducible refine gate_callee (f := 102) rfl ?_); refine goesL_ (some 6) rfl rfl Try.func102 (by kernel_rfl) rfl #[.pointer (some ⟨g365, 0, none⟩)] rfl z5_ ?_; (with_reducible refine (spec_l92Zero.calls k g365 t363 t364 t366 t369 t372 w _ ?side1 ?side2 A3.out).mono ?_); (case side1 => repeat (first | (with_reducible first | exact HI365.out | apply IsS81.alloc | apply IsS81.drewN | apply IsS81.drew | apply IsS81.set_1) | exact HI365.out)); (case side2 => exact z1_); rintro e w5 ⟨v367, v370, rfl, ho0, ho1, hi, hb, hk⟩; refine ⟨_, rfl, ?_⟩; have n0_ := Aside0.mk (Kd.R_lower ho0 (below_size z1_)); have n1_ := Aside0.mk (Kd.R_lower ho1 (below_size z1_)); have n2_ := Aside0.mk (hb); have n3_ := Aside0.mk (hi); clear HB; clear HI365; have HO368 := n0_; have HO371 := n1_; have HB := n2_; have HI365 := n3_; clear n0_ n1_ n2_ n3_; (try clear hb); (try clear hb2); (try clear hk); (try clear hi); (try clear ho0); (try clear ho1)))
 go_ret2
 exact ⟨_, _, z20_, by (with_reducible repeat (first | apply Kd.R_alloc | apply Kd.R_drewN | apply Kd.R_drew)); exact HO368.out, by (with_reducible repeat (first | apply Kd.R_alloc | apply Kd.R_drewN | apply Kd.R_drew)); exact HO371.out, z1_⟩

/-! ### impl_size: function 75 -/
def impl_size.f (a0 : Int) : Option (Int) := some (mx a0 (wrap64 (-a0)))
theorem impl_size.calls (a0 : Int) (r : Int) (w : World) (h : impl_size.f a0 = some r) :
 Calls Try.prog 75 #[.int .i64 a0] w fun e w' => e = .returned (.int .i64 r) ∧ Below w.heap.size w w' := by
 have HB := Aside0.mk (Below.refl w.heap.size w)
 have H : (some (mx a0 (wrap64 (-a0)))) = some r := h
 clear h
 obtain ⟨ji2, hji2⟩ : ∃ j_ : Int, (mx a0 (wrap64 (-a0))) = j_ := ⟨_, rfl⟩
 replace H : (some ji2) = some r := by first | (rw [hji2] at H; exact H) | (simp only [hji2] at H ⊢; exact H)
 have hji2_ : (if a0 < (wrap64 (-a0)) then (wrap64 (-a0)) else a0) = ji2 := hji2
 obtain rfl := Option.some.inj H
 go_enter Try.func75, Try.ntmps75
 go_wp2
 go_ret
 exact ⟨by first | rfl | (simp [errW_none, errW_some] <;> rfl) | (simp only [← hji2]; first | rfl | (simp [errW_none, errW_some] <;> rfl)) | (simp [*, errW_none, errW_some] <;> rfl), z7_⟩

/-! ### impl_FormValid: function 57 -/
def impl_FormValid.l0 : Nat → List Int → List Int → Int → Int → Option (Bool)
 | 0, _, _, _, _ => none
 | k + 1, x0, x5, x6, x7 => if x7 < x6 then (if 0 ≤ x7 then (if x7 < (x5.length : Int) then (if (rd x5 x7) = 0 then (some false) else ((impl_size.f (rd x5 x7)).bind fun t374 => (if t374 > 30 then (some false) else (impl_FormValid.l0 k x0 x5 x6 (wrap64 (x7 + 1)))))) else (none)) else (none)) else (if (x0.length : Int) ≥ 1 then (some (decide ((x0.length : Int) ≤ 4))) else (some false))
def impl_FormValid.f (k : Nat) (l0 : List Int) : Option (Bool) := impl_FormValid.l0 k l0 l0 (l0.length : Int) 0
theorem impl_FormValid.mono_l : ∀ k, (∀ y0 y1 y2 y3, LeO (impl_FormValid.l0 k y0 y1 y2 y3) (impl_FormValid.l0 (k + 1) y0 y1 y2 y3))
 | 0 => fun _ _ _ _ r h => by simp [impl_FormValid.l0] at h
 | k + 1 => by
  have ih0 := impl_FormValid.mono_l k
  · intro y0 y1 y2 y3
    unfold impl_FormValid.l0
    repeat' first
    | (with_reducible exact ih0 _ _ _ _)
    | (with_reducible exact LeO.refl _)
    | (with_reducible exact LeO.none _)
    | (with_reducible refine LeO.ite ?_ ?_)
    | (with_reducible refine LeO.bind ?_ (fun _ => ?_))
    | exact ih0 _ _ _ _
    | exact LeO.none _
    | refine LeO.ite ?_ ?_
    | refine LeO.bind ?_ (fun _ => ?_)
theorem impl_FormValid.mono : ∀ a0 k, LeO (impl_FormValid.f k a0) (impl_FormValid.f (k + 1) a0) := by
 intro a0 k
 have ih0 := impl_FormValid.mono_l k
 unfold impl_FormValid.f
 repeat' first
  | (with_reducible exact ih0 _ _ _ _)
  | (with_reducible exact LeO.refl _)
  | (with_reducible exact LeO.none _)
  | (with_reducible refine LeO.ite ?_ ?_)
  | (with_reducible refine LeO.bind ?_ (fun _ => ?_))
  | exact ih0 _ _ _ _
  | exact LeO.none _
  | refine LeO.ite ?_ ?_
  | refine LeO.bind ?_ (fun _ => ?_)
theorem impl_FormValid.calls (k : Nat) (A0 : Option Addr) (c0 : Nat) (l0 : List Int) (r : Bool) (w : World) (hr0 : Kd.C (Kd.int .i64) w A0 l0.length l0) (hc0 : l0.length ≤ c0) (h : impl_FormValid.f k l0 = some r) :
 Calls Try.prog 57 #[.slice A0 l0.length c0] w fun e w' => e = .returned (.bool r) ∧ Below w.heap.size w w' := by
 have HR0 := Aside0.mk hr0
 have HC0 := Aside0.mk hc0
 clear hr0 hc0
 have HB := Aside0.mk (Below.refl w.heap.size w)
 have H : (impl_FormValid.l0 k l0 l0 (l0.length : Int) 0) = some r := h
 clear h
 have H' := Aside0.mk H
 clear H
 go_enter Try.func57, Try.ntmps57
 go_wp2
 go_loopg [7] k (fun kq v7 w' => ∃ (x7_1 : Int), v7 = .int .i64 x7_1 ∧ Aside0 (impl_FormValid.l0 kq l0 l0 (l0.length : Int) x7_1 = some r) ∧ Aside0 (kq ≤ k) ∧ Aside0 (Below w.heap.size w w'))
 case atStart => exact ⟨(0), z23_, H', ⟨Nat.le_refl _⟩, ⟨z7_⟩⟩
 case round =>
  clear H'
  obtain ⟨x7_1, rfl, HA, HK1, HB⟩ := hrel
  cases gk with
  | zero => exact absurd HA.out (by simp [impl_FormValid.l0])
  | succ k1 =>
   have H := HA.out
   clear HA
   simp only [impl_FormValid.l0] at H
   by_cases c2 : x7_1 < (l0.length : Int)
   · rw [if_pos c2] at H
     have c2b0 : decide (x7_1 < (l0.length : Int)) = true := decide_eq_true c2
     clear c2
     by_cases c3 : 0 ≤ x7_1
     · rw [if_pos c3] at H
       have c3b0 : decide (0 ≤ x7_1) = true := decide_eq_true c3
       clear c3
       by_cases c4 : x7_1 < (l0.length : Int)
       · rw [if_pos c4] at H
         have c4b0 : decide (x7_1 < (l0.length : Int)) = true := decide_eq_true c4
         clear c4
         by_cases c5 : (rd l0 x7_1) = 0
         · rw [if_pos c5] at H
           have c5b0 : ((rd l0 x7_1) == 0) = true := beq_iff_eq.mpr c5
           have c5b1 : ((rd l0 x7_1) != 0) = false := bne_eq_false_iff_eq.mpr c5
           clear c5
           obtain rfl := Option.some.inj H
           have p373 : 0 ≤ (x7_1 : Int) := of_decide_eq_true z22_
           have q373 : x7_1 < (l0.length : Int) := of_decide_eq_true z22_
           obtain ⟨ad373, e373, hx373_0⟩ := Kd.at_int HR0.out x7_1 p373 q373
           cases e373
           replace hx373_0 := (HB.out.cell (World.block_lt_of_cell? w _ hx373_0)).trans hx373_0
           replace p373 := eq_true p373
           replace q373 := eq_true q373
           go_wp2
           go_ret
           exact ⟨z20_, z7_⟩
         · rw [if_neg c5] at H
           have c5b0 : ((rd l0 x7_1) == 0) = false := beq_eq_false_iff_ne.mpr c5
           have c5b1 : ((rd l0 x7_1) != 0) = true := bne_iff_ne.mpr c5
           replace H := Option.bind_eq_some_iff.mp H
           obtain ⟨t374, A60, H⟩ := H
           replace H : (if t374 > 30 then (some false) else (impl_FormValid.l0 k1 l0 l0 (l0.length : Int) (wrap64 (x7_1 + 1)))) = some r := H
           have A6 := Aside0.mk A60
           clear A60
           by_cases c7 : t374 > 30
           · rw [if_pos c7] at H
             have c7b0 : decide (30 < t374) = true := decide_eq_true c7
             clear c7
             obtain rfl := Option.some.inj H
             have p373 : 0 ≤ (x7_1 : Int) := of_decide_eq_true z22_
             have q373 : x7_1 < (l0.length : Int) := of_decide_eq_true z22_
             obtain ⟨ad373, e373, hx373_0⟩ := Kd.at_int HR0.out x7_1 p373 q373
             cases e373
             replace hx373_0 := (HB.out.cell (World.block_lt_of_cell? w _ hx373_0)).trans hx373_0
             replace p373 := eq_true p373
             replace q373 := eq_true q373
             go_wp2_with (first | (go_at_call 75; (with_reducible refine (impl_size.calls (rd l0 x7_1) t374 _ A6.out).mono ?_); rintro e w8 ⟨rfl, hb⟩; have n0_ := Aside0.mk (below_step z7_ hb); clear HB; have HB := n0_; clear n0_; (try clear hb); (try clear hb2); (try clear hk); (try clear hi)))
             go_ret
             exact ⟨z20_, z7_⟩
           · rw [if_neg c7] at H
             have c7b0 : decide (30 < t374) = false := decide_eq_false c7
             clear c7
             have H' := Aside0.mk H
             clear H
             have p373 : 0 ≤ (x7_1 : Int) := of_decide_eq_true z22_
             have q373 : x7_1 < (l0.length : Int) := of_decide_eq_true z22_
             obtain ⟨ad373, e373, hx373_0⟩ := Kd.at_int HR0.out x7_1 p373 q373
             cases e373
             replace hx373_0 := (HB.out.cell (World.block_lt_of_cell? w _ hx373_0)).trans hx373_0
             replace p373 := eq_true p373
             replace q373 := eq_true q373
             go_wp2_with (first | (go_at_call 75; (with_reducible refine (impl_size.calls (rd l0 x7_1) t374 _ A6.out).mono ?_); rintro e w9 ⟨rfl, hb⟩; have n0_ := Aside0.mk (below_step z7_ hb); clear HB; have HB := n0_; clear n0_; (try clear hb); (try clear hb2); (try clear hk); (try clear hi)))
             go_roundg k1
             case measure => have := HK1.out; omega
             case rel => exact ⟨(wrap64 (x7_1 + 1)), z23_, H', ⟨by have := HK1.out; omega⟩, ⟨z7_⟩⟩
       · rw [if_neg c4] at H
         exact absurd H (by simp)
     · rw [if_neg c3] at H
       exact absurd H (by simp)
   · rw [if_neg c2] at H
     have c2b0 : decide (x7_1 < (l0.length : Int)) = false := decide_eq_false c2
     clear c2
     by_cases c10 : (l0.length : Int) ≥ 1
     · rw [if_pos c10] at H
       have c10b0 : decide (1 ≤ (l0.length : Int)) = true := decide_eq_true c10
       have c10b1 : decide (1 ≤ l0.length) = true := decide_eq_true (by omega)
       clear c10
       obtain rfl := Option.some.inj H
       go_wp2
       go_ret
       exact ⟨z20_, z7_⟩
     · rw [if_neg c10] at H
       have c10b0 : decide (1 ≤ (l0.length : Int)) = false := decide_eq_false c10
       have c10b1 : decide (1 ≤ l0.length) = false := decide_eq_false (by omega)
       clear c10
       obtain rfl := Option.some.inj H
       go_wp2
       go_ret
       exact ⟨z20_, z7_⟩

end Go.Proofs.Ytdeahlommlgceaa.PFnHeight

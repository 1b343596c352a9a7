-- Written by a program of this repo (wip/gen/gen.py) over the kit's print.
-- (slim)
import Derived.Test.YtdeahlommlgceaaPFnSearchx0
import Derived.Test.YtdeahlommlgceaaPFnSearchx3
import Derived.Test.YtdeahlommlgceaaPFnSearchx4
import Derived.Test.YtdeahlommlgceaaPFnSearchx5
import Derived.Test.YtdeahlommlgceaaPFnSearchx6
import Derived.Test.YtdeahlommlgceaaPFnSearchx7
namespace Go.Proofs.Ytdeahlommlgceaa.PFnSearch
open Go.RowKit Go.Proofs.YtdeahlommlgceaaW.PrintWords Go.Proofs.YtdeahlommlgceaaW.PrintLast Go.Proofs.YtdeahlommlgceaaW.PrintMore
attribute [local go_sem] max2_int min2_int max_two min_two max_three min_three max_four min_four   -- for this text's walks alone
set_option linter.unusedVariables false
set_option maxHeartbeats 8000000
set_option maxRecDepth 100000
set_option linter.unusedSimpArgs false

/-! ### spec_DrawZeroSearch: function 34 -/
def spec_DrawZeroSearch.f (k : Nat) (l0 : List Int) : Option (List Int) := (spec_l6Open.f l0).bind fun bt295 => ((spec_l92Form.f k bt295.1 bt295.2 3).bind fun bt298 => ((spec_ZeroNormal.f k bt298.1).bind fun bt302 => (if bt302.2.2 = true then ((spec_l6Rd_pick.f k bt295.1 bt298.2 6).bind fun bt309 => (if bt309.1 > 0 then (some bt302.1) else (some bt298.1))) else (some bt298.1))))
theorem spec_DrawZeroSearch.mono : ∀ a0 k, LeO (spec_DrawZeroSearch.f k a0) (spec_DrawZeroSearch.f (k + 1) a0) := by
 intro a0 k
 unfold spec_DrawZeroSearch.f
 repeat' first
  | (with_reducible exact spec_ZeroNormal.mono _ _)
  | (with_reducible exact spec_l6Rd_pick.mono _ _ _ _)
  | (with_reducible exact spec_l92Form.mono _ _ _ _)
  | (with_reducible exact LeO.refl _)
  | (with_reducible exact LeO.none _)
  | (with_reducible refine LeO.ite ?_ ?_)
  | (with_reducible refine LeO.bind ?_ (fun _ => ?_))
  | exact spec_ZeroNormal.mono _ _
  | exact spec_l6Rd_pick.mono _ _ _ _
  | exact spec_l92Form.mono _ _ _ _
  | exact LeO.none _
  | refine LeO.ite ?_ ?_
  | refine LeO.bind ?_ (fun _ => ?_)
theorem spec_DrawZeroSearch.calls (k : Nat) (A0 : Option Addr) (c0 : Nat) (l0 : List Int) (r : List Int) (w : World) (hr0 : Kd.C (Kd.int .u8) w A0 l0.length l0) (hc0 : l0.length ≤ c0) (h : spec_DrawZeroSearch.f k l0 = some r) :
 Calls Try.prog 34 #[.slice A0 l0.length c0] w fun e w' => ∃ v0_ : Value, e = .returned (v0_) ∧ Kd.R (Kd.int .i64) 3 w' w.heap.size (fun _ => True) v0_ r ∧ Below w.heap.size w w' := by
 have HR0 := Aside0.mk hr0
 have HC0 := Aside0.mk hc0
 clear hr0 hc0
 have HB := Aside0.mk (Below.refl w.heap.size w)
 have H : ((spec_l6Open.f l0).bind fun bt295 => ((spec_l92Form.f k bt295.1 bt295.2 3).bind fun bt298 => ((spec_ZeroNormal.f k bt298.1).bind fun bt302 => (if bt302.2.2 = true then ((spec_l6Rd_pick.f k bt295.1 bt298.2 6).bind fun bt309 => (if bt309.1 > 0 then (some bt302.1) else (some bt298.1))) else (some bt298.1))))) = some r := h
 clear h
 replace H := Option.bind_eq_some_iff.mp H
 obtain ⟨⟨t295, t296⟩, A20, H⟩ := H
 replace H : ((spec_l92Form.f k t295 t296 3).bind fun bt298 => ((spec_ZeroNormal.f k bt298.1).bind fun bt302 => (if bt302.2.2 = true then ((spec_l6Rd_pick.f k t295 bt298.2 6).bind fun bt309 => (if bt309.1 > 0 then (some bt302.1) else (some bt298.1))) else (some bt298.1)))) = some r := H
 have A2 := Aside0.mk A20
 clear A20
 replace H := Option.bind_eq_some_iff.mp H
 obtain ⟨⟨t298, t301⟩, A30, H⟩ := H
 replace H : ((spec_ZeroNormal.f k t298).bind fun bt302 => (if bt302.2.2 = true then ((spec_l6Rd_pick.f k t295 t301 6).bind fun bt309 => (if bt309.1 > 0 then (some bt302.1) else (some t298))) else (some t298))) = some r := H
 have A3 := Aside0.mk A30
 clear A30
 replace H := Option.bind_eq_some_iff.mp H
 obtain ⟨⟨t302, t303, t304⟩, A40, H⟩ := H
 replace H : (if t304 = true then ((spec_l6Rd_pick.f k t295 t301 6).bind fun bt309 => (if bt309.1 > 0 then (some t302) else (some t298))) else (some t298)) = some r := H
 have A4 := Aside0.mk A40
 clear A40
 by_cases c5 : t304 = true
 · subst c5
   have H1 : ((spec_l6Rd_pick.f k t295 t301 6).bind fun bt309 => (if bt309.1 > 0 then (some t302) else (some t298))) = some r := by rw [if_pos rfl] at H; exact H
   clear H
   have H := H1
   clear H1
   replace H := Option.bind_eq_some_iff.mp H
   obtain ⟨⟨t309, t310⟩, A60, H⟩ := H
   replace H : (if t309 > 0 then (some t302) else (some t298)) = some r := H
   have A6 := Aside0.mk A60
   clear A60
   by_cases c7 : t309 > 0
   · rw [if_pos c7] at H
     have c7b0 : decide (0 < t309) = true := decide_eq_true c7
     clear c7
     obtain rfl := Option.some.inj H
     go_enter Try.func34, Try.ntmps34
     go_wp2_with (first | ((with_reducible refine gate_callee (f := 56) rfl ?_); refine goesL_ (some 9) rfl rfl Try.func56 (by kernel_rfl) rfl #[.slice A0 l0.length c0] rfl z8_ ?_; (with_reducible refine (spec_l6Open.calls _ _ l0 t295 t296 w _ ?side1 ?side2 ?side3 A2.out).mono ?_); (case side1 => exact z10_); (case side2 => exact HR0.out); (case side3 => exact HC0.out); rintro e w8 ⟨g297, rfl, hi, hb, hb2⟩; refine ⟨_, rfl, ?_⟩; have n0_ := Aside0.mk (hb); have n1_ := Aside0.mk (hi); clear HB; have HB := n0_; have HI297 := n1_; clear n0_ n1_; (try clear hb); (try clear hb2); (try clear hk); (try clear hi)) | ((with_reducible refine gate_callee (f := 70) rfl ?_); refine goesL_ (some 11) rfl rfl Try.func70 (by kernel_rfl) rfl #[.pointer (some ⟨g297, 0, none⟩), .int .i64 3] rfl z8_ ?_; (with_reducible refine (spec_l92Form.calls k g297 t295 t296 3 t298 t301 w _ ?side1 ?side2 A3.out).mono ?_); (case side1 => exact z4_); (case side2 => exact z1_); rintro e w9 ⟨v299, rfl, ho0, hi, hb, hk⟩; refine ⟨_, rfl, ?_⟩; have n0_ := Aside0.mk (Kd.R_lower ho0 (below_size z1_)); have n1_ := Aside0.mk (hb); have n2_ := Aside0.mk (hi); clear HB; clear HI297; have HO300 := n0_; have HB := n1_; have HI297 := n2_; clear n0_ n1_ n2_; (try clear hb); (try clear hb2); (try clear hk); (try clear hi); (try clear ho0); obtain ⟨Ao10, co10, eo10⟩ := Kd.R_slice HO300.out; subst eo10) | ((with_reducible refine gate_callee (f := 21) rfl ?_); refine goesL_ (some 14) rfl rfl Try.func21 (by kernel_rfl) rfl #[.slice Ao10 t298.length co10] rfl z8_ ?_; (with_reducible refine (spec_ZeroNormal.calls k _ _ t298 t302 t303 true _ ?side1 ?side2 A4.out).mono ?_); (case side1 => repeat (first | exact (Kd.R_reads' HO300.out).2.2 | (with_reducible refine Kd.C_alloc ?_ _) | (with_reducible refine Kd.C_drewN ?_ _) | (with_reducible refine Kd.C_drew ?_))); (case side2 => exact (Kd.R_reads' HO300.out).2.1); rintro e w11 ⟨v305, v307, rfl, ho0, ho1, hb⟩; refine ⟨_, rfl, ?_⟩; have n0_ := Aside0.mk (Kd.R_mono (Kd.R_told (Kd.R_told (Kd.R_old z15_ hb) (Kd.R_base ho0)) (Kd.R_base ho1)) (fun _ h_ => h_.1)); have n1_ := Aside0.mk (Kd.R_lower (Kd.R_new' ho0 (Kd.R_lt z15_)) (below_size z1_)); have n2_ := Aside0.mk (Kd.R_lower (Kd.R_new' ho1 (Kd.R_lt z15_)) (below_size z1_)); have n3_ := Aside0.mk (IsS81.below z4_ hb); have n4_ := Aside0.mk (below_step z1_ hb); clear HO300; clear HI297; clear HB; have HO300 := n0_; have HO306 := n1_; have HO308 := n2_; have HI297 := n3_; have HB := n4_; clear n0_ n1_ n2_ n3_ n4_; (try clear hb); (try clear hb2); (try clear hk); (try clear hi); (try clear ho0); (try clear ho1)) | (go_at_call 68; (with_reducible refine (spec_l6Rd_pick.calls k g297 t295 t301 6 t309 t310 w _ ?side1 ?side2 A6.out).mono ?_); (case side1 => exact z4_); (case side2 => exact z1_); rintro e w12 ⟨rfl, hi, hb, hk⟩; have n0_ := Aside0.mk (Kd.R_mono (Kd.R_keep (IsS81.apart (show IsS81 w _ g297 t295 t301 from by repeat (first | (with_reducible first | exact HI297.out | apply IsS81.alloc | apply IsS81.drewN | apply IsS81.drew | apply IsS81.set_1) | exact HI297.out)) z15_ (by decide)) hk (fun _ h => h.2)) (fun _ h => h.1)); have n1_ := Aside0.mk (Kd.R_mono (Kd.R_keep (IsS81.apart (show IsS81 w _ g297 t295 t301 from by repeat (first | (with_reducible first | exact HI297.out | apply IsS81.alloc | apply IsS81.drewN | apply IsS81.drew | apply IsS81.set_1) | exact HI297.out)) (by (with_reducible repeat (first | apply Kd.R_alloc | apply Kd.R_drewN | apply Kd.R_drew)); exact HO306.out) (by decide)) hk (fun _ h => h.2)) (fun _ h => h.1)); have n2_ := Aside0.mk (Kd.R_mono (Kd.R_keep (IsS81.apart (show IsS81 w _ g297 t295 t301 from by repeat (first | (with_reducible first | exact HI297.out | apply IsS81.alloc | apply IsS81.drewN | apply IsS81.drew | apply IsS81.set_1) | exact HI297.out)) (by (with_reducible repeat (first | apply Kd.R_alloc | apply Kd.R_drewN | apply Kd.R_drew)); exact HO308.out) (by decide)) hk (fun _ h => h.2)) (fun _ h => h.1)); have n3_ := Aside0.mk (hb); have n4_ := Aside0.mk (hi); clear HO300; clear HO306; clear HO308; clear HB; clear HI297; have HO300 := n0_; have HO306 := n1_; have HO308 := n2_; have HB := n3_; have HI297 := n4_; clear n0_ n1_ n2_ n3_ n4_; (try clear hb); (try clear hb2); (try clear hk); (try clear hi)))
     go_ret
     exact ⟨_, z19_, by (with_reducible repeat (first | apply Kd.R_alloc | apply Kd.R_drewN | apply Kd.R_drew)); exact Kd.R_mono HO306.out (fun _ hk => trivial), z1_⟩
   · rw [if_neg c7] at H
     have c7b0 : decide (0 < t309) = false := decide_eq_false c7
     clear c7
     obtain rfl := Option.some.inj H
     go_enter Try.func34, Try.ntmps34
     go_wp2_with (first | ((with_reducible refine gate_callee (f := 56) rfl ?_); refine goesL_ (some 9) rfl rfl Try.func56 (by kernel_rfl) rfl #[.slice A0 l0.length c0] rfl z8_ ?_; (with_reducible refine (spec_l6Open.calls _ _ l0 t295 t296 w _ ?side1 ?side2 ?side3 A2.out).mono ?_); (case side1 => exact z10_); (case side2 => exact HR0.out); (case side3 => exact HC0.out); rintro e w13 ⟨g297, rfl, hi, hb, hb2⟩; refine ⟨_, rfl, ?_⟩; have n0_ := Aside0.mk (hb); have n1_ := Aside0.mk (hi); clear HB; have HB := n0_; have HI297 := n1_; clear n0_ n1_; (try clear hb); (try clear hb2); (try clear hk); (try clear hi)) | ((with_reducible refine gate_callee (f := 70) rfl ?_); refine goesL_ (some 11) rfl rfl Try.func70 (by kernel_rfl) rfl #[.pointer (some ⟨g297, 0, none⟩), .int .i64 3] rfl z8_ ?_; (with_reducible refine (spec_l92Form.calls k g297 t295 t296 3 t298 t301 w _ ?side1 ?side2 A3.out).mono ?_); (case side1 => exact z4_); (case side2 => exact z1_); rintro e w14 ⟨v299, rfl, ho0, hi, hb, hk⟩; refine ⟨_, rfl, ?_⟩; have n0_ := Aside0.mk (Kd.R_lower ho0 (below_size z1_)); have n1_ := Aside0.mk (hb); have n2_ := Aside0.mk (hi); clear HB; clear HI297; have HO300 := n0_; have HB := n1_; have HI297 := n2_; clear n0_ n1_ n2_; (try clear hb); (try clear hb2); (try clear hk); (try clear hi); (try clear ho0); obtain ⟨Ao15, co15, eo15⟩ := Kd.R_slice HO300.out; subst eo15) | ((with_reducible refine gate_callee (f := 21) rfl ?_); refine goesL_ (some 14) rfl rfl Try.func21 (by kernel_rfl) rfl #[.slice Ao15 t298.length co15] rfl z8_ ?_; (with_reducible refine (spec_ZeroNormal.calls k _ _ t298 t302 t303 true _ ?side1 ?side2 A4.out).mono ?_); (case side1 => repeat (first | exact (Kd.R_reads' HO300.out).2.2 | (with_reducible refine Kd.C_alloc ?_ _) | (with_reducible refine Kd.C_drewN ?_ _) | (with_reducible refine Kd.C_drew ?_))); (case side2 => exact (Kd.R_reads' HO300.out).2.1); rintro e w16 ⟨v305, v307, rfl, ho0, ho1, hb⟩; refine ⟨_, rfl, ?_⟩; have n0_ := Aside0.mk (Kd.R_mono (Kd.R_told (Kd.R_told (Kd.R_old z15_ hb) (Kd.R_base ho0)) (Kd.R_base ho1)) (fun _ h_ => h_.1)); have n1_ := Aside0.mk (Kd.R_lower (Kd.R_new' ho0 (Kd.R_lt z15_)) (below_size z1_)); have n2_ := Aside0.mk (Kd.R_lower (Kd.R_new' ho1 (Kd.R_lt z15_)) (below_size z1_)); have n3_ := Aside0.mk (IsS81.below z4_ hb); have n4_ := Aside0.mk (below_step z1_ hb); clear HO300; clear HI297; clear HB; have HO300 := n0_; have HO306 := n1_; have HO308 := n2_; have HI297 := n3_; have HB := n4_; clear n0_ n1_ n2_ n3_ n4_; (try clear hb); (try clear hb2); (try clear hk); (try clear hi); (try clear ho0); (try clear ho1)) | (go_at_call 68; (with_reducible refine (spec_l6Rd_pick.calls k g297 t295 t301 6 t309 t310 w _ ?side1 ?side2 A6.out).mono ?_); (case side1 => exact z4_); (case side2 => exact z1_); rintro e w17 ⟨rfl, hi, hb, hk⟩; have n0_ := Aside0.mk (Kd.R_mono (Kd.R_keep (IsS81.apart (show IsS81 w _ g297 t295 t301 from by repeat (first | (with_reducible first | exact HI297.out | apply IsS81.alloc | apply IsS81.drewN | apply IsS81.drew | apply IsS81.set_1) | exact HI297.out)) z15_ (by decide)) hk (fun _ h => h.2)) (fun _ h => h.1)); have n1_ := Aside0.mk (Kd.R_mono (Kd.R_keep (IsS81.apart (show IsS81 w _ g297 t295 t301 from by repeat (first | (with_reducible first | exact HI297.out | apply IsS81.alloc | apply IsS81.drewN | apply IsS81.drew | apply IsS81.set_1) | exact HI297.out)) (by (with_reducible repeat (first | apply Kd.R_alloc | apply Kd.R_drewN | apply Kd.R_drew)); exact HO306.out) (by decide)) hk (fun _ h => h.2)) (fun _ h => h.1)); have n2_ := Aside0.mk (Kd.R_mono (Kd.R_keep (IsS81.apart (show IsS81 w _ g297 t295 t301 from by repeat (first | (with_reducible first | exact HI297.out | apply IsS81.alloc | apply IsS81.drewN | apply IsS81.drew | apply IsS81.set_1) | exact HI297.out)) (by (with_reducible repeat (first | apply Kd.R_alloc | apply Kd.R_drewN | apply Kd.R_drew)); exact HO308.out) (by decide)) hk (fun _ h => h.2)) (fun _ h => h.1)); have n3_ := Aside0.mk (hb); have n4_ := Aside0.mk (hi); clear HO300; clear HO306; clear HO308; clear HB; clear HI297; have HO300 := n0_; have HO306 := n1_; have HO308 := n2_; have HB := n3_; have HI297 := n4_; clear n0_ n1_ n2_ n3_ n4_; (try clear hb); (try clear hb2); (try clear hk); (try clear hi)))
     go_ret
     exact ⟨_, z19_, by (with_reducible repeat (first | apply Kd.R_alloc | apply Kd.R_drewN | apply Kd.R_drew)); exact Kd.R_mono HO300.out (fun _ hk => trivial), z1_⟩
 · replace c5 := Bool.eq_false_iff.mpr c5
   subst c5
   have H1 : (some t298) = some r := by rw [if_neg (show ¬ (false = true) by decide)] at H; exact H
   clear H
   have H := H1
   clear H1
   obtain rfl := Option.some.inj H
   go_enter Try.func34, Try.ntmps34
   go_wp2_with (first | ((with_reducible refine gate_callee (f := 56) rfl ?_); refine goesL_ (some 9) rfl rfl Try.func56 (by kernel_rfl) rfl #[.slice A0 l0.length c0] rfl z8_ ?_; (with_reducible refine (spec_l6Open.calls _ _ l0 t295 t296 w _ ?side1 ?side2 ?side3 A2.out).mono ?_); (case side1 => exact z10_); (case side2 => exact HR0.out); (case side3 => exact HC0.out); rintro e w18 ⟨g297, rfl, hi, hb, hb2⟩; refine ⟨_, rfl, ?_⟩; have n0_ := Aside0.mk (hb); have n1_ := Aside0.mk (hi); clear HB; have HB := n0_; have HI297 := n1_; clear n0_ n1_; (try clear hb); (try clear hb2); (try clear hk); (try clear hi)) | ((with_reducible refine gate_callee (f := 70) rfl ?_); refine goesL_ (some 11) rfl rfl Try.func70 (by kernel_rfl) rfl #[.pointer (some ⟨g297, 0, none⟩), .int .i64 3] rfl z8_ ?_; (with_reducible refine (spec_l92Form.calls k g297 t295 t296 3 t298 t301 w _ ?side1 ?side2 A3.out).mono ?_); (case side1 => exact z4_); (case side2 => exact z1_); rintro e w19 ⟨v299, rfl, ho0, hi, hb, hk⟩; refine ⟨_, rfl, ?_⟩; have n0_ := Aside0.mk (Kd.R_lower ho0 (below_size z1_)); have n1_ := Aside0.mk (hb); have n2_ := Aside0.mk (hi); clear HB; clear HI297; have HO300 := n0_; have HB := n1_; have HI297 := n2_; clear n0_ n1_ n2_; (try clear hb); (try clear hb2); (try clear hk); (try clear hi); (try clear ho0); obtain ⟨Ao20, co20, eo20⟩ := Kd.R_slice HO300.out; subst eo20) | ((with_reducible refine gate_callee (f := 21) rfl ?_); refine goesL_ (some 14) rfl rfl Try.func21 (by kernel_rfl) rfl #[.slice Ao20 t298.length co20] rfl z8_ ?_; (with_reducible refine (spec_ZeroNormal.calls k _ _ t298 t302 t303 false _ ?side1 ?side2 A4.out).mono ?_); (case side1 => repeat (first | exact (Kd.R_reads' HO300.out).2.2 | (with_reducible refine Kd.C_alloc ?_ _) | (with_reducible refine Kd.C_drewN ?_ _) | (with_reducible refine Kd.C_drew ?_))); (case side2 => exact (Kd.R_reads' HO300.out).2.1); rintro e w21 ⟨v305, v307, rfl, ho0, ho1, hb⟩; refine ⟨_, rfl, ?_⟩; have n0_ := Aside0.mk (Kd.R_mono (Kd.R_told (Kd.R_told (Kd.R_old z15_ hb) (Kd.R_base ho0)) (Kd.R_base ho1)) (fun _ h_ => h_.1)); have n1_ := Aside0.mk (Kd.R_lower (Kd.R_new' ho0 (Kd.R_lt z15_)) (below_size z1_)); have n2_ := Aside0.mk (Kd.R_lower (Kd.R_new' ho1 (Kd.R_lt z15_)) (below_size z1_)); have n3_ := Aside0.mk (IsS81.below z4_ hb); have n4_ := Aside0.mk (below_step z1_ hb); clear HO300; clear HI297; clear HB; have HO300 := n0_; have HO306 := n1_; have HO308 := n2_; have HI297 := n3_; have HB := n4_; clear n0_ n1_ n2_ n3_ n4_; (try clear hb); (try clear hb2); (try clear hk); (try clear hi); (try clear ho0); (try clear ho1)))
   go_ret
   exact ⟨_, z19_, by (with_reducible repeat (first | apply Kd.R_alloc | apply Kd.R_drewN | apply Kd.R_drew)); exact Kd.R_mono HO300.out (fun _ hk => trivial), z1_⟩

/-! ### spec_l5Ok: function 87 -/
mutual
def spec_l5Ok.l0 : Nat → List Int → Int → Int → Option (Bool)
 | 0, _, _, _ => none
 | k + 1, x0, x3, x4 => if x4 < 3 then (if 0 ≤ x4 then (if x4 < (x0.length : Int) then (if (rd x0 x4) = 0 then (spec_l5Ok.j1 k x0 x3 x4 true) else ((spec_l6In.f (rd x0 x4) (-30000) 30000).bind fun t315 => (spec_l5Ok.j1 k x0 x3 x4 (!t315)))) else (none)) else (none)) else ((spec_l5Two.f k x0).bind fun bt311 => (some (bt311.1 == 1)))
def spec_l5Ok.j1 : Nat → List Int → Int → Int → Bool → Option (Bool)
 | 0, _, _, _, _ => none
 | k + 1, x0, x3, x4, x28 => if x28 = true then (some false) else (if 0 ≤ x4 then (if x4 < (x0.length : Int) then ((spec_l1Core.f k (rd x0 x4)).bind fun bt317 => (if bt317.2 > 1 then (some false) else ((spec_l1Size.f (wrap64 (x3 * (rd x0 x4)))).bind fun t320 => (if t320 > 30000 then (some false) else (spec_l5Ok.l0 k x0 (wrap64 (x3 * (rd x0 x4))) (wrap64 (x4 + 1))))))) else (none)) else (none))
end
def spec_l5Ok.f (k : Nat) (l0 : List Int) : Option (Bool) := if (l0.length : Int) = 3 then (spec_l5Ok.l0 k l0 1 0) else (some false)
theorem spec_l5Ok.mono_l : ∀ k, (∀ y0 y1 y2, LeO (spec_l5Ok.l0 k y0 y1 y2) (spec_l5Ok.l0 (k + 1) y0 y1 y2)) ∧ (∀ y0 y1 y2 y3, LeO (spec_l5Ok.j1 k y0 y1 y2 y3) (spec_l5Ok.j1 (k + 1) y0 y1 y2 y3))
 | 0 => ⟨fun _ _ _ r h => by simp [spec_l5Ok.l0] at h, fun _ _ _ _ r h => by simp [spec_l5Ok.j1] at h⟩
 | k + 1 => by
  obtain ⟨ih0, ih1⟩ := spec_l5Ok.mono_l k
  refine ⟨?_, ?_⟩
  · intro y0 y1 y2
    unfold spec_l5Ok.l0
    repeat' first
    | (with_reducible exact ih0 _ _ _)
    | (with_reducible exact ih1 _ _ _ _)
    | (with_reducible exact spec_l1Core.mono _ _)
    | (with_reducible exact spec_l5Two.mono _ _)
    | (with_reducible exact LeO.refl _)
    | (with_reducible exact LeO.none _)
    | (with_reducible refine LeO.ite ?_ ?_)
    | (with_reducible refine LeO.bind ?_ (fun _ => ?_))
    | exact ih0 _ _ _
    | exact ih1 _ _ _ _
    | exact spec_l1Core.mono _ _
    | exact spec_l5Two.mono _ _
    | exact LeO.none _
    | refine LeO.ite ?_ ?_
    | refine LeO.bind ?_ (fun _ => ?_)
  · intro y0 y1 y2 y3
    unfold spec_l5Ok.j1
    repeat' first
    | (with_reducible exact ih0 _ _ _)
    | (with_reducible exact ih1 _ _ _ _)
    | (with_reducible exact spec_l1Core.mono _ _)
    | (with_reducible exact spec_l5Two.mono _ _)
    | (with_reducible exact LeO.refl _)
    | (with_reducible exact LeO.none _)
    | (with_reducible refine LeO.ite ?_ ?_)
    | (with_reducible refine LeO.bind ?_ (fun _ => ?_))
    | exact ih0 _ _ _
    | exact ih1 _ _ _ _
    | exact spec_l1Core.mono _ _
    | exact spec_l5Two.mono _ _
    | exact LeO.none _
    | refine LeO.ite ?_ ?_
    | refine LeO.bind ?_ (fun _ => ?_)
theorem spec_l5Ok.mono : ∀ a0 k, LeO (spec_l5Ok.f k a0) (spec_l5Ok.f (k + 1) a0) := by
 intro a0 k
 obtain ⟨ih0, ih1⟩ := spec_l5Ok.mono_l k
 unfold spec_l5Ok.f
 repeat' first
  | (with_reducible exact ih0 _ _ _)
  | (with_reducible exact ih1 _ _ _ _)
  | (with_reducible exact spec_l1Core.mono _ _)
  | (with_reducible exact spec_l5Two.mono _ _)
  | (with_reducible exact LeO.refl _)
  | (with_reducible exact LeO.none _)
  | (with_reducible refine LeO.ite ?_ ?_)
  | (with_reducible refine LeO.bind ?_ (fun _ => ?_))
  | exact ih0 _ _ _
  | exact ih1 _ _ _ _
  | exact spec_l1Core.mono _ _
  | exact spec_l5Two.mono _ _
  | exact LeO.none _
  | refine LeO.ite ?_ ?_
  | refine LeO.bind ?_ (fun _ => ?_)
theorem spec_l5Ok.calls (k : Nat) (A0 : Option Addr) (c0 : Nat) (l0 : List Int) (r : Bool) (w : World) (hr0 : Kd.C (Kd.int .i64) w A0 l0.length l0) (hc0 : l0.length ≤ c0) (h : spec_l5Ok.f k l0 = some r) :
 Calls Try.prog 87 #[.slice A0 l0.length c0] w fun e w' => e = .returned (.bool r) ∧ Below w.heap.size w w' := by
 have HR0 := Aside0.mk hr0
 have HC0 := Aside0.mk hc0
 clear hr0 hc0
 have HB := Aside0.mk (Below.refl w.heap.size w)
 have H : (if (l0.length : Int) = 3 then (spec_l5Ok.l0 k l0 1 0) else (some false)) = some r := h
 clear h
 by_cases c2 : (l0.length : Int) = 3
 · rw [if_pos c2] at H
   have c2b0 : ((l0.length : Int) == 3) = true := beq_iff_eq.mpr c2
   have c2b1 : ((l0.length : Int) != 3) = false := bne_eq_false_iff_eq.mpr c2
   clear c2
   have H' := Aside0.mk H
   clear H
   go_enter Try.func87, Try.ntmps87
   go_wp2
   go_loopg [3, 4] k (fun kq v3 v4 w' => ∃ (x3_1 : Int) (x4_1 : Int), v3 = .int .i64 x3_1 ∧ v4 = .int .i64 x4_1 ∧ Aside0 (spec_l5Ok.l0 kq l0 x3_1 x4_1 = some r) ∧ Aside0 (kq ≤ k) ∧ Aside0 (Below w.heap.size w w'))
   case atStart => exact ⟨(1), (0), z22_, z22_, H', ⟨Nat.le_refl _⟩, ⟨z10_⟩⟩
   case round =>
    clear H'
    try clear c2
    try clear c2b0
    try clear c2b1
    try clear p2
    obtain ⟨x3_1, x4_1, rfl, rfl, HA, HK1, HB⟩ := hrel
    cases gk with
    | zero => exact absurd HA.out (by simp [spec_l5Ok.l0])
    | succ k1 =>
     have H := HA.out
     clear HA
     simp only [spec_l5Ok.l0] at H
     by_cases c3 : x4_1 < 3
     · rw [if_pos c3] at H
       have c3b0 : decide (x4_1 < 3) = true := decide_eq_true c3
       clear c3
       have HC4 := Aside0.mk H
       clear H
       go_upto_region 7 with (fail)
       go_cut [28] (fun v28 wc => ∃ (kq : Nat) (x28_3 : Bool), v28 = .bool x28_3 ∧ Aside0 (spec_l5Ok.j1 kq l0 x3_1 x4_1 x28_3 = some r) ∧ Aside0 (kq ≤ k1) ∧ Aside0 (Below w.heap.size w wc))
       case first =>
        have H := HC4.out
        clear HC4
        by_cases c5 : 0 ≤ x4_1
        · rw [if_pos c5] at H
          have c5b0 : decide (0 ≤ x4_1) = true := decide_eq_true c5
          clear c5
          (first | rw [c5b0] | (simp only [i64_w, i32_w]; rw [c5b0]) | skip)
          by_cases c6 : x4_1 < (l0.length : Int)
          · rw [if_pos c6] at H
            have c6b0 : decide (x4_1 < (l0.length : Int)) = true := decide_eq_true c6
            clear c6
            by_cases c7 : (rd l0 x4_1) = 0
            · rw [if_pos c7] at H
              have c7b0 : ((rd l0 x4_1) == 0) = true := beq_iff_eq.mpr c7
              have c7b1 : ((rd l0 x4_1) != 0) = false := bne_eq_false_iff_eq.mpr c7
              clear c7
              have H' := Aside0.mk H
              clear H
              have p313 : 0 ≤ (x4_1 : Int) := of_decide_eq_true z21_
              have q313 : x4_1 < (l0.length : Int) := of_decide_eq_true z21_
              obtain ⟨ad313, e313, hx313_0⟩ := Kd.at_int HR0.out x4_1 p313 q313
              cases e313
              replace hx313_0 := (HB.out.cell (World.block_lt_of_cell? w _ hx313_0)).trans hx313_0
              replace p313 := eq_true p313
              replace q313 := eq_true q313
              go_wp2
              go_meet
              case rel => exact ⟨_, (true), z22_, H', ⟨by have := HK1.out; first | omega | exact Nat.le_refl _⟩, ⟨z10_⟩⟩
            · rw [if_neg c7] at H
              have c7b0 : ((rd l0 x4_1) == 0) = false := beq_eq_false_iff_ne.mpr c7
              have c7b1 : ((rd l0 x4_1) != 0) = true := bne_iff_ne.mpr c7
              replace H := Option.bind_eq_some_iff.mp H
              obtain ⟨t315, A80, H⟩ := H
              replace H : (spec_l5Ok.j1 k1 l0 x3_1 x4_1 (!t315)) = some r := H
              have A8 := Aside0.mk A80
              clear A80
              have H' := Aside0.mk H
              clear H
              have p313 : 0 ≤ (x4_1 : Int) := of_decide_eq_true z21_
              have q313 : x4_1 < (l0.length : Int) := of_decide_eq_true z21_
              obtain ⟨ad313, e313, hx313_0⟩ := Kd.at_int HR0.out x4_1 p313 q313
              cases e313
              replace hx313_0 := (HB.out.cell (World.block_lt_of_cell? w _ hx313_0)).trans hx313_0
              replace p313 := eq_true p313
              replace q313 := eq_true q313
              have p314 : 0 ≤ (x4_1 : Int) := of_decide_eq_true z21_
              have q314 : x4_1 < (l0.length : Int) := of_decide_eq_true z21_
              obtain ⟨ad314, e314, hx314_0⟩ := Kd.at_int HR0.out x4_1 p314 q314
              obtain rfl : ad313 = ad314 := (by injection e314)
              replace hx314_0 := (HB.out.cell (World.block_lt_of_cell? w _ hx314_0)).trans hx314_0
              replace p314 := eq_true p314
              replace q314 := eq_true q314
              go_wp2_with (first | (go_at_call 94; (with_reducible refine (spec_l6In.calls (rd l0 x4_1) (-30000) 30000 t315 _ A8.out).mono ?_); rintro e w' ⟨rfl, ⟨nd, rfl⟩⟩))
              go_meet
              case rel => exact ⟨_, (!t315), z22_, H', ⟨by have := HK1.out; first | omega | exact Nat.le_refl _⟩, ⟨z10_⟩⟩
          · rw [if_neg c6] at H
            exact absurd H (by simp)
        · rw [if_neg c5] at H
          exact absurd H (by simp)
       case rest =>
        clear HC4
        try clear c2
        try clear c2b0
        try clear c2b1
        try clear p2
        try clear c3
        try clear c3b0
        try clear p3
        try clear q3
        try clear hx3
        try clear c5
        try clear c5b0
        try clear c6
        try clear c6b0
        try clear c7
        try clear c7b0
        try clear c7b1
        try clear c8
        try clear hx313_0
        try clear hx314_0
        try clear p2
        try clear p313
        try clear p314
        try clear q313
        try clear q314
        obtain ⟨kq, x28_3, rfl, HA, HJ3, HB⟩ := hcut
        cases kq with
        | zero => exact absurd HA.out (by simp [spec_l5Ok.j1])
        | succ kj3 =>
         have H := HA.out
         clear HA
         simp only [spec_l5Ok.j1] at H
         by_cases c9 : x28_3 = true
         · subst c9
           have H1 : (some false) = some r := by rw [if_pos rfl] at H; exact H
           clear H
           have H := H1
           clear H1
           obtain rfl := Option.some.inj H
           go_wp2
           go_ret
           exact ⟨z19_, z10_⟩
         · replace c9 := Bool.eq_false_iff.mpr c9
           subst c9
           have H1 : (if 0 ≤ x4_1 then (if x4_1 < (l0.length : Int) then ((spec_l1Core.f kj3 (rd l0 x4_1)).bind fun bt317 => (if bt317.2 > 1 then (some false) else ((spec_l1Size.f (wrap64 (x3_1 * (rd l0 x4_1)))).bind fun t320 => (if t320 > 30000 then (some false) else (spec_l5Ok.l0 kj3 l0 (wrap64 (x3_1 * (rd l0 x4_1))) (wrap64 (x4_1 + 1))))))) else (none)) else (none)) = some r := by rw [if_neg (show ¬ (false = true) by decide)] at H; exact H
           clear H
           have H := H1
           clear H1
           by_cases c10 : 0 ≤ x4_1
           · rw [if_pos c10] at H
             have c10b0 : decide (0 ≤ x4_1) = true := decide_eq_true c10
             clear c10
             by_cases c11 : x4_1 < (l0.length : Int)
             · rw [if_pos c11] at H
               have c11b0 : decide (x4_1 < (l0.length : Int)) = true := decide_eq_true c11
               clear c11
               replace H := Option.bind_eq_some_iff.mp H
               obtain ⟨⟨t317, t318⟩, A120, H⟩ := H
               replace H : (if t318 > 1 then (some false) else ((spec_l1Size.f (wrap64 (x3_1 * (rd l0 x4_1)))).bind fun t320 => (if t320 > 30000 then (some false) else (spec_l5Ok.l0 kj3 l0 (wrap64 (x3_1 * (rd l0 x4_1))) (wrap64 (x4_1 + 1)))))) = some r := H
               have A12 := Aside0.mk A120
               clear A120
               by_cases c13 : t318 > 1
               · rw [if_pos c13] at H
                 have c13b0 : decide (1 < t318) = true := decide_eq_true c13
                 clear c13
                 obtain rfl := Option.some.inj H
                 have p316 : 0 ≤ (x4_1 : Int) := of_decide_eq_true z21_
                 have q316 : x4_1 < (l0.length : Int) := of_decide_eq_true z21_
                 obtain ⟨ad316, e316, hx316_0⟩ := Kd.at_int HR0.out x4_1 p316 q316
                 cases e316
                 replace hx316_0 := (HB.out.cell (World.block_lt_of_cell? w _ hx316_0)).trans hx316_0
                 replace p316 := eq_true p316
                 replace q316 := eq_true q316
                 go_wp2_with (first | ((with_reducible refine gate_callee (f := 113) rfl ?_); refine goesL_ (some 34) rfl rfl Try.func113 (by kernel_rfl) rfl #[.int .i64 (rd l0 x4_1)] rfl z8_ ?_; (with_reducible refine (spec_l1Core.calls kj3 (rd l0 x4_1) t317 t318 _ A12.out).mono ?_); rintro e w14 ⟨rfl, hb⟩; refine ⟨_, rfl, ?_⟩; have n0_ := Aside0.mk (below_step z10_ hb); clear HB; have HB := n0_; clear n0_; (try clear hb); (try clear hb2); (try clear hk); (try clear hi)))
                 go_ret
                 exact ⟨z19_, z10_⟩
               · rw [if_neg c13] at H
                 have c13b0 : decide (1 < t318) = false := decide_eq_false c13
                 clear c13
                 replace H := Option.bind_eq_some_iff.mp H
                 obtain ⟨t320, A150, H⟩ := H
                 replace H : (if t320 > 30000 then (some false) else (spec_l5Ok.l0 kj3 l0 (wrap64 (x3_1 * (rd l0 x4_1))) (wrap64 (x4_1 + 1)))) = some r := H
                 have A15 := Aside0.mk A150
                 clear A150
                 by_cases c16 : t320 > 30000
                 · rw [if_pos c16] at H
                   have c16b0 : decide (30000 < t320) = true := decide_eq_true c16
                   clear c16
                   obtain rfl := Option.some.inj H
                   have p316 : 0 ≤ (x4_1 : Int) := of_decide_eq_true z21_
                   have q316 : x4_1 < (l0.length : Int) := of_decide_eq_true z21_
                   obtain ⟨ad316, e316, hx316_0⟩ := Kd.at_int HR0.out x4_1 p316 q316
                   cases e316
                   replace hx316_0 := (HB.out.cell (World.block_lt_of_cell? w _ hx316_0)).trans hx316_0
                   replace p316 := eq_true p316
                   replace q316 := eq_true q316
                   go_wp2_with (first | ((with_reducible refine gate_callee (f := 113) rfl ?_); refine goesL_ (some 34) rfl rfl Try.func113 (by kernel_rfl) rfl #[.int .i64 (rd l0 x4_1)] rfl z8_ ?_; (with_reducible refine (spec_l1Core.calls kj3 (rd l0 x4_1) t317 t318 _ A12.out).mono ?_); rintro e w17 ⟨rfl, hb⟩; refine ⟨_, rfl, ?_⟩; have n0_ := Aside0.mk (below_step z10_ hb); clear HB; have HB := n0_; clear n0_; (try clear hb); (try clear hb2); (try clear hk); (try clear hi); have p319 : 0 ≤ (x4_1 : Int) := of_decide_eq_true z21_; have q319 : x4_1 < (l0.length : Int) := of_decide_eq_true z21_; obtain ⟨ad319, e319, hx319_0⟩ := Kd.at_int HR0.out x4_1 p319 q319; obtain rfl : ad316 = ad319 := (by injection e319); replace hx319_0 := (HB.out.cell (World.block_lt_of_cell? w _ hx319_0)).trans hx319_0; replace p319 := eq_true p319; replace q319 := eq_true q319) | ((with_reducible refine gate_callee (f := 104) rfl ?_); refine goesL_ (some 46) rfl rfl Try.func104 (by kernel_rfl) rfl #[.int .i64 (wrap64 (x3_1 * (rd l0 x4_1)))] rfl z8_ ?_; (with_reducible refine (spec_l1Size.calls (wrap64 (x3_1 * (rd l0 x4_1))) t320 _ A15.out).mono ?_); rintro e w18 ⟨rfl, hb⟩; refine ⟨_, rfl, ?_⟩; have n0_ := Aside0.mk (below_step z10_ hb); clear HB; have HB := n0_; clear n0_; (try clear hb); (try clear hb2); (try clear hk); (try clear hi)))
                   go_ret
                   exact ⟨z19_, z10_⟩
                 · rw [if_neg c16] at H
                   have c16b0 : decide (30000 < t320) = false := decide_eq_false c16
                   clear c16
                   have H' := Aside0.mk H
                   clear H
                   have p316 : 0 ≤ (x4_1 : Int) := of_decide_eq_true z21_
                   have q316 : x4_1 < (l0.length : Int) := of_decide_eq_true z21_
                   obtain ⟨ad316, e316, hx316_0⟩ := Kd.at_int HR0.out x4_1 p316 q316
                   cases e316
                   replace hx316_0 := (HB.out.cell (World.block_lt_of_cell? w _ hx316_0)).trans hx316_0
                   replace p316 := eq_true p316
                   replace q316 := eq_true q316
                   go_wp2_with (first | ((with_reducible refine gate_callee (f := 113) rfl ?_); refine goesL_ (some 34) rfl rfl Try.func113 (by kernel_rfl) rfl #[.int .i64 (rd l0 x4_1)] rfl z8_ ?_; (with_reducible refine (spec_l1Core.calls kj3 (rd l0 x4_1) t317 t318 _ A12.out).mono ?_); rintro e w19 ⟨rfl, hb⟩; refine ⟨_, rfl, ?_⟩; have n0_ := Aside0.mk (below_step z10_ hb); clear HB; have HB := n0_; clear n0_; (try clear hb); (try clear hb2); (try clear hk); (try clear hi); have p319 : 0 ≤ (x4_1 : Int) := of_decide_eq_true z21_; have q319 : x4_1 < (l0.length : Int) := of_decide_eq_true z21_; obtain ⟨ad319, e319, hx319_0⟩ := Kd.at_int HR0.out x4_1 p319 q319; obtain rfl : ad316 = ad319 := (by injection e319); replace hx319_0 := (HB.out.cell (World.block_lt_of_cell? w _ hx319_0)).trans hx319_0; replace p319 := eq_true p319; replace q319 := eq_true q319) | ((with_reducible refine gate_callee (f := 104) rfl ?_); refine goesL_ (some 46) rfl rfl Try.func104 (by kernel_rfl) rfl #[.int .i64 (wrap64 (x3_1 * (rd l0 x4_1)))] rfl z8_ ?_; (with_reducible refine (spec_l1Size.calls (wrap64 (x3_1 * (rd l0 x4_1))) t320 _ A15.out).mono ?_); rintro e w20 ⟨rfl, hb⟩; refine ⟨_, rfl, ?_⟩; have n0_ := Aside0.mk (below_step z10_ hb); clear HB; have HB := n0_; clear n0_; (try clear hb); (try clear hb2); (try clear hk); (try clear hi)))
                   go_roundg kj3
                   case measure => have := HK1.out; have := HJ3.out; omega
                   case rel => exact ⟨(wrap64 (x3_1 * (rd l0 x4_1))), (wrap64 (x4_1 + 1)), z22_, z22_, H', ⟨by have := HK1.out; have := HJ3.out; omega⟩, ⟨z10_⟩⟩
             · rw [if_neg c11] at H
               exact absurd H (by simp)
           · rw [if_neg c10] at H
             exact absurd H (by simp)
     · rw [if_neg c3] at H
       have c3b0 : decide (x4_1 < 3) = false := decide_eq_false c3
       clear c3
       replace H := Option.bind_eq_some_iff.mp H
       obtain ⟨⟨t311, t312⟩, A210, H⟩ := H
       replace H : (some (t311 == 1)) = some r := H
       have A21 := Aside0.mk A210
       clear A210
       obtain rfl := Option.some.inj H
       go_wp2_with (first | ((with_reducible refine gate_callee (f := 117) rfl ?_); refine goesL_ (some 50) rfl rfl Try.func117 (by kernel_rfl) rfl #[.slice A0 l0.length c0] rfl z8_ ?_; (with_reducible refine (spec_l5Two.calls k1 _ _ l0 t311 t312 _ ?side1 ?side2 A21.out).mono ?_); (case side1 => repeat (first | exact (Kd.C_below HR0.out HB.out) | (with_reducible refine Kd.C_alloc ?_ _) | (with_reducible refine Kd.C_drewN ?_ _) | (with_reducible refine Kd.C_drew ?_))); (case side2 => exact HC0.out); rintro e w22 ⟨rfl, hb⟩; refine ⟨_, rfl, ?_⟩; have n0_ := Aside0.mk (below_step z10_ hb); clear HB; have HB := n0_; clear n0_; (try clear hb); (try clear hb2); (try clear hk); (try clear hi)))
       go_ret
       exact ⟨z19_, z10_⟩
 · rw [if_neg c2] at H
   have c2b0 : ((l0.length : Int) == 3) = false := beq_eq_false_iff_ne.mpr c2
   have c2b1 : ((l0.length : Int) != 3) = true := bne_iff_ne.mpr c2
   obtain rfl := Option.some.inj H
   go_enter Try.func87, Try.ntmps87
   go_wp2
   go_ret
   exact ⟨z19_, z10_⟩

/-! ### spec_l5Root: function 121 -/
def spec_l5Root.l0 : Nat → Int → Int → Int → Option (Int)
 | 0, _, _, _ => none
 | k + 1, x0, x3, x4 => if x3 < x4 then (if (wrap64 ((wrap64 (Int.tdiv (wrap64 (x3 + x4)) 2)) * (wrap64 (Int.tdiv (wrap64 (x3 + x4)) 2)))) < x0 then (spec_l5Root.l0 k x0 (wrap64 ((wrap64 (Int.tdiv (wrap64 (x3 + x4)) 2)) + 1)) x4) else (spec_l5Root.l0 k x0 x3 (wrap64 (Int.tdiv (wrap64 (x3 + x4)) 2)))) else (if (wrap64 (x3 * x3)) = x0 then (some x3) else (some (-1)))
def spec_l5Root.f (k : Nat) (a0 : Int) : Option (Int) := spec_l5Root.l0 k a0 0 1048576
theorem spec_l5Root.mono_l : ∀ k, (∀ y0 y1 y2, LeO (spec_l5Root.l0 k y0 y1 y2) (spec_l5Root.l0 (k + 1) y0 y1 y2))
 | 0 => fun _ _ _ r h => by simp [spec_l5Root.l0] at h
 | k + 1 => by
  have ih0 := spec_l5Root.mono_l k
  · intro y0 y1 y2
    unfold spec_l5Root.l0
    repeat' first
    | (with_reducible exact ih0 _ _ _)
    | (with_reducible exact LeO.refl _)
    | (with_reducible exact LeO.none _)
    | (with_reducible refine LeO.ite ?_ ?_)
    | (with_reducible refine LeO.bind ?_ (fun _ => ?_))
    | exact ih0 _ _ _
    | exact LeO.none _
    | refine LeO.ite ?_ ?_
    | refine LeO.bind ?_ (fun _ => ?_)
theorem spec_l5Root.mono : ∀ a0 k, LeO (spec_l5Root.f k a0) (spec_l5Root.f (k + 1) a0) := by
 intro a0 k
 have ih0 := spec_l5Root.mono_l k
 unfold spec_l5Root.f
 repeat' first
  | (with_reducible exact ih0 _ _ _)
  | (with_reducible exact LeO.refl _)
  | (with_reducible exact LeO.none _)
  | (with_reducible refine LeO.ite ?_ ?_)
  | (with_reducible refine LeO.bind ?_ (fun _ => ?_))
  | exact ih0 _ _ _
  | exact LeO.none _
  | refine LeO.ite ?_ ?_
  | refine LeO.bind ?_ (fun _ => ?_)
theorem spec_l5Root.calls (k : Nat) (a0 : Int) (r : Int) (w : World) (h : spec_l5Root.f k a0 = some r) :
 Calls Try.prog 121 #[.int .i64 a0] w fun e w' => e = .returned (.int .i64 r) ∧ Drawn0 w w' := by
 have H : (spec_l5Root.l0 k a0 0 1048576) = some r := h
 clear h
 have H' := Aside0.mk H
 clear H
 go_enter Try.func121, Try.ntmps121
 go_wp2
 go_loopg [3, 4] k (fun kq v3 v4 w' => ∃ (x3_1 : Int) (x4_1 : Int), v3 = .int .i64 x3_1 ∧ v4 = .int .i64 x4_1 ∧ Aside0 (spec_l5Root.l0 kq a0 x3_1 x4_1 = some r) ∧ Aside0 (kq ≤ k) ∧ Drawn0 w w')
 case atStart => exact ⟨(0), (1048576), z22_, z22_, H', ⟨Nat.le_refl _⟩, z20_⟩
 case round =>
  clear H'
  try clear c1
  obtain ⟨x3_1, x4_1, rfl, rfl, HA, HK1, ⟨m1, rfl⟩⟩ := hrel
  cases gk with
  | zero => exact absurd HA.out (by simp [spec_l5Root.l0])
  | succ k1 =>
   have H := HA.out
   clear HA
   simp only [spec_l5Root.l0] at H
   by_cases c2 : x3_1 < x4_1
   · rw [if_pos c2] at H
     have c2b0 : decide (x3_1 < x4_1) = true := decide_eq_true c2
     clear c2
     by_cases c3 : (wrap64 ((wrap64 (Int.tdiv (wrap64 (x3_1 + x4_1)) 2)) * (wrap64 (Int.tdiv (wrap64 (x3_1 + x4_1)) 2)))) < a0
     · rw [if_pos c3] at H
       have c3b0 : decide ((wrap64 ((wrap64 (Int.tdiv (wrap64 (x3_1 + x4_1)) 2)) * (wrap64 (Int.tdiv (wrap64 (x3_1 + x4_1)) 2)))) < a0) = true := decide_eq_true c3
       clear c3
       have H' := Aside0.mk H
       clear H
       go_wp2
       go_roundg k1
       case measure => have := HK1.out; omega
       case rel => exact ⟨(wrap64 ((wrap64 (Int.tdiv (wrap64 (x3_1 + x4_1)) 2)) + 1)), (x4_1), z22_, z22_, H', ⟨by have := HK1.out; omega⟩, z20_⟩
     · rw [if_neg c3] at H
       have c3b0 : decide ((wrap64 ((wrap64 (Int.tdiv (wrap64 (x3_1 + x4_1)) 2)) * (wrap64 (Int.tdiv (wrap64 (x3_1 + x4_1)) 2)))) < a0) = false := decide_eq_false c3
       clear c3
       have H' := Aside0.mk H
       clear H
       go_wp2
       go_roundg k1
       case measure => have := HK1.out; omega
       case rel => exact ⟨(x3_1), (wrap64 (Int.tdiv (wrap64 (x3_1 + x4_1)) 2)), z22_, z22_, H', ⟨by have := HK1.out; omega⟩, z20_⟩
   · rw [if_neg c2] at H
     have c2b0 : decide (x3_1 < x4_1) = false := decide_eq_false c2
     clear c2
     by_cases c4 : (wrap64 (x3_1 * x3_1)) = a0
     · rw [if_pos c4] at H
       have c4b0 : ((wrap64 (x3_1 * x3_1)) == a0) = true := beq_iff_eq.mpr c4
       have c4b1 : ((wrap64 (x3_1 * x3_1)) != a0) = false := bne_eq_false_iff_eq.mpr c4
       clear c4
       obtain rfl := Option.some.inj H
       go_wp2
       go_ret
       exact ⟨z22_, z20_⟩
     · rw [if_neg c4] at H
       have c4b0 : ((wrap64 (x3_1 * x3_1)) == a0) = false := beq_eq_false_iff_ne.mpr c4
       have c4b1 : ((wrap64 (x3_1 * x3_1)) != a0) = true := bne_iff_ne.mpr c4
       obtain rfl := Option.some.inj H
       go_wp2
       go_ret
       exact ⟨z22_, z20_⟩

end Go.Proofs.Ytdeahlommlgceaa.PFnSearch

-- Written by a program of this repo (wip/gen/gen.py) over the kit's print.
-- (slim)
import Derived.Test.YtkbklmlahnjcmaaPFnTimesx0
import Derived.Test.YtkbklmlahnjcmaaPFnTimesx1
import Derived.Test.YtkbklmlahnjcmaaPFnTimesx2
namespace Go.Proofs.Ytkbklmlahnjcmaa.PFnTimes
open Go.RowKit Go.Proofs.YtkbklmlahnjcmaaW.PrintWords Go.Proofs.YtkbklmlahnjcmaaW.PrintLast Go.Proofs.YtkbklmlahnjcmaaW.PrintMore
attribute [local go_sem] max2_int min2_int max_two min_two max_three min_three max_four min_four   -- for this text's walks alone
set_option linter.unusedVariables false
set_option linter.unusedSimpArgs false

/-! ### spec_DrawFormTimes: function 12 -/
def spec_DrawFormTimes.f (k : Nat) (l0 : List Int) : Option (List Int × Int) := (spec_l6Open.f l0).bind fun bt161 => ((spec_l91Form.f k bt161.1 bt161.2 4).bind fun bt164 => ((spec_l6Rd_pick.f k bt161.1 bt164.2 16).bind fun bt168 => (if bt168.1 = 0 then ((some (([0, 5001] : List Int) : List Int)).bind fun y170 => ((spec_l6Rd_pick.f k bt161.1 bt168.2 2).bind fun bt173 => (if 0 ≤ bt173.1 then (if bt173.1 < (y170.length : Int) then (some (bt164.1, rd y170 bt173.1)) else (none)) else (none)))) else ((some (([1, (-1), 2, 3, (-2), 4, 5, (-3)] : List Int) : List Int)).bind fun y176 => ((spec_l6Rd_pick.f k bt161.1 bt168.2 8).bind fun bt179 => (if 0 ≤ bt179.1 then (if bt179.1 < (y176.length : Int) then (some (bt164.1, rd y176 bt179.1)) else (none)) else (none)))))))
theorem spec_DrawFormTimes.mono : ∀ a0 k, LeO (spec_DrawFormTimes.f k a0) (spec_DrawFormTimes.f (k + 1) a0) := by
 intro a0 k
 unfold spec_DrawFormTimes.f
 repeat' first
  | (with_reducible exact spec_l6Rd_pick.mono _ _ _ _)
  | (with_reducible exact spec_l91Form.mono _ _ _ _)
  | (with_reducible exact LeO.refl _)
  | (with_reducible exact LeO.none _)
  | (with_reducible refine LeO.ite ?_ ?_)
  | (with_reducible refine LeO.bind ?_ (fun _ => ?_))
  | exact spec_l6Rd_pick.mono _ _ _ _
  | exact spec_l91Form.mono _ _ _ _
  | exact LeO.none _
  | refine LeO.ite ?_ ?_
  | refine LeO.bind ?_ (fun _ => ?_)
def spec_DrawFormTimes.T4 : Bool × List (List Nat × List Nat) := (true, [([], []), ([], []), ([], []), ([2], [2]), ([1, 3], [1, 3]), ([4], [4]), ([0, 3, 0], [0]), ([5, 6, 0, 1, 2, 3, 4, 5, 6], [5])])
def spec_DrawFormTimes.B4 : List Nat := [0, 0, 0, 4, 14, 30, 13, 127]
theorem spec_DrawFormTimes.tab4 : rtab .any (opsOf Try.f12 4) = spec_DrawFormTimes.T4 := by kernel_rfl
theorem spec_DrawFormTimes.bits4 : waitsOk spec_DrawFormTimes.T4.2 spec_DrawFormTimes.B4 = true := by kernel_rfl
def spec_DrawFormTimes.T5 : Bool × List (List Nat × List Nat) := (true, [([], []), ([], []), ([], []), ([2], [2]), ([1, 3], [1, 3]), ([4], [4]), ([0, 3, 0], [0]), ([5, 6, 0, 1, 2, 3, 4, 5, 6], [5])])
def spec_DrawFormTimes.B5 : List Nat := [0, 0, 0, 4, 14, 30, 13, 127]
theorem spec_DrawFormTimes.tab5 : rtab .any (opsOf Try.f12 5) = spec_DrawFormTimes.T5 := by kernel_rfl
theorem spec_DrawFormTimes.bits5 : waitsOk spec_DrawFormTimes.T5.2 spec_DrawFormTimes.B5 = true := by kernel_rfl
set_option maxHeartbeats 8000000 in
set_option maxRecDepth 100000 in
theorem spec_DrawFormTimes.calls (k : Nat) (A0 : Option Addr) (c0 : Nat) (l0 : List Int) (r1 : List Int) (r2 : Int) (w : World) (hr0 : Kd.C (Kd.int .u8) w A0 l0.length l0) (hc0 : l0.length ≤ c0) (h : spec_DrawFormTimes.f k l0 = some (r1, r2)) :
 Calls Try.prog 12 #[.slice A0 l0.length c0] w fun e w' => ∃ v0_ : Value, e = .returned (.tuple #[v0_, .int .i64 r2]) ∧ Kd.R (Kd.int .i64) 3 w' w.heap.size (fun _ => True) v0_ r1 ∧ Below w.heap.size w w' := by
 have HR0 := Aside0.mk hr0
 have HC0 := Aside0.mk hc0
 clear hr0 hc0
 have HB := Aside0.mk (Below.refl w.heap.size w)
 have H : ((spec_l6Open.f l0).bind fun bt161 => ((spec_l91Form.f k bt161.1 bt161.2 4).bind fun bt164 => ((spec_l6Rd_pick.f k bt161.1 bt164.2 16).bind fun bt168 => (if bt168.1 = 0 then ((some (([0, 5001] : List Int) : List Int)).bind fun y170 => ((spec_l6Rd_pick.f k bt161.1 bt168.2 2).bind fun bt173 => (if 0 ≤ bt173.1 then (if bt173.1 < (y170.length : Int) then (some (bt164.1, rd y170 bt173.1)) else (none)) else (none)))) else ((some (([1, (-1), 2, 3, (-2), 4, 5, (-3)] : List Int) : List Int)).bind fun y176 => ((spec_l6Rd_pick.f k bt161.1 bt168.2 8).bind fun bt179 => (if 0 ≤ bt179.1 then (if bt179.1 < (y176.length : Int) then (some (bt164.1, rd y176 bt179.1)) else (none)) else (none)))))))) = some (r1, r2) := h
 clear h
 replace H := Option.bind_eq_some_iff.mp H
 obtain ⟨⟨t161, t162⟩, A20, H⟩ := H
 replace H : ((spec_l91Form.f k t161 t162 4).bind fun bt164 => ((spec_l6Rd_pick.f k t161 bt164.2 16).bind fun bt168 => (if bt168.1 = 0 then ((some (([0, 5001] : List Int) : List Int)).bind fun y170 => ((spec_l6Rd_pick.f k t161 bt168.2 2).bind fun bt173 => (if 0 ≤ bt173.1 then (if bt173.1 < (y170.length : Int) then (some (bt164.1, rd y170 bt173.1)) else (none)) else (none)))) else ((some (([1, (-1), 2, 3, (-2), 4, 5, (-3)] : List Int) : List Int)).bind fun y176 => ((spec_l6Rd_pick.f k t161 bt168.2 8).bind fun bt179 => (if 0 ≤ bt179.1 then (if bt179.1 < (y176.length : Int) then (some (bt164.1, rd y176 bt179.1)) else (none)) else (none))))))) = some (r1, r2) := H
 have A2 := Aside0.mk A20
 clear A20
 replace H := Option.bind_eq_some_iff.mp H
 obtain ⟨⟨t164, t167⟩, A30, H⟩ := H
 replace H : ((spec_l6Rd_pick.f k t161 t167 16).bind fun bt168 => (if bt168.1 = 0 then ((some (([0, 5001] : List Int) : List Int)).bind fun y170 => ((spec_l6Rd_pick.f k t161 bt168.2 2).bind fun bt173 => (if 0 ≤ bt173.1 then (if bt173.1 < (y170.length : Int) then (some (t164, rd y170 bt173.1)) else (none)) else (none)))) else ((some (([1, (-1), 2, 3, (-2), 4, 5, (-3)] : List Int) : List Int)).bind fun y176 => ((spec_l6Rd_pick.f k t161 bt168.2 8).bind fun bt179 => (if 0 ≤ bt179.1 then (if bt179.1 < (y176.length : Int) then (some (t164, rd y176 bt179.1)) else (none)) else (none)))))) = some (r1, r2) := H
 have A3 := Aside0.mk A30
 clear A30
 replace H := Option.bind_eq_some_iff.mp H
 obtain ⟨⟨t168, t169⟩, A40, H⟩ := H
 replace H : (if t168 = 0 then ((some (([0, 5001] : List Int) : List Int)).bind fun y170 => ((spec_l6Rd_pick.f k t161 t169 2).bind fun bt173 => (if 0 ≤ bt173.1 then (if bt173.1 < (y170.length : Int) then (some (t164, rd y170 bt173.1)) else (none)) else (none)))) else ((some (([1, (-1), 2, 3, (-2), 4, 5, (-3)] : List Int) : List Int)).bind fun y176 => ((spec_l6Rd_pick.f k t161 t169 8).bind fun bt179 => (if 0 ≤ bt179.1 then (if bt179.1 < (y176.length : Int) then (some (t164, rd y176 bt179.1)) else (none)) else (none))))) = some (r1, r2) := H
 have A4 := Aside0.mk A40
 clear A40
 by_cases c5 : t168 = 0
 · rw [if_pos c5] at H
   have c5b0 : (t168 == 0) = true := beq_iff_eq.mpr c5
   have c5b1 : (t168 != 0) = false := bne_eq_false_iff_eq.mpr c5
   clear c5
   obtain ⟨y170, hy170⟩ : ∃ y_ : List Int, y_ = (([0, 5001] : List Int)) := ⟨_, rfl⟩
   replace H : ((spec_l6Rd_pick.f k t161 t169 2).bind fun bt173 => (if 0 ≤ bt173.1 then (if bt173.1 < (y170.length : Int) then (some (t164, rd y170 bt173.1)) else (none)) else (none))) = some (r1, r2) := by first | (rw [hy170]; with_reducible exact H) | (have H2_ := (Option.bind_some _ _).symm.trans H; rw [hy170]; with_reducible exact H2_) | (have H2_ := (Option.bind_some _ _).symm.trans H; with_reducible exact H2_) | with_reducible exact H | (rw [hy170]; exact H) | exact H
   have Ny170 := Aside0.mk hy170
   clear hy170
   replace H := Option.bind_eq_some_iff.mp H
   obtain ⟨⟨t173, t174⟩, A60, H⟩ := H
   replace H : (if 0 ≤ t173 then (if t173 < (y170.length : Int) then (some (t164, rd y170 t173)) else (none)) else (none)) = some (r1, r2) := H
   have A6 := Aside0.mk A60
   clear A60
   by_cases c7 : 0 ≤ t173
   · rw [if_pos c7] at H
     have c7b0 : decide (0 ≤ t173) = true := decide_eq_true c7
     clear c7
     by_cases c8 : t173 < (y170.length : Int)
     · rw [if_pos c8] at H
       have c8b0 : decide (t173 < (y170.length : Int)) = true := decide_eq_true c8
       clear c8
       simp only [Option.some.injEq, Prod.mk.injEq] at H
       obtain ⟨rfl, rfl⟩ := H
       go_enter Try.func12, Try.ntmps12
       try go_wp2_with (first | ((with_reducible refine gate_callee (f := 19) rfl ?_); refine goesL_ (some 7) rfl rfl Try.func19 (by kernel_rfl) rfl #[.slice A0 l0.length c0] rfl (by (try simp only [List.map_toArray, List.map_cons, List.map_nil]); first | done | rfl | (simp only [List.length_drop, List.length_take]; rfl)) ?_; (with_reducible refine (spec_l6Open.calls _ _ l0 t161 t162 w _ ?side1 ?side2 ?side3 A2.out).mono ?_); (case side1 => repeat (first | (with_reducible first | exact HB.out | apply below_alloc | apply pw_below_drewN | apply below_drew1) | exact HB.out)); (case side2 => exact HR0.out); (case side3 => exact HC0.out); rintro e w9 ⟨g163, rfl, hi, hb, hb2⟩; refine ⟨_, rfl, ?_⟩; have n0_ := Aside0.mk (hb); have n1_ := Aside0.mk (hi); clear HB; have HB := n0_; have HI163 := n1_; clear n0_ n1_; (try clear hb); (try clear hb2); (try clear hk); (try clear hi)) | ((with_reducible refine gate_callee (f := 18) rfl ?_); refine goesL_ (some 9) rfl rfl Try.func18 (by kernel_rfl) rfl #[.pointer (some ⟨g163, 0, none⟩), .int .i64 4] rfl (by (try simp only [List.map_toArray, List.map_cons, List.map_nil]); first | done | rfl | (simp only [List.length_drop, List.length_take]; rfl)) ?_; (with_reducible refine (spec_l91Form.calls k g163 t161 t162 4 t164 t167 w _ ?side1 ?side2 A3.out).mono ?_); (case side1 => repeat (first | (with_reducible first | exact HI163.out | apply IsS51.alloc | apply IsS51.drewN | apply IsS51.drew | apply IsS51.set_1) | exact HI163.out)); (case side2 => repeat (first | (with_reducible first | exact HB.out | apply below_alloc | apply pw_below_drewN | apply below_drew1 | refine below_set ?_ (IsS51.ge HI163.out)) | exact HB.out)); rintro e w10 ⟨v165, rfl, ho0, hi, hb, hk⟩; refine ⟨_, rfl, ?_⟩; have n0_ := Aside0.mk (Kd.R_lower ho0 (below_size (by repeat (first | (with_reducible first | exact HB.out | apply below_alloc | apply pw_below_drewN | apply below_drew1 | refine below_set ?_ (IsS51.ge HI163.out)) | exact HB.out)))); have n1_ := Aside0.mk (hb); have n2_ := Aside0.mk (hi); clear HB; clear HI163; have HO166 := n0_; have HB := n1_; have HI163 := n2_; clear n0_ n1_ n2_; (try clear hb); (try clear hb2); (try clear hk); (try clear hi); (try clear ho0)) | ((with_reducible refine gate_callee (f := 29) rfl ?_); refine goesL_ (some 11) rfl rfl Try.func29 (by kernel_rfl) rfl #[.pointer (some ⟨g163, 0, none⟩), .int .i64 16] rfl (by (try simp only [List.map_toArray, List.map_cons, List.map_nil]); first | done | rfl | (simp only [List.length_drop, List.length_take]; rfl)) ?_; (with_reducible refine (spec_l6Rd_pick.calls k g163 t161 t167 16 t168 t169 w _ ?side1 ?side2 A4.out).mono ?_); (case side1 => repeat (first | (with_reducible first | exact HI163.out | apply IsS51.alloc | apply IsS51.drewN | apply IsS51.drew | apply IsS51.set_1) | exact HI163.out)); (case side2 => repeat (first | (with_reducible first | exact HB.out | apply below_alloc | apply pw_below_drewN | apply below_drew1 | refine below_set ?_ (IsS51.ge HI163.out)) | exact HB.out)); rintro e w11 ⟨rfl, hi, hb, hk⟩; refine ⟨_, rfl, ?_⟩; have n0_ := Aside0.mk (Kd.R_mono (Kd.R_keep (IsS51.apart (show IsS51 w _ g163 t161 t167 from by repeat (first | (with_reducible first | exact HI163.out | apply IsS51.alloc | apply IsS51.drewN | apply IsS51.drew | apply IsS51.set_1) | exact HI163.out)) (by (with_reducible repeat (first | apply Kd.R_alloc | apply Kd.R_drewN | apply Kd.R_drew)); exact HO166.out) (by decide)) hk (fun _ h => h.2)) (fun _ h => h.1)); have n1_ := Aside0.mk (hb); have n2_ := Aside0.mk (hi); clear HO166; clear HB; clear HI163; have HO166 := n0_; have HB := n1_; have HI163 := n2_; clear n0_ n1_ n2_; (try clear hb); (try clear hb2); (try clear hk); (try clear hi)))
       have pi175 : (0 ≤ (t173 : Int)) = True := eq_true (of_decide_eq_true (by first | (with_reducible assumption) | assumption))
       have qi175 : (t173 < (y170.length : Int)) = True := eq_true (of_decide_eq_true (by first | (with_reducible assumption) | assumption))
       have n0_ := Aside0.mk (Kd.R_drew HO166.out)
       have n1_ := Aside0.mk (IsS51.drew HI163.out)
       have n2_ := Aside0.mk (below_drew1 HB.out)
       clear HO166
       clear HI163
       clear HB
       have HO166 := n0_
       have HI163 := n1_
       have HB := n2_
       clear n0_ n1_ n2_
       refine start_ (n := 8) (S := fun w' => True) (ds := []) #[false, false, false, false, false, false, false, false] (by kernel_rfl) rfl rfl trivial (fun hHeld => ?_); refine with_tabW spec_DrawFormTimes.tab4 spec_DrawFormTimes.bits4 (fun HT_ HW_ => ?_)
       generalize w11.drew = w12 at HO166 HI163 HB hHeld ⊢
       refine pure_ (i := 0) (N := some 13) (v := ?_) (a' := ?_) #[true, false, false, false, false, false, false, false] rfl rfl (any_of HT_.out (by kernel_rfl)) (fun _ _ _ h => h) (Or.inl ⟨by rfl, ?_⟩) ?_ ?_
       rotate_left
       · intro w'
         go_simp
         with_reducible rfl
       rotate_left
       · simp only [Act.put, List.setIfInBounds_toArray, List.set_cons_zero, List.set_cons_succ, i64_w, i32_w]
         rfl
       refine pure_ (i := 2) (N := some 15) (v := ?_) (a' := ?_) #[true, false, true, false, false, false, false, false] rfl rfl (any_of HT_.out (by kernel_rfl)) (fun _ _ _ h => h) (Or.inl ⟨by rfl, ?_⟩) ?_ ?_
       rotate_left
       · intro w'
         go_simp
         with_reducible rfl
       rotate_left
       · simp only [Act.put, List.setIfInBounds_toArray, List.set_cons_zero, List.set_cons_succ, i64_w, i32_w]
         rfl
       refine inv_at [1, 3, 4, 5, 6, 7] (fun a0_ b a w' => ∃ (v171 : Value) (adz_v171 : Addr) (m4_ : Value), a = putSel a0_ b [(1, 14, v171), (3, 16, .int .i64 t173), (4, 17, m4_), (5, 18, .int .i64 (rd y170 t173)), (6, 2, v165), (7, 3, .int .i64 (rd y170 t173))] ∧ (Kd.R (Kd.int .i64) 3 w' w.heap.size (fun _ => True) v165 t164) ∧ (b 3 = false → IsS51 w w' g163 t161 t169) ∧ (Below w.heap.size w w') ∧ (b 1 = true → Kd.R (Kd.int .i64) 3 w' w.heap.size (fun k_ => some k_ ≠ (v165 : Value).ownBlock) v171 y170) ∧ (b 1 = true → ∃ c_, (v171 : Value) = .slice (some adz_v171) y170.length c_) ∧ (b 3 = true → IsS51 w w' g163 t161 t174) ∧ (b 4 = true → (m4_ : Value) = .pointer (some (adz_v171.add (t173).toNat)))) HT_.out HW_.out (by kernel_rfl) (by kernel_rfl) ?_ ?_ ?_
       · exact ⟨.bool false, ⟨0, 0, none⟩, .bool false, by simp only [putSel, Bool.false_eq_true, if_false], HO166.out, fun _ => HI163.out, HB.out, fun h_ => absurd h_ (by decide), fun h_ => absurd h_ (by decide), fun h_ => absurd h_ (by decide), fun h_ => absurd h_ (by decide)⟩
       · skip
         clear HB HI163 HO166
         refine steps_cons ?_ ?_
         · rintro b a w' ⟨v171, adz_v171, m4_, ha, Q_HO166, Q_HI163, Q_HB, Q_HO172, Q_HA_HO172, Q_HI163_e3, Q_X4_⟩ hb_ hon hoff
           refine ⟨_, rfl, fun K hK => ?_⟩
           replace ha := Aside0.mk ha
           have HO166 := Aside0.mk Q_HO166
           have HB := Aside0.mk Q_HB
           refine Kd.R_lit_step (Kd.int .i64) _ 3 ?hg (N := 14) ?hd (xs := ([0, 5001] : List Int)) (inner := [.int .i64 0, .int .i64 5001]) (ok := fun _ => True) (okp := fun _ => True) ?hr ?hp (fun _ hk => hk) trivial (Below.refl _ _) (Nat.le_refl _) (by simp) ?_; (case hd => rfl); (case hg => rfl); (case hr => first | (go_simp; done) | (go_simp; rfl)); (case hp => exact (Reps.one (show Kd.M (Kd.int .i64) _ _ _ 0 [.int .i64 0] from rfl) (Reps.one (show Kd.M (Kd.int .i64) _ _ _ 5001 [.int .i64 5001] from rfl) (Reps.none _ _))))
           intro v171 w13 ho14 hb hg_ hnew_
           clear hg_ hnew_
           (first | rw [← Ny170.out] at ho14 | (simp only [Int.reduceToNat] at ho14; rw [← Ny170.out] at ho14))
           have n0_ := Aside0.mk (Kd.R_elder' (by (with_reducible repeat (first | apply Kd.R_alloc | apply Kd.R_drewN | apply Kd.R_drew)); exact HO166.out) (Kd.R_base ho14) hb)
           have n1_ := Aside0.mk (Kd.R_lower (Kd.R_new' ho14 (Kd.R_lt (by (with_reducible repeat (first | apply Kd.R_alloc | apply Kd.R_drewN | apply Kd.R_drew)); exact HO166.out))) (below_size (by repeat (first | (with_reducible first | exact HB.out | apply below_alloc | apply pw_below_drewN | apply below_drew1) | exact HB.out))))
           have n3_ := Aside0.mk (below_step (by repeat (first | (with_reducible first | exact HB.out | apply below_alloc | apply pw_below_drewN | apply below_drew1) | exact HB.out)) hb)
           have z_HI163 := fun (h0_ : b 3 = false) => (show IsS51 w w13 g163 t161 t169 from by first | exact (IsS51.below (by repeat (first | (with_reducible first | exact (Q_HI163 h0_) | apply IsS51.alloc | apply IsS51.drewN | apply IsS51.drew | apply IsS51.set_1) | exact (Q_HI163 h0_))) hb))
           have z_HI163_e3 := fun (h0_ : b 3 = true) => (show IsS51 w w13 g163 t161 t174 from by first | exact (IsS51.below (by repeat (first | (with_reducible first | exact (Q_HI163_e3 h0_) | apply IsS51.alloc | apply IsS51.drewN | apply IsS51.drew | apply IsS51.set_1) | exact (Q_HI163_e3 h0_))) hb))
           clear HO166
           clear HB
           have HO166 := n0_
           have HO172 := n1_
           have HB := n3_
           clear n0_ n1_ n3_
           clear hb ho14
           obtain ⟨Ao15, co15, eo15⟩ := Kd.R_slice HO172.out
           subst eo15
           obtain ⟨ado15, fo15, _⟩ := Kd.at_int (Kd.R_reads' HO172.out).2.2 0 (by decide) (by rw [Ny170.out]; simp)
           cases fo15
           refine hK.out _ _ ⟨.slice (some ado15) y170.length co15, ado15, m4_, (by rw [ha.out]; exact putSel_upk 0 hb_ rfl rfl rfl), (by (with_reducible repeat (first | apply Kd.R_alloc | apply Kd.R_drewN | apply Kd.R_drew)); exact Kd.R_mono HO166.out (fun _ hk => (by first | exact hk.2 | exact trivial))), z_HI163, (by repeat (first | (with_reducible first | exact HB.out | apply below_alloc | apply pw_below_drewN | apply below_drew1) | exact HB.out)), fun _ => (by (with_reducible repeat (first | apply Kd.R_alloc | apply Kd.R_drewN | apply Kd.R_drew)); exact Kd.R_mono HO172.out (fun _ hk => (by first | exact hk.2 | exact trivial))), fun _ => ⟨_, rfl⟩, z_HI163_e3, fun h0_ => absurd ((hoff 4 (by kernel_rfl)).symm.trans h0_) (by decide)⟩
         refine steps_cons ?_ ?_
         · rintro b a w' ⟨v171, adz_v171, m4_, ha, Q_HO166, Q_HI163, Q_HB, Q_HO172, Q_HA_HO172, Q_HI163_e3, Q_X4_⟩ hb_ hon hoff
           refine ⟨_, rfl, fun K hK => ?_⟩
           have e15 : a.tmps[15]? = some (.pointer (some ⟨g163, 0, none⟩)) := by rw [ha]; exact (putSel_off rfl).trans rfl
           replace ha := Aside0.mk ha
           have HO166 := Aside0.mk Q_HO166
           have HI163 := Aside0.mk (Q_HI163 hb_)
           have HB := Aside0.mk Q_HB
           refine goes_ Try.func29 (by kernel_rfl) rfl #[.pointer (some ⟨g163, 0, none⟩), .int .i64 2] (by rfl) rfl rfl (by first | (simp only [List.map_toArray, List.map_cons, List.map_nil, Act.eval, Array.getD_eq_getD_getElem?, Option.getD_some, e15]; done) | (simp only [List.map_toArray, List.map_cons, List.map_nil, Act.eval, Array.getD_eq_getD_getElem?, Option.getD_some, e15]; rfl)) ?_
           with_reducible refine (spec_l6Rd_pick.calls k g163 t161 t169 2 t173 t174 w _ ?side1 ?side2 A6.out).mono ?_
           (case side1 => repeat (first | (with_reducible first | exact HI163.out | apply IsS51.alloc | apply IsS51.drewN | apply IsS51.drew | apply IsS51.set_1) | exact HI163.out))
           (case side2 => repeat (first | (with_reducible first | exact HB.out | apply below_alloc | apply pw_below_drewN | apply below_drew1 | refine below_set ?_ (IsS51.ge HI163.out)) | exact HB.out))
           rintro e w13 ⟨rfl, hi, hb, hk⟩
           refine ⟨_, rfl, ?_⟩
           have n0_ := Aside0.mk (Kd.R_mono (Kd.R_keep (IsS51.apart (show IsS51 w _ g163 t161 t169 from by repeat (first | (with_reducible first | exact HI163.out | apply IsS51.alloc | apply IsS51.drewN | apply IsS51.drew | apply IsS51.set_1) | exact HI163.out)) (by (with_reducible repeat (first | apply Kd.R_alloc | apply Kd.R_drewN | apply Kd.R_drew)); exact HO166.out) (by decide)) hk (fun _ h => h.2)) (fun _ h => h.1))
           have n1_ := Aside0.mk (hb)
           have n2_ := Aside0.mk (hi)
           have z_HO172 := fun (h0_ : b 1 = true) => (show Kd.R (Kd.int .i64) 3 w13 w.heap.size (fun k_ => some k_ ≠ (v165 : Value).ownBlock) v171 y170 from by first | exact (Kd.R_mono (Kd.R_keep (IsS51.apart (show IsS51 w _ g163 t161 t169 from by repeat (first | (with_reducible first | exact HI163.out | apply IsS51.alloc | apply IsS51.drewN | apply IsS51.drew | apply IsS51.set_1) | exact HI163.out)) (by (with_reducible repeat (first | apply Kd.R_alloc | apply Kd.R_drewN | apply Kd.R_drew)); exact (Q_HO172 h0_)) (by decide)) hk (fun _ h => h.2)) (fun _ h => h.1)) | exact Kd.R_mono (Kd.R_mono (Kd.R_keep (IsS51.apart (show IsS51 w _ g163 t161 t169 from by repeat (first | (with_reducible first | exact HI163.out | apply IsS51.alloc | apply IsS51.drewN | apply IsS51.drew | apply IsS51.set_1) | exact HI163.out)) (by (with_reducible repeat (first | apply Kd.R_alloc | apply Kd.R_drewN | apply Kd.R_drew)); exact (Q_HO172 h0_)) (by decide)) hk (fun _ h => h.2)) (fun _ h => h.1)) (fun _ h_ => by first | trivial | exact h_ | exact h_.1))
           clear HO166
           clear HB
           clear HI163
           have HO166 := n0_
           have HB := n1_
           have HI163 := n2_
           clear n0_ n1_ n2_
           (try clear hb)
           (try clear hb2)
           (try clear hk)
           (try clear hi)
           refine hK.out _ _ ⟨v171, adz_v171, m4_, (by rw [ha.out]; exact putSel_upk 1 hb_ rfl rfl rfl), (by (with_reducible repeat (first | apply Kd.R_alloc | apply Kd.R_drewN | apply Kd.R_drew)); exact HO166.out), fun h0_ => absurd ((up_self b 3).symm.trans h0_) (by decide), (by repeat (first | (with_reducible first | exact HB.out | apply below_alloc | apply pw_below_drewN | apply below_drew1 | refine below_set ?_ (IsS51.ge HI163.out)) | exact HB.out)), z_HO172, Q_HA_HO172, fun _ => (by repeat (first | (with_reducible first | exact HI163.out | apply IsS51.alloc | apply IsS51.drewN | apply IsS51.drew | apply IsS51.set_1) | exact HI163.out)), fun h0_ => absurd ((hoff 4 (by kernel_rfl)).symm.trans h0_) (by decide)⟩
         refine steps_cons ?_ ?_
         · rintro b a w' ⟨v171, adz_v171, m4_, ha, Q_HO166, Q_HI163, Q_HB, Q_HO172, Q_HA_HO172, Q_HI163_e3, Q_X4_⟩ hb_ hon hoff
           refine ⟨_, rfl, fun K hK => ?_⟩
           have e14 : a.tmps[14]? = some (v171) := by rw [ha]; exact putSel_on (e := (1, 14, v171)) 0 rfl rfl (hon 1 (by kernel_rfl)) rfl
           have e16 : a.tmps[16]? = some (.int .i64 t173) := by rw [ha]; exact putSel_on (e := (3, 16, .int .i64 t173)) 1 rfl rfl (hon 3 (by kernel_rfl)) rfl
           replace ha := Aside0.mk ha
           have HO166 := Aside0.mk Q_HO166
           have HB := Aside0.mk Q_HB
           have HO172 := Aside0.mk (Q_HO172 (hon 1 (by kernel_rfl)))
           have HA_HO172 := Aside0.mk (Q_HA_HO172 (hon 1 (by kernel_rfl)))
           have HI163 := Aside0.mk (Q_HI163_e3 (hon 3 (by kernel_rfl)))
           obtain ⟨c_, hv_⟩ := HA_HO172.out
           rw [hv_] at e14
           refine value_ (w1 := w') (v := .pointer (some (adz_v171.add (t173).toNat))) (by rfl) rfl ?_ ?_
           · go_simp
             (try simp only [i64_w])
             try rfl
           refine hK.out _ _ ⟨v171, adz_v171, (.pointer (some (adz_v171.add (t173).toNat))), (by rw [ha.out]; exact putSel_upk 2 hb_ rfl rfl rfl), Q_HO166, fun h0_ => absurd ((hon 3 (by kernel_rfl)).symm.trans h0_) (by decide), Q_HB, Q_HO172, Q_HA_HO172, Q_HI163_e3, fun _ => rfl⟩
         refine steps_cons ?_ ?_
         · rintro b a w' ⟨v171, adz_v171, m4_, ha, Q_HO166, Q_HI163, Q_HB, Q_HO172, Q_HA_HO172, Q_HI163_e3, Q_X4_⟩ hb_ hon hoff
           refine ⟨_, rfl, fun K hK => ?_⟩
           have e17 : a.tmps[17]? = some (m4_) := by rw [ha]; exact putSel_on (e := (4, 17, m4_)) 2 rfl rfl (hon 4 (by kernel_rfl)) rfl
           rw [Q_X4_ (hon 4 (by kernel_rfl))] at e17
           replace ha := Aside0.mk ha
           have HO166 := Aside0.mk Q_HO166
           have HB := Aside0.mk Q_HB
           have HO172 := Aside0.mk (Q_HO172 (hon 1 (by kernel_rfl)))
           have HA_HO172 := Aside0.mk (Q_HA_HO172 (hon 1 (by kernel_rfl)))
           have HI163 := Aside0.mk (Q_HI163_e3 (hon 3 (by kernel_rfl)))
           obtain ⟨c_, hv_⟩ := HA_HO172.out
           have hF_ := HO172.out
           rw [hv_] at hF_
           obtain ⟨ad_, ea_, hx_⟩ := Kd.at_int (Kd.R_reads' hF_).2.2 t173 (of_eq_true pi175) (of_eq_true qi175)
           cases ea_
           refine value_ (w1 := w') (v := .int .i64 (rd y170 t173)) (by rfl) rfl ?_ ?_
           · go_simp
             (try simp only [i64_w])
             try rfl
           refine hK.out _ _ ⟨v171, adz_v171, m4_, (by rw [ha.out]; exact putSel_upk 3 hb_ rfl rfl rfl), Q_HO166, fun h0_ => absurd ((hon 3 (by kernel_rfl)).symm.trans h0_) (by decide), Q_HB, Q_HO172, Q_HA_HO172, Q_HI163_e3, Q_X4_⟩
         refine steps_cons ?_ ?_
         · rintro b a w' ⟨v171, adz_v171, m4_, ha, Q_HO166, Q_HI163, Q_HB, Q_HO172, Q_HA_HO172, Q_HI163_e3, Q_X4_⟩ hb_ hon hoff
           refine ⟨_, rfl, fun K hK => ?_⟩
           have e13 : a.tmps[13]? = some (v165) := by rw [ha]; exact (putSel_off rfl).trans rfl
           replace ha := Aside0.mk ha
           have HO166 := Aside0.mk Q_HO166
           have HB := Aside0.mk Q_HB
           have HI163 := Aside0.mk (Q_HI163_e3 (hon 3 (by kernel_rfl)))
           refine value_ (w1 := w') (v := v165) (by rfl) rfl ?_ ?_
           · go_simp
             (try simp only [i64_w])
             try rfl
           refine hK.out _ _ ⟨v171, adz_v171, m4_, (by rw [ha.out]; exact putSel_upk 4 hb_ rfl rfl rfl), Q_HO166, fun h0_ => absurd ((hon 3 (by kernel_rfl)).symm.trans h0_) (by decide), Q_HB, Q_HO172, Q_HA_HO172, Q_HI163_e3, Q_X4_⟩
         refine steps_cons ?_ ?_
         · rintro b a w' ⟨v171, adz_v171, m4_, ha, Q_HO166, Q_HI163, Q_HB, Q_HO172, Q_HA_HO172, Q_HI163_e3, Q_X4_⟩ hb_ hon hoff
           refine ⟨_, rfl, fun K hK => ?_⟩
           have e18 : a.tmps[18]? = some (.int .i64 (rd y170 t173)) := by rw [ha]; exact putSel_on (e := (5, 18, .int .i64 (rd y170 t173))) 3 rfl rfl (hon 5 (by kernel_rfl)) rfl
           replace ha := Aside0.mk ha
           have HO166 := Aside0.mk Q_HO166
           have HB := Aside0.mk Q_HB
           have HO172 := Aside0.mk (Q_HO172 (hon 1 (by kernel_rfl)))
           have HA_HO172 := Aside0.mk (Q_HA_HO172 (hon 1 (by kernel_rfl)))
           have HI163 := Aside0.mk (Q_HI163_e3 (hon 3 (by kernel_rfl)))
           refine value_ (w1 := w') (v := .int .i64 (rd y170 t173)) (by rfl) rfl ?_ ?_
           · go_simp
             (try simp only [i64_w])
             try rfl
           refine hK.out _ _ ⟨v171, adz_v171, m4_, (by rw [ha.out]; exact putSel_upk 5 hb_ rfl rfl rfl), Q_HO166, fun h0_ => absurd ((hon 3 (by kernel_rfl)).symm.trans h0_) (by decide), Q_HB, Q_HO172, Q_HA_HO172, Q_HI163_e3, Q_X4_⟩
         exact steps_nil
       rintro b a w17 hall ⟨v171, adz_v171, m4_, ha, Q_HO166, Q_HI163, Q_HB, Q_HO172, Q_HA_HO172, Q_HI163_e3, Q_X4_⟩
       clear HB HI163 HO166
       have hb1_ := hall 1 (by kernel_rfl)
       have hb3_ := hall 3 (by kernel_rfl)
       have hb4_ := hall 4 (by kernel_rfl)
       have hb5_ := hall 5 (by kernel_rfl)
       have hb6_ := hall 6 (by kernel_rfl)
       have hb7_ := hall 7 (by kernel_rfl)
       subst ha
       obtain rfl := Q_X4_ hb4_
       simp only [putSel, hb1_, hb3_, hb4_, hb5_, hb6_, hb7_, if_true, Act.put, List.setIfInBounds_toArray, List.set_cons_zero, List.set_cons_succ]
       have HO166 := Aside0.mk Q_HO166
       clear Q_HO166
       clear Q_HI163
       have HB := Aside0.mk Q_HB
       clear Q_HB
       have HO172 := Aside0.mk (Q_HO172 hb1_)
       clear Q_HO172
       have HA_HO172 := Aside0.mk (Q_HA_HO172 hb1_)
       clear Q_HA_HO172
       have HI163 := Aside0.mk (Q_HI163_e3 hb3_)
       clear Q_HI163_e3
       clear hall hb1_ hb3_ hb4_ hb5_ hb6_ hb7_
       obtain ⟨co18, eo18⟩ := HA_HO172.out
       clear HA_HO172
       subst eo18
       try go_wp2
       go_ret2
       exact ⟨_, by first | rfl | (simp [errW_none, errW_some] <;> rfl) | (simp [*, errW_none, errW_some] <;> rfl), by (with_reducible repeat (first | apply Kd.R_alloc | apply Kd.R_drewN | apply Kd.R_drew)); exact Kd.R_mono HO166.out (fun _ hk => trivial), by repeat (first | (with_reducible first | exact HB.out | apply below_alloc | apply pw_below_drewN | apply below_drew1 | refine below_set ?_ (IsS51.ge HI163.out)) | exact HB.out)⟩
     · rw [if_neg c8] at H
       exact absurd H (by simp)
   · rw [if_neg c7] at H
     exact absurd H (by simp)
 · rw [if_neg c5] at H
   have c5b0 : (t168 == 0) = false := beq_eq_false_iff_ne.mpr c5
   have c5b1 : (t168 != 0) = true := bne_iff_ne.mpr c5
   obtain ⟨y176, hy176⟩ : ∃ y_ : List Int, y_ = (([1, (-1), 2, 3, (-2), 4, 5, (-3)] : List Int)) := ⟨_, rfl⟩
   replace H : ((spec_l6Rd_pick.f k t161 t169 8).bind fun bt179 => (if 0 ≤ bt179.1 then (if bt179.1 < (y176.length : Int) then (some (t164, rd y176 bt179.1)) else (none)) else (none))) = some (r1, r2) := by first | (rw [hy176]; with_reducible exact H) | (have H2_ := (Option.bind_some _ _).symm.trans H; rw [hy176]; with_reducible exact H2_) | (have H2_ := (Option.bind_some _ _).symm.trans H; with_reducible exact H2_) | with_reducible exact H | (rw [hy176]; exact H) | exact H
   have Ny176 := Aside0.mk hy176
   clear hy176
   replace H := Option.bind_eq_some_iff.mp H
   obtain ⟨⟨t179, t180⟩, A190, H⟩ := H
   replace H : (if 0 ≤ t179 then (if t179 < (y176.length : Int) then (some (t164, rd y176 t179)) else (none)) else (none)) = some (r1, r2) := H
   have A19 := Aside0.mk A190
   clear A190
   by_cases c20 : 0 ≤ t179
   · rw [if_pos c20] at H
     have c20b0 : decide (0 ≤ t179) = true := decide_eq_true c20
     clear c20
     by_cases c21 : t179 < (y176.length : Int)
     · rw [if_pos c21] at H
       have c21b0 : decide (t179 < (y176.length : Int)) = true := decide_eq_true c21
       clear c21
       simp only [Option.some.injEq, Prod.mk.injEq] at H
       obtain ⟨rfl, rfl⟩ := H
       go_enter Try.func12, Try.ntmps12
       try go_wp2_with (first | ((with_reducible refine gate_callee (f := 19) rfl ?_); refine goesL_ (some 7) rfl rfl Try.func19 (by kernel_rfl) rfl #[.slice A0 l0.length c0] rfl (by (try simp only [List.map_toArray, List.map_cons, List.map_nil]); first | done | rfl | (simp only [List.length_drop, List.length_take]; rfl)) ?_; (with_reducible refine (spec_l6Open.calls _ _ l0 t161 t162 w _ ?side1 ?side2 ?side3 A2.out).mono ?_); (case side1 => repeat (first | (with_reducible first | exact HB.out | apply below_alloc | apply pw_below_drewN | apply below_drew1) | exact HB.out)); (case side2 => exact HR0.out); (case side3 => exact HC0.out); rintro e w22 ⟨g163, rfl, hi, hb, hb2⟩; refine ⟨_, rfl, ?_⟩; have n0_ := Aside0.mk (hb); have n1_ := Aside0.mk (hi); clear HB; have HB := n0_; have HI163 := n1_; clear n0_ n1_; (try clear hb); (try clear hb2); (try clear hk); (try clear hi)) | ((with_reducible refine gate_callee (f := 18) rfl ?_); refine goesL_ (some 9) rfl rfl Try.func18 (by kernel_rfl) rfl #[.pointer (some ⟨g163, 0, none⟩), .int .i64 4] rfl (by (try simp only [List.map_toArray, List.map_cons, List.map_nil]); first | done | rfl | (simp only [List.length_drop, List.length_take]; rfl)) ?_; (with_reducible refine (spec_l91Form.calls k g163 t161 t162 4 t164 t167 w _ ?side1 ?side2 A3.out).mono ?_); (case side1 => repeat (first | (with_reducible first | exact HI163.out | apply IsS51.alloc | apply IsS51.drewN | apply IsS51.drew | apply IsS51.set_1) | exact HI163.out)); (case side2 => repeat (first | (with_reducible first | exact HB.out | apply below_alloc | apply pw_below_drewN | apply below_drew1 | refine below_set ?_ (IsS51.ge HI163.out)) | exact HB.out)); rintro e w23 ⟨v165, rfl, ho0, hi, hb, hk⟩; refine ⟨_, rfl, ?_⟩; have n0_ := Aside0.mk (Kd.R_lower ho0 (below_size (by repeat (first | (with_reducible first | exact HB.out | apply below_alloc | apply pw_below_drewN | apply below_drew1 | refine below_set ?_ (IsS51.ge HI163.out)) | exact HB.out)))); have n1_ := Aside0.mk (hb); have n2_ := Aside0.mk (hi); clear HB; clear HI163; have HO166 := n0_; have HB := n1_; have HI163 := n2_; clear n0_ n1_ n2_; (try clear hb); (try clear hb2); (try clear hk); (try clear hi); (try clear ho0)) | ((with_reducible refine gate_callee (f := 29) rfl ?_); refine goesL_ (some 11) rfl rfl Try.func29 (by kernel_rfl) rfl #[.pointer (some ⟨g163, 0, none⟩), .int .i64 16] rfl (by (try simp only [List.map_toArray, List.map_cons, List.map_nil]); first | done | rfl | (simp only [List.length_drop, List.length_take]; rfl)) ?_; (with_reducible refine (spec_l6Rd_pick.calls k g163 t161 t167 16 t168 t169 w _ ?side1 ?side2 A4.out).mono ?_); (case side1 => repeat (first | (with_reducible first | exact HI163.out | apply IsS51.alloc | apply IsS51.drewN | apply IsS51.drew | apply IsS51.set_1) | exact HI163.out)); (case side2 => repeat (first | (with_reducible first | exact HB.out | apply below_alloc | apply pw_below_drewN | apply below_drew1 | refine below_set ?_ (IsS51.ge HI163.out)) | exact HB.out)); rintro e w24 ⟨rfl, hi, hb, hk⟩; refine ⟨_, rfl, ?_⟩; have n0_ := Aside0.mk (Kd.R_mono (Kd.R_keep (IsS51.apart (show IsS51 w _ g163 t161 t167 from by repeat (first | (with_reducible first | exact HI163.out | apply IsS51.alloc | apply IsS51.drewN | apply IsS51.drew | apply IsS51.set_1) | exact HI163.out)) (by (with_reducible repeat (first | apply Kd.R_alloc | apply Kd.R_drewN | apply Kd.R_drew)); exact HO166.out) (by decide)) hk (fun _ h => h.2)) (fun _ h => h.1)); have n1_ := Aside0.mk (hb); have n2_ := Aside0.mk (hi); clear HO166; clear HB; clear HI163; have HO166 := n0_; have HB := n1_; have HI163 := n2_; clear n0_ n1_ n2_; (try clear hb); (try clear hb2); (try clear hk); (try clear hi)))
       have pi181 : (0 ≤ (t179 : Int)) = True := eq_true (of_decide_eq_true (by first | (with_reducible assumption) | assumption))
       have qi181 : (t179 < (y176.length : Int)) = True := eq_true (of_decide_eq_true (by first | (with_reducible assumption) | assumption))
       have n0_ := Aside0.mk (Kd.R_drew HO166.out)
       have n1_ := Aside0.mk (IsS51.drew HI163.out)
       have n2_ := Aside0.mk (below_drew1 HB.out)
       clear HO166
       clear HI163
       clear HB
       have HO166 := n0_
       have HI163 := n1_
       have HB := n2_
       clear n0_ n1_ n2_
       refine start_ (n := 8) (S := fun w' => True) (ds := []) #[false, false, false, false, false, false, false, false] (by kernel_rfl) rfl rfl trivial (fun hHeld => ?_); refine with_tabW spec_DrawFormTimes.tab5 spec_DrawFormTimes.bits5 (fun HT_ HW_ => ?_)
       generalize w24.drew = w25 at HO166 HI163 HB hHeld ⊢
       refine pure_ (i := 0) (N := some 19) (v := ?_) (a' := ?_) #[true, false, false, false, false, false, false, false] rfl rfl (any_of HT_.out (by kernel_rfl)) (fun _ _ _ h => h) (Or.inl ⟨by rfl, ?_⟩) ?_ ?_
       rotate_left
       · intro w'
         go_simp
         with_reducible rfl
       rotate_left
       · simp only [Act.put, List.setIfInBounds_toArray, List.set_cons_zero, List.set_cons_succ, i64_w, i32_w]
         rfl
       refine pure_ (i := 2) (N := some 21) (v := ?_) (a' := ?_) #[true, false, true, false, false, false, false, false] rfl rfl (any_of HT_.out (by kernel_rfl)) (fun _ _ _ h => h) (Or.inl ⟨by rfl, ?_⟩) ?_ ?_
       rotate_left
       · intro w'
         go_simp
         with_reducible rfl
       rotate_left
       · simp only [Act.put, List.setIfInBounds_toArray, List.set_cons_zero, List.set_cons_succ, i64_w, i32_w]
         rfl
       refine inv_at [1, 3, 4, 5, 6, 7] (fun a0_ b a w' => ∃ (v177 : Value) (adz_v177 : Addr) (m4_ : Value), a = putSel a0_ b [(1, 20, v177), (3, 22, .int .i64 t179), (4, 23, m4_), (5, 24, .int .i64 (rd y176 t179)), (6, 2, v165), (7, 3, .int .i64 (rd y176 t179))] ∧ (Kd.R (Kd.int .i64) 3 w' w.heap.size (fun _ => True) v165 t164) ∧ (b 3 = false → IsS51 w w' g163 t161 t169) ∧ (Below w.heap.size w w') ∧ (b 1 = true → Kd.R (Kd.int .i64) 3 w' w.heap.size (fun k_ => some k_ ≠ (v165 : Value).ownBlock) v177 y176) ∧ (b 1 = true → ∃ c_, (v177 : Value) = .slice (some adz_v177) y176.length c_) ∧ (b 3 = true → IsS51 w w' g163 t161 t180) ∧ (b 4 = true → (m4_ : Value) = .pointer (some (adz_v177.add (t179).toNat)))) HT_.out HW_.out (by kernel_rfl) (by kernel_rfl) ?_ ?_ ?_
       · exact ⟨.bool false, ⟨0, 0, none⟩, .bool false, by simp only [putSel, Bool.false_eq_true, if_false], HO166.out, fun _ => HI163.out, HB.out, fun h_ => absurd h_ (by decide), fun h_ => absurd h_ (by decide), fun h_ => absurd h_ (by decide), fun h_ => absurd h_ (by decide)⟩
       · skip
         clear HB HI163 HO166
         refine steps_cons ?_ ?_
         · rintro b a w' ⟨v177, adz_v177, m4_, ha, Q_HO166, Q_HI163, Q_HB, Q_HO178, Q_HA_HO178, Q_HI163_e3, Q_X4_⟩ hb_ hon hoff
           refine ⟨_, rfl, fun K hK => ?_⟩
           replace ha := Aside0.mk ha
           have HO166 := Aside0.mk Q_HO166
           have HB := Aside0.mk Q_HB
           refine Kd.R_lit_step (Kd.int .i64) _ 3 ?hg (N := 20) ?hd (xs := ([1, (-1), 2, 3, (-2), 4, 5, (-3)] : List Int)) (inner := [.int .i64 1, .int .i64 (-1), .int .i64 2, .int .i64 3, .int .i64 (-2), .int .i64 4, .int .i64 5, .int .i64 (-3)]) (ok := fun _ => True) (okp := fun _ => True) ?hr ?hp (fun _ hk => hk) trivial (Below.refl _ _) (Nat.le_refl _) (by simp) ?_; (case hd => rfl); (case hg => rfl); (case hr => first | (go_simp; done) | (go_simp; rfl)); (case hp => exact (Reps.one (show Kd.M (Kd.int .i64) _ _ _ 1 [.int .i64 1] from rfl) (Reps.one (show Kd.M (Kd.int .i64) _ _ _ (-1) [.int .i64 (-1)] from rfl) (Reps.one (show Kd.M (Kd.int .i64) _ _ _ 2 [.int .i64 2] from rfl) (Reps.one (show Kd.M (Kd.int .i64) _ _ _ 3 [.int .i64 3] from rfl) (Reps.one (show Kd.M (Kd.int .i64) _ _ _ (-2) [.int .i64 (-2)] from rfl) (Reps.one (show Kd.M (Kd.int .i64) _ _ _ 4 [.int .i64 4] from rfl) (Reps.one (show Kd.M (Kd.int .i64) _ _ _ 5 [.int .i64 5] from rfl) (Reps.one (show Kd.M (Kd.int .i64) _ _ _ (-3) [.int .i64 (-3)] from rfl) (Reps.none _ _))))))))))
           intro v177 w26 ho27 hb hg_ hnew_
           clear hg_ hnew_
           (first | rw [← Ny176.out] at ho27 | (simp only [Int.reduceToNat] at ho27; rw [← Ny176.out] at ho27))
           have n0_ := Aside0.mk (Kd.R_elder' (by (with_reducible repeat (first | apply Kd.R_alloc | apply Kd.R_drewN | apply Kd.R_drew)); exact HO166.out) (Kd.R_base ho27) hb)
           have n1_ := Aside0.mk (Kd.R_lower (Kd.R_new' ho27 (Kd.R_lt (by (with_reducible repeat (first | apply Kd.R_alloc | apply Kd.R_drewN | apply Kd.R_drew)); exact HO166.out))) (below_size (by repeat (first | (with_reducible first | exact HB.out | apply below_alloc | apply pw_below_drewN | apply below_drew1) | exact HB.out))))
           have n3_ := Aside0.mk (below_step (by repeat (first | (with_reducible first | exact HB.out | apply below_alloc | apply pw_below_drewN | apply below_drew1) | exact HB.out)) hb)
           have z_HI163 := fun (h0_ : b 3 = false) => (show IsS51 w w26 g163 t161 t169 from by first | exact (IsS51.below (by repeat (first | (with_reducible first | exact (Q_HI163 h0_) | apply IsS51.alloc | apply IsS51.drewN | apply IsS51.drew | apply IsS51.set_1) | exact (Q_HI163 h0_))) hb))
           have z_HI163_e3 := fun (h0_ : b 3 = true) => (show IsS51 w w26 g163 t161 t180 from by first | exact (IsS51.below (by repeat (first | (with_reducible first | exact (Q_HI163_e3 h0_) | apply IsS51.alloc | apply IsS51.drewN | apply IsS51.drew | apply IsS51.set_1) | exact (Q_HI163_e3 h0_))) hb))
           clear HO166
           clear HB
           have HO166 := n0_
           have HO178 := n1_
           have HB := n3_
           clear n0_ n1_ n3_
           clear hb ho27
           obtain ⟨Ao28, co28, eo28⟩ := Kd.R_slice HO178.out
           subst eo28
           obtain ⟨ado28, fo28, _⟩ := Kd.at_int (Kd.R_reads' HO178.out).2.2 0 (by decide) (by rw [Ny176.out]; simp)
           cases fo28
           refine hK.out _ _ ⟨.slice (some ado28) y176.length co28, ado28, m4_, (by rw [ha.out]; exact putSel_upk 0 hb_ rfl rfl rfl), (by (with_reducible repeat (first | apply Kd.R_alloc | apply Kd.R_drewN | apply Kd.R_drew)); exact Kd.R_mono HO166.out (fun _ hk => (by first | exact hk.2 | exact trivial))), z_HI163, (by repeat (first | (with_reducible first | exact HB.out | apply below_alloc | apply pw_below_drewN | apply below_drew1) | exact HB.out)), fun _ => (by (with_reducible repeat (first | apply Kd.R_alloc | apply Kd.R_drewN | apply Kd.R_drew)); exact Kd.R_mono HO178.out (fun _ hk => (by first | exact hk.2 | exact trivial))), fun _ => ⟨_, rfl⟩, z_HI163_e3, fun h0_ => absurd ((hoff 4 (by kernel_rfl)).symm.trans h0_) (by decide)⟩
         refine steps_cons ?_ ?_
         · rintro b a w' ⟨v177, adz_v177, m4_, ha, Q_HO166, Q_HI163, Q_HB, Q_HO178, Q_HA_HO178, Q_HI163_e3, Q_X4_⟩ hb_ hon hoff
           refine ⟨_, rfl, fun K hK => ?_⟩
           have e21 : a.tmps[21]? = some (.pointer (some ⟨g163, 0, none⟩)) := by rw [ha]; exact (putSel_off rfl).trans rfl
           replace ha := Aside0.mk ha
           have HO166 := Aside0.mk Q_HO166
           have HI163 := Aside0.mk (Q_HI163 hb_)
           have HB := Aside0.mk Q_HB
           refine goes_ Try.func29 (by kernel_rfl) rfl #[.pointer (some ⟨g163, 0, none⟩), .int .i64 8] (by rfl) rfl rfl (by first | (simp only [List.map_toArray, List.map_cons, List.map_nil, Act.eval, Array.getD_eq_getD_getElem?, Option.getD_some, e21]; done) | (simp only [List.map_toArray, List.map_cons, List.map_nil, Act.eval, Array.getD_eq_getD_getElem?, Option.getD_some, e21]; rfl)) ?_
           with_reducible refine (spec_l6Rd_pick.calls k g163 t161 t169 8 t179 t180 w _ ?side1 ?side2 A19.out).mono ?_
           (case side1 => repeat (first | (with_reducible first | exact HI163.out | apply IsS51.alloc | apply IsS51.drewN | apply IsS51.drew | apply IsS51.set_1) | exact HI163.out))
           (case side2 => repeat (first | (with_reducible first | exact HB.out | apply below_alloc | apply pw_below_drewN | apply below_drew1 | refine below_set ?_ (IsS51.ge HI163.out)) | exact HB.out))
           rintro e w26 ⟨rfl, hi, hb, hk⟩
           refine ⟨_, rfl, ?_⟩
           have n0_ := Aside0.mk (Kd.R_mono (Kd.R_keep (IsS51.apart (show IsS51 w _ g163 t161 t169 from by repeat (first | (with_reducible first | exact HI163.out | apply IsS51.alloc | apply IsS51.drewN | apply IsS51.drew | apply IsS51.set_1) | exact HI163.out)) (by (with_reducible repeat (first | apply Kd.R_alloc | apply Kd.R_drewN | apply Kd.R_drew)); exact HO166.out) (by decide)) hk (fun _ h => h.2)) (fun _ h => h.1))
           have n1_ := Aside0.mk (hb)
           have n2_ := Aside0.mk (hi)
           have z_HO178 := fun (h0_ : b 1 = true) => (show Kd.R (Kd.int .i64) 3 w26 w.heap.size (fun k_ => some k_ ≠ (v165 : Value).ownBlock) v177 y176 from by first | exact (Kd.R_mono (Kd.R_keep (IsS51.apart (show IsS51 w _ g163 t161 t169 from by repeat (first | (with_reducible first | exact HI163.out | apply IsS51.alloc | apply IsS51.drewN | apply IsS51.drew | apply IsS51.set_1) | exact HI163.out)) (by (with_reducible repeat (first | apply Kd.R_alloc | apply Kd.R_drewN | apply Kd.R_drew)); exact (Q_HO178 h0_)) (by decide)) hk (fun _ h => h.2)) (fun _ h => h.1)) | exact Kd.R_mono (Kd.R_mono (Kd.R_keep (IsS51.apart (show IsS51 w _ g163 t161 t169 from by repeat (first | (with_reducible first | exact HI163.out | apply IsS51.alloc | apply IsS51.drewN | apply IsS51.drew | apply IsS51.set_1) | exact HI163.out)) (by (with_reducible repeat (first | apply Kd.R_alloc | apply Kd.R_drewN | apply Kd.R_drew)); exact (Q_HO178 h0_)) (by decide)) hk (fun _ h => h.2)) (fun _ h => h.1)) (fun _ h_ => by first | trivial | exact h_ | exact h_.1))
           clear HO166
           clear HB
           clear HI163
           have HO166 := n0_
           have HB := n1_
           have HI163 := n2_
           clear n0_ n1_ n2_
           (try clear hb)
           (try clear hb2)
           (try clear hk)
           (try clear hi)
           refine hK.out _ _ ⟨v177, adz_v177, m4_, (by rw [ha.out]; exact putSel_upk 1 hb_ rfl rfl rfl), (by (with_reducible repeat (first | apply Kd.R_alloc | apply Kd.R_drewN | apply Kd.R_drew)); exact HO166.out), fun h0_ => absurd ((up_self b 3).symm.trans h0_) (by decide), (by repeat (first | (with_reducible first | exact HB.out | apply below_alloc | apply pw_below_drewN | apply below_drew1 | refine below_set ?_ (IsS51.ge HI163.out)) | exact HB.out)), z_HO178, Q_HA_HO178, fun _ => (by repeat (first | (with_reducible first | exact HI163.out | apply IsS51.alloc | apply IsS51.drewN | apply IsS51.drew | apply IsS51.set_1) | exact HI163.out)), fun h0_ => absurd ((hoff 4 (by kernel_rfl)).symm.trans h0_) (by decide)⟩
         refine steps_cons ?_ ?_
         · rintro b a w' ⟨v177, adz_v177, m4_, ha, Q_HO166, Q_HI163, Q_HB, Q_HO178, Q_HA_HO178, Q_HI163_e3, Q_X4_⟩ hb_ hon hoff
           refine ⟨_, rfl, fun K hK => ?_⟩
           have e20 : a.tmps[20]? = some (v177) := by rw [ha]; exact putSel_on (e := (1, 20, v177)) 0 rfl rfl (hon 1 (by kernel_rfl)) rfl
           have e22 : a.tmps[22]? = some (.int .i64 t179) := by rw [ha]; exact putSel_on (e := (3, 22, .int .i64 t179)) 1 rfl rfl (hon 3 (by kernel_rfl)) rfl
           replace ha := Aside0.mk ha
           have HO166 := Aside0.mk Q_HO166
           have HB := Aside0.mk Q_HB
           have HO178 := Aside0.mk (Q_HO178 (hon 1 (by kernel_rfl)))
           have HA_HO178 := Aside0.mk (Q_HA_HO178 (hon 1 (by kernel_rfl)))
           have HI163 := Aside0.mk (Q_HI163_e3 (hon 3 (by kernel_rfl)))
           obtain ⟨c_, hv_⟩ := HA_HO178.out
           rw [hv_] at e20
           refine value_ (w1 := w') (v := .pointer (some (adz_v177.add (t179).toNat))) (by rfl) rfl ?_ ?_
           · go_simp
             (try simp only [i64_w])
             try rfl
           refine hK.out _ _ ⟨v177, adz_v177, (.pointer (some (adz_v177.add (t179).toNat))), (by rw [ha.out]; exact putSel_upk 2 hb_ rfl rfl rfl), Q_HO166, fun h0_ => absurd ((hon 3 (by kernel_rfl)).symm.trans h0_) (by decide), Q_HB, Q_HO178, Q_HA_HO178, Q_HI163_e3, fun _ => rfl⟩
         refine steps_cons ?_ ?_
         · rintro b a w' ⟨v177, adz_v177, m4_, ha, Q_HO166, Q_HI163, Q_HB, Q_HO178, Q_HA_HO178, Q_HI163_e3, Q_X4_⟩ hb_ hon hoff
           refine ⟨_, rfl, fun K hK => ?_⟩
           have e23 : a.tmps[23]? = some (m4_) := by rw [ha]; exact putSel_on (e := (4, 23, m4_)) 2 rfl rfl (hon 4 (by kernel_rfl)) rfl
           rw [Q_X4_ (hon 4 (by kernel_rfl))] at e23
           replace ha := Aside0.mk ha
           have HO166 := Aside0.mk Q_HO166
           have HB := Aside0.mk Q_HB
           have HO178 := Aside0.mk (Q_HO178 (hon 1 (by kernel_rfl)))
           have HA_HO178 := Aside0.mk (Q_HA_HO178 (hon 1 (by kernel_rfl)))
           have HI163 := Aside0.mk (Q_HI163_e3 (hon 3 (by kernel_rfl)))
           obtain ⟨c_, hv_⟩ := HA_HO178.out
           have hF_ := HO178.out
           rw [hv_] at hF_
           obtain ⟨ad_, ea_, hx_⟩ := Kd.at_int (Kd.R_reads' hF_).2.2 t179 (of_eq_true pi181) (of_eq_true qi181)
           cases ea_
           refine value_ (w1 := w') (v := .int .i64 (rd y176 t179)) (by rfl) rfl ?_ ?_
           · go_simp
             (try simp only [i64_w])
             try rfl
           refine hK.out _ _ ⟨v177, adz_v177, m4_, (by rw [ha.out]; exact putSel_upk 3 hb_ rfl rfl rfl), Q_HO166, fun h0_ => absurd ((hon 3 (by kernel_rfl)).symm.trans h0_) (by decide), Q_HB, Q_HO178, Q_HA_HO178, Q_HI163_e3, Q_X4_⟩
         refine steps_cons ?_ ?_
         · rintro b a w' ⟨v177, adz_v177, m4_, ha, Q_HO166, Q_HI163, Q_HB, Q_HO178, Q_HA_HO178, Q_HI163_e3, Q_X4_⟩ hb_ hon hoff
           refine ⟨_, rfl, fun K hK => ?_⟩
           have e19 : a.tmps[19]? = some (v165) := by rw [ha]; exact (putSel_off rfl).trans rfl
           replace ha := Aside0.mk ha
           have HO166 := Aside0.mk Q_HO166
           have HB := Aside0.mk Q_HB
           have HI163 := Aside0.mk (Q_HI163_e3 (hon 3 (by kernel_rfl)))
           refine value_ (w1 := w') (v := v165) (by rfl) rfl ?_ ?_
           · go_simp
             (try simp only [i64_w])
             try rfl
           refine hK.out _ _ ⟨v177, adz_v177, m4_, (by rw [ha.out]; exact putSel_upk 4 hb_ rfl rfl rfl), Q_HO166, fun h0_ => absurd ((hon 3 (by kernel_rfl)).symm.trans h0_) (by decide), Q_HB, Q_HO178, Q_HA_HO178, Q_HI163_e3, Q_X4_⟩
         refine steps_cons ?_ ?_
         · rintro b a w' ⟨v177, adz_v177, m4_, ha, Q_HO166, Q_HI163, Q_HB, Q_HO178, Q_HA_HO178, Q_HI163_e3, Q_X4_⟩ hb_ hon hoff
           refine ⟨_, rfl, fun K hK => ?_⟩
           have e24 : a.tmps[24]? = some (.int .i64 (rd y176 t179)) := by rw [ha]; exact putSel_on (e := (5, 24, .int .i64 (rd y176 t179))) 3 rfl rfl (hon 5 (by kernel_rfl)) rfl
           replace ha := Aside0.mk ha
           have HO166 := Aside0.mk Q_HO166
           have HB := Aside0.mk Q_HB
           have HO178 := Aside0.mk (Q_HO178 (hon 1 (by kernel_rfl)))
           have HA_HO178 := Aside0.mk (Q_HA_HO178 (hon 1 (by kernel_rfl)))
           have HI163 := Aside0.mk (Q_HI163_e3 (hon 3 (by kernel_rfl)))
           refine value_ (w1 := w') (v := .int .i64 (rd y176 t179)) (by rfl) rfl ?_ ?_
           · go_simp
             (try simp only [i64_w])
             try rfl
           refine hK.out _ _ ⟨v177, adz_v177, m4_, (by rw [ha.out]; exact putSel_upk 5 hb_ rfl rfl rfl), Q_HO166, fun h0_ => absurd ((hon 3 (by kernel_rfl)).symm.trans h0_) (by decide), Q_HB, Q_HO178, Q_HA_HO178, Q_HI163_e3, Q_X4_⟩
         exact steps_nil
       rintro b a w30 hall ⟨v177, adz_v177, m4_, ha, Q_HO166, Q_HI163, Q_HB, Q_HO178, Q_HA_HO178, Q_HI163_e3, Q_X4_⟩
       clear HB HI163 HO166
       have hb1_ := hall 1 (by kernel_rfl)
       have hb3_ := hall 3 (by kernel_rfl)
       have hb4_ := hall 4 (by kernel_rfl)
       have hb5_ := hall 5 (by kernel_rfl)
       have hb6_ := hall 6 (by kernel_rfl)
       have hb7_ := hall 7 (by kernel_rfl)
       subst ha
       obtain rfl := Q_X4_ hb4_
       simp only [putSel, hb1_, hb3_, hb4_, hb5_, hb6_, hb7_, if_true, Act.put, List.setIfInBounds_toArray, List.set_cons_zero, List.set_cons_succ]
       have HO166 := Aside0.mk Q_HO166
       clear Q_HO166
       clear Q_HI163
       have HB := Aside0.mk Q_HB
       clear Q_HB
       have HO178 := Aside0.mk (Q_HO178 hb1_)
       clear Q_HO178
       have HA_HO178 := Aside0.mk (Q_HA_HO178 hb1_)
       clear Q_HA_HO178
       have HI163 := Aside0.mk (Q_HI163_e3 hb3_)
       clear Q_HI163_e3
       clear hall hb1_ hb3_ hb4_ hb5_ hb6_ hb7_
       obtain ⟨co31, eo31⟩ := HA_HO178.out
       clear HA_HO178
       subst eo31
       try go_wp2
       go_ret2
       exact ⟨_, by first | rfl | (simp [errW_none, errW_some] <;> rfl) | (simp [*, errW_none, errW_some] <;> rfl), by (with_reducible repeat (first | apply Kd.R_alloc | apply Kd.R_drewN | apply Kd.R_drew)); exact Kd.R_mono HO166.out (fun _ hk => trivial), by repeat (first | (with_reducible first | exact HB.out | apply below_alloc | apply pw_below_drewN | apply below_drew1 | refine below_set ?_ (IsS51.ge HI163.out)) | exact HB.out)⟩
     · rw [if_neg c21] at H
       exact absurd H (by simp)
   · rw [if_neg c20] at H
     exact absurd H (by simp)

/-! ### impl_isNumber: function 26 -/
def impl_isNumber.f (a0 : Int) : Option (Bool) := if a0 ≥ (-5000) then (some (decide (a0 ≤ 5000))) else (some false)
set_option maxHeartbeats 8000000 in
set_option maxRecDepth 100000 in
theorem impl_isNumber.calls (a0 : Int) (r : Bool) (w : World) (h : impl_isNumber.f a0 = some r) :
 Calls Try.prog 26 #[.int .i64 a0] w fun e w' => e = .returned (.bool r) ∧ Drawn0 w w' := by
 have H : (if a0 ≥ (-5000) then (some (decide (a0 ≤ 5000))) else (some false)) = some r := h
 clear h
 by_cases c2 : a0 ≥ (-5000)
 · rw [if_pos c2] at H
   have c2b0 : decide ((-5000) ≤ a0) = true := decide_eq_true c2
   clear c2
   obtain rfl := Option.some.inj H
   go_enter Try.func26, Try.ntmps26
   go_wp2
   go_ret
   exact ⟨by first | rfl | (simp; done) | (simp [*]; done), by repeat (first | exact Drawn0.refl _ | apply Drawn0.step)⟩
 · rw [if_neg c2] at H
   have c2b0 : decide ((-5000) ≤ a0) = false := decide_eq_false c2
   clear c2
   obtain rfl := Option.some.inj H
   go_enter Try.func26, Try.ntmps26
   go_wp2
   go_ret
   exact ⟨by first | rfl | (simp; done) | (simp [*]; done), by repeat (first | exact Drawn0.refl _ | apply Drawn0.step)⟩

/-! ### impl_FormTimes: function 13 -/
mutual
def impl_FormTimes.j0 : Nat → List Int → Int → Bool → Option (List Int × Bool)
 | 0, _, _, _ => none
 | k + 1, x0, x1, x22 => if x22 = true then (some (([] : List Int), false)) else (impl_FormTimes.l0 k x1 (([] : List Int)) x0 (x0.length : Int) 0)
def impl_FormTimes.l0 : Nat → Int → List Int → List Int → Int → Int → Option (List Int × Bool)
 | 0, _, _, _, _, _ => none
 | k + 1, x1, x6, x24, x25, x26 => if x26 < x25 then (if 0 ≤ x26 then (if x26 < (x24.length : Int) then ((impl_coreOf.f k (wrap64 ((rd x24 x26) * x1))).bind fun bt188 => (if x6.length < 17592186044416 then (impl_FormTimes.l0 k x1 (x6 ++ [bt188.1]) x24 x25 (wrap64 (x26 + 1))) else (none))) else (none)) else (none)) else ((impl_FormValid.f k x6).bind fun t193 => (if t193 = true then (some (x6, true)) else (some (([] : List Int), false))))
end
def impl_FormTimes.f (k : Nat) (l0 : List Int) (a1 : Int) : Option (List Int × Bool) := (impl_FormValid.f k l0).bind fun t182 => (if t182 = true then (if a1 = 0 then (impl_FormTimes.j0 k l0 a1 true) else ((impl_isNumber.f a1).bind fun t183 => (impl_FormTimes.j0 k l0 a1 (!t183)))) else (impl_FormTimes.j0 k l0 a1 true))
theorem impl_FormTimes.mono_l : ∀ k, (∀ y0 y1 y2, LeO (impl_FormTimes.j0 k y0 y1 y2) (impl_FormTimes.j0 (k + 1) y0 y1 y2)) ∧ (∀ y0 y1 y2 y3 y4, LeO (impl_FormTimes.l0 k y0 y1 y2 y3 y4) (impl_FormTimes.l0 (k + 1) y0 y1 y2 y3 y4))
 | 0 => ⟨fun _ _ _ r h => by simp [impl_FormTimes.j0] at h, fun _ _ _ _ _ r h => by simp [impl_FormTimes.l0] at h⟩
 | k + 1 => by
  obtain ⟨ih0, ih1⟩ := impl_FormTimes.mono_l k
  refine ⟨?_, ?_⟩
  · intro y0 y1 y2
    unfold impl_FormTimes.j0
    repeat' first
    | (with_reducible exact ih0 _ _ _)
    | (with_reducible exact ih1 _ _ _ _ _)
    | (with_reducible exact impl_FormValid.mono _ _)
    | (with_reducible exact impl_coreOf.mono _ _)
    | (with_reducible exact LeO.refl _)
    | (with_reducible exact LeO.none _)
    | (with_reducible refine LeO.ite ?_ ?_)
    | (with_reducible refine LeO.bind ?_ (fun _ => ?_))
    | exact ih0 _ _ _
    | exact ih1 _ _ _ _ _
    | exact impl_FormValid.mono _ _
    | exact impl_coreOf.mono _ _
    | exact LeO.none _
    | refine LeO.ite ?_ ?_
    | refine LeO.bind ?_ (fun _ => ?_)
  · intro y0 y1 y2 y3 y4
    unfold impl_FormTimes.l0
    repeat' first
    | (with_reducible exact ih0 _ _ _)
    | (with_reducible exact ih1 _ _ _ _ _)
    | (with_reducible exact impl_FormValid.mono _ _)
    | (with_reducible exact impl_coreOf.mono _ _)
    | (with_reducible exact LeO.refl _)
    | (with_reducible exact LeO.none _)
    | (with_reducible refine LeO.ite ?_ ?_)
    | (with_reducible refine LeO.bind ?_ (fun _ => ?_))
    | exact ih0 _ _ _
    | exact ih1 _ _ _ _ _
    | exact impl_FormValid.mono _ _
    | exact impl_coreOf.mono _ _
    | exact LeO.none _
    | refine LeO.ite ?_ ?_
    | refine LeO.bind ?_ (fun _ => ?_)
theorem impl_FormTimes.mono : ∀ a0 a1 k, LeO (impl_FormTimes.f k a0 a1) (impl_FormTimes.f (k + 1) a0 a1) := by
 intro a0 a1 k
 obtain ⟨ih0, ih1⟩ := impl_FormTimes.mono_l k
 unfold impl_FormTimes.f
 repeat' first
  | (with_reducible exact ih0 _ _ _)
  | (with_reducible exact ih1 _ _ _ _ _)
  | (with_reducible exact impl_FormValid.mono _ _)
  | (with_reducible exact impl_coreOf.mono _ _)
  | (with_reducible exact LeO.refl _)
  | (with_reducible exact LeO.none _)
  | (with_reducible refine LeO.ite ?_ ?_)
  | (with_reducible refine LeO.bind ?_ (fun _ => ?_))
  | exact ih0 _ _ _
  | exact ih1 _ _ _ _ _
  | exact impl_FormValid.mono _ _
  | exact impl_coreOf.mono _ _
  | exact LeO.none _
  | refine LeO.ite ?_ ?_
  | refine LeO.bind ?_ (fun _ => ?_)
set_option maxHeartbeats 8000000 in
set_option maxRecDepth 100000 in
theorem impl_FormTimes.calls (k : Nat) (A0 : Option Addr) (c0 : Nat) (l0 : List Int) (a1 : Int) (r1 : List Int) (r2 : Bool) (w : World) (hr0 : Kd.C (Kd.int .i64) w A0 l0.length l0) (hc0 : l0.length ≤ c0) (h : impl_FormTimes.f k l0 a1 = some (r1, r2)) :
 Calls Try.prog 13 #[.slice A0 l0.length c0, .int .i64 a1] w fun e w' => ∃ v0_ : Value, e = .returned (.tuple #[v0_, .bool r2]) ∧ Kd.R (Kd.int .i64) 3 w' w.heap.size (fun _ => True) v0_ r1 ∧ Below w.heap.size w w' := by
 have HR0 := Aside0.mk hr0
 have HC0 := Aside0.mk hc0
 clear hr0 hc0
 have HB := Aside0.mk (Below.refl w.heap.size w)
 have H : ((impl_FormValid.f k l0).bind fun t182 => (if t182 = true then (if a1 = 0 then (impl_FormTimes.j0 k l0 a1 true) else ((impl_isNumber.f a1).bind fun t183 => (impl_FormTimes.j0 k l0 a1 (!t183)))) else (impl_FormTimes.j0 k l0 a1 true))) = some (r1, r2) := h
 clear h
 have HC3 := Aside0.mk H
 clear H
 go_enter Try.func13, Try.ntmps13
 go_upto_region 1 with (fail)
 go_cut [22] (fun v22 wc => ∃ (kq : Nat) (x22_2 : Bool), v22 = .bool x22_2 ∧ Aside0 (impl_FormTimes.j0 kq l0 a1 x22_2 = some (r1, r2)) ∧ Aside0 (kq ≤ k) ∧ Aside0 (Below w.heap.size w wc))
 case first =>
  have H := HC3.out
  clear HC3
  replace H := Option.bind_eq_some_iff.mp H
  obtain ⟨t182, A40, H⟩ := H
  replace H : (if t182 = true then (if a1 = 0 then (impl_FormTimes.j0 k l0 a1 true) else ((impl_isNumber.f a1).bind fun t183 => (impl_FormTimes.j0 k l0 a1 (!t183)))) else (impl_FormTimes.j0 k l0 a1 true)) = some (r1, r2) := H
  have A4 := Aside0.mk A40
  clear A40
  by_cases c5 : t182 = true
  · subst c5
    have H1 : (if a1 = 0 then (impl_FormTimes.j0 k l0 a1 true) else ((impl_isNumber.f a1).bind fun t183 => (impl_FormTimes.j0 k l0 a1 (!t183)))) = some (r1, r2) := by rw [if_pos rfl] at H; exact H
    clear H
    have H := H1
    clear H1
    by_cases c6 : a1 = 0
    · rw [if_pos c6] at H
      have c6b0 : (a1 == 0) = true := beq_iff_eq.mpr c6
      have c6b1 : (a1 != 0) = false := bne_eq_false_iff_eq.mpr c6
      clear c6
      (first | rw [c6b0] | (simp only [i64_w, i32_w]; rw [c6b0]) | skip)
      have H' := Aside0.mk H
      clear H
      go_wp2_with (first | ((with_reducible refine gate_callee (f := 20) rfl ?_); refine goesL_ (some 12) rfl rfl Try.func20 (by kernel_rfl) rfl #[.slice A0 l0.length c0] rfl (by (try simp only [List.map_toArray, List.map_cons, List.map_nil]); first | done | rfl | (simp only [List.length_drop, List.length_take]; rfl)) ?_; (with_reducible refine (impl_FormValid.calls k _ _ l0 true _ ?side1 ?side2 A4.out).mono ?_); (case side1 => repeat (first | exact (Kd.C_below HR0.out HB.out) | (with_reducible refine Kd.C_alloc ?_ _) | (with_reducible refine Kd.C_drewN ?_ _) | (with_reducible refine Kd.C_drew ?_))); (case side2 => exact HC0.out); rintro e w7 ⟨rfl, hb⟩; refine ⟨_, rfl, ?_⟩; have n0_ := Aside0.mk (below_step (by repeat (first | (with_reducible first | exact HB.out | apply below_alloc | apply pw_below_drewN | apply below_drew1) | exact HB.out)) hb); clear HB; have HB := n0_; clear n0_; (try clear hb); (try clear hb2); (try clear hk); (try clear hi)))
      go_meet
      case rel => exact ⟨_, (true), (by first | rfl | (simp; done) | (simp [*]; done)), H', ⟨by first | omega | exact Nat.le_refl _⟩, ⟨by repeat (first | (with_reducible first | exact HB.out | apply below_alloc | apply pw_below_drewN | apply below_drew1) | exact HB.out)⟩⟩
    · rw [if_neg c6] at H
      have c6b0 : (a1 == 0) = false := beq_eq_false_iff_ne.mpr c6
      have c6b1 : (a1 != 0) = true := bne_iff_ne.mpr c6
      (first | rw [c6b0] | (simp only [i64_w, i32_w]; rw [c6b0]) | skip)
      replace H := Option.bind_eq_some_iff.mp H
      obtain ⟨t183, A80, H⟩ := H
      replace H : (impl_FormTimes.j0 k l0 a1 (!t183)) = some (r1, r2) := H
      have A8 := Aside0.mk A80
      clear A80
      have H' := Aside0.mk H
      clear H
      go_wp2_with (first | ((with_reducible refine gate_callee (f := 20) rfl ?_); refine goesL_ (some 12) rfl rfl Try.func20 (by kernel_rfl) rfl #[.slice A0 l0.length c0] rfl (by (try simp only [List.map_toArray, List.map_cons, List.map_nil]); first | done | rfl | (simp only [List.length_drop, List.length_take]; rfl)) ?_; (with_reducible refine (impl_FormValid.calls k _ _ l0 true _ ?side1 ?side2 A4.out).mono ?_); (case side1 => repeat (first | exact (Kd.C_below HR0.out HB.out) | (with_reducible refine Kd.C_alloc ?_ _) | (with_reducible refine Kd.C_drewN ?_ _) | (with_reducible refine Kd.C_drew ?_))); (case side2 => exact HC0.out); rintro e w9 ⟨rfl, hb⟩; refine ⟨_, rfl, ?_⟩; have n0_ := Aside0.mk (below_step (by repeat (first | (with_reducible first | exact HB.out | apply below_alloc | apply pw_below_drewN | apply below_drew1) | exact HB.out)) hb); clear HB; have HB := n0_; clear n0_; (try clear hb); (try clear hb2); (try clear hk); (try clear hi)) | (go_at_call 26; (with_reducible refine (impl_isNumber.calls a1 t183 _ A8.out).mono ?_); rintro e w' ⟨rfl, ⟨nd, rfl⟩⟩))
      go_meet
      case rel => exact ⟨_, (!t183), (by first | rfl | (simp; done) | (simp [*]; done)), H', ⟨by first | omega | exact Nat.le_refl _⟩, ⟨by repeat (first | (with_reducible first | exact HB.out | apply below_alloc | apply pw_below_drewN | apply below_drew1) | exact HB.out)⟩⟩
  · replace c5 := Bool.eq_false_iff.mpr c5
    subst c5
    have H1 : (impl_FormTimes.j0 k l0 a1 true) = some (r1, r2) := by rw [if_neg (show ¬ (false = true) by decide)] at H; exact H
    clear H
    have H := H1
    clear H1
    have H' := Aside0.mk H
    clear H
    go_wp2_with (first | ((with_reducible refine gate_callee (f := 20) rfl ?_); refine goesL_ (some 12) rfl rfl Try.func20 (by kernel_rfl) rfl #[.slice A0 l0.length c0] rfl (by (try simp only [List.map_toArray, List.map_cons, List.map_nil]); first | done | rfl | (simp only [List.length_drop, List.length_take]; rfl)) ?_; (with_reducible refine (impl_FormValid.calls k _ _ l0 false _ ?side1 ?side2 A4.out).mono ?_); (case side1 => repeat (first | exact (Kd.C_below HR0.out HB.out) | (with_reducible refine Kd.C_alloc ?_ _) | (with_reducible refine Kd.C_drewN ?_ _) | (with_reducible refine Kd.C_drew ?_))); (case side2 => exact HC0.out); rintro e w10 ⟨rfl, hb⟩; refine ⟨_, rfl, ?_⟩; have n0_ := Aside0.mk (below_step (by repeat (first | (with_reducible first | exact HB.out | apply below_alloc | apply pw_below_drewN | apply below_drew1) | exact HB.out)) hb); clear HB; have HB := n0_; clear n0_; (try clear hb); (try clear hb2); (try clear hk); (try clear hi)))
    go_meet
    case rel => exact ⟨_, (true), (by first | rfl | (simp; done) | (simp [*]; done)), H', ⟨by first | omega | exact Nat.le_refl _⟩, ⟨by repeat (first | (with_reducible first | exact HB.out | apply below_alloc | apply pw_below_drewN | apply below_drew1) | exact HB.out)⟩⟩
 case rest =>
  clear HC3
  try clear c1
  try clear c2
  try clear p2
  try clear c5
  try clear c6
  try clear c6b0
  try clear c6b1
  obtain ⟨kq, x22_2, rfl, HA, HJ2, HB⟩ := hcut
  cases kq with
  | zero => exact absurd HA.out (by simp [impl_FormTimes.j0])
  | succ kj2 =>
   have H := HA.out
   clear HA
   simp only [impl_FormTimes.j0] at H
   by_cases c11 : x22_2 = true
   · subst c11
     have H1 : (some (([] : List Int), false)) = some (r1, r2) := by rw [if_pos rfl] at H; exact H
     clear H
     have H := H1
     clear H1
     simp only [Option.some.injEq, Prod.mk.injEq] at H
     obtain ⟨rfl, rfl⟩ := H
     go_wp2
     go_ret2
     exact ⟨_, by first | rfl | (simp [errW_none, errW_some] <;> rfl) | (simp [*, errW_none, errW_some] <;> rfl), by first | exact Kd.R_nil _ _ _ _ _ | exact Kd.N_nil _ _ _ _ _ | exact Kd.V_nil _ _ _ _ _ | exact Kd.Q_nil _ _ _ _ _ | exact Kd.S_nil _ _ _ _ _, by repeat (first | (with_reducible first | exact HB.out | apply below_alloc | apply pw_below_drewN | apply below_drew1) | exact HB.out)⟩
   · replace c11 := Bool.eq_false_iff.mpr c11
     subst c11
     have H1 : (impl_FormTimes.l0 kj2 a1 (([] : List Int)) l0 (l0.length : Int) 0) = some (r1, r2) := by rw [if_neg (show ¬ (false = true) by decide)] at H; exact H
     clear H
     have H := H1
     clear H1
     obtain ⟨y184, hy184⟩ : ∃ y_ : List Int, y_ = (([] : List Int)) := ⟨_, rfl⟩
     replace H : (impl_FormTimes.l0 kj2 a1 y184 l0 (l0.length : Int) 0) = some (r1, r2) := by first | (rw [hy184]; with_reducible exact H) | (have H2_ := (Option.bind_some _ _).symm.trans H; rw [hy184]; with_reducible exact H2_) | (have H2_ := (Option.bind_some _ _).symm.trans H; with_reducible exact H2_) | with_reducible exact H | (rw [hy184]; exact H) | exact H
     have Ny184 := Aside0.mk hy184
     clear hy184
     have H' := Aside0.mk H
     clear H
     go_wp2_with (first | ((with_reducible refine gate_dst (N := 23) rfl ?_); refine Kd.R_lit (Kd.int .i64) _ 3 ?hg (N := 23) ?hd (xs := ([] : List Int)) (inner := []) (ok := fun _ => True) (okp := fun _ => True) ?hr ?hp (fun _ hk => hk) trivial (Below.refl _ _) (Nat.le_refl _) (by simp) ?_; (case hd => rfl); (case hg => rfl); (case hr => first | (go_simp; done) | (go_simp; rfl)); (case hp => exact (Reps.none _ _)); intro v185 w12 ho13 hb hg_ hnew_; clear hg_ hnew_; (first | rw [← Ny184.out] at ho13 | (simp only [Int.reduceToNat] at ho13; rw [← Ny184.out] at ho13)); have n0_ := Aside0.mk (Kd.R_lower ho13 (below_size (by repeat (first | (with_reducible first | exact HB.out | apply below_alloc | apply pw_below_drewN | apply below_drew1) | exact HB.out)))); have n1_ := Aside0.mk (below_step (by repeat (first | (with_reducible first | exact HB.out | apply below_alloc | apply pw_below_drewN | apply below_drew1) | exact HB.out)) hb); clear HB; have HO186 := n0_; have HB := n1_; clear n0_ n1_; clear hb ho13))
     go_loopg [6, 26] kj2 (fun kq v6 v26 w' => ∃ (x6_2 : List Int) (x26_2 : Int), v26 = .int .i64 x26_2 ∧ Aside0 (impl_FormTimes.l0 kq a1 x6_2 l0 (l0.length : Int) x26_2 = some (r1, r2)) ∧ Aside0 (kq ≤ kj2) ∧ Aside0 (Kd.R (Kd.int .i64) 3 w' w.heap.size (fun _ => True) v6 x6_2) ∧ Aside0 (Below w.heap.size w w'))
     case atStart => exact ⟨(y184), (0), (by first | rfl | (simp; done) | (simp [*]; done)), H', ⟨Nat.le_refl _⟩, ⟨by (with_reducible repeat (first | apply Kd.R_alloc | apply Kd.R_drewN | apply Kd.R_drew)); exact HO186.out⟩, ⟨by repeat (first | (with_reducible first | exact HB.out | apply below_alloc | apply pw_below_drewN | apply below_drew1) | exact HB.out)⟩⟩
     case round =>
      clear H'
      try clear c1
      try clear c2
      try clear p2
      try clear c5
      try clear c6
      try clear c6b0
      try clear c6b1
      try clear c11
      try clear c13
      try clear p2
      obtain ⟨x6_2, x26_2, rfl, HA, HK2, HO_6, HB⟩ := hrel
      cases gk with
      | zero => exact absurd HA.out (by simp [impl_FormTimes.l0])
      | succ k2 =>
       have H := HA.out
       clear HA
       simp only [impl_FormTimes.l0] at H
       by_cases c14 : x26_2 < (l0.length : Int)
       · rw [if_pos c14] at H
         have c14b0 : decide (x26_2 < (l0.length : Int)) = true := decide_eq_true c14
         clear c14
         by_cases c15 : 0 ≤ x26_2
         · rw [if_pos c15] at H
           have c15b0 : decide (0 ≤ x26_2) = true := decide_eq_true c15
           clear c15
           by_cases c16 : x26_2 < (l0.length : Int)
           · rw [if_pos c16] at H
             have c16b0 : decide (x26_2 < (l0.length : Int)) = true := decide_eq_true c16
             clear c16
             replace H := Option.bind_eq_some_iff.mp H
             obtain ⟨⟨t188, t189⟩, A170, H⟩ := H
             replace H : (if x6_2.length < 17592186044416 then (impl_FormTimes.l0 k2 a1 (x6_2 ++ [t188]) l0 (l0.length : Int) (wrap64 (x26_2 + 1))) else (none)) = some (r1, r2) := H
             have A17 := Aside0.mk A170
             clear A170
             by_cases c18 : x6_2.length < 17592186044416
             · rw [if_pos c18] at H
               have LMc18 := Aside0.mk c18
               clear c18
               obtain ⟨y190, hy190⟩ : ∃ y_ : List Int, y_ = (x6_2 ++ [t188]) := ⟨_, rfl⟩
               replace H : (impl_FormTimes.l0 k2 a1 y190 l0 (l0.length : Int) (wrap64 (x26_2 + 1))) = some (r1, r2) := by first | (rw [hy190]; with_reducible exact H) | (have H2_ := (Option.bind_some _ _).symm.trans H; rw [hy190]; with_reducible exact H2_) | (have H2_ := (Option.bind_some _ _).symm.trans H; with_reducible exact H2_) | with_reducible exact H | (rw [hy190]; exact H) | exact H
               have Ny190 := Aside0.mk hy190
               clear hy190
               have H' := Aside0.mk H
               clear H
               have p187 : 0 ≤ (x26_2 : Int) := of_decide_eq_true (by first | (with_reducible assumption) | assumption)
               have q187 : x26_2 < (l0.length : Int) := of_decide_eq_true (by first | (with_reducible assumption) | assumption)
               obtain ⟨ad187, e187, hx187_0⟩ := Kd.at_int HR0.out x26_2 p187 q187
               cases e187
               replace hx187_0 := (HB.out.cell (World.block_lt_of_cell? w _ hx187_0)).trans hx187_0
               replace p187 := eq_true p187
               replace q187 := eq_true q187
               go_wp2_with (first | ((with_reducible refine gate_callee (f := 21) rfl ?_); refine goesL_ (some 34) rfl rfl Try.func21 (by kernel_rfl) rfl #[.int .i64 (wrap64 ((rd l0 x26_2) * a1))] rfl (by (try simp only [List.map_toArray, List.map_cons, List.map_nil]); first | done | rfl | (simp only [List.length_drop, List.length_take]; rfl)) ?_; (with_reducible refine (impl_coreOf.calls k2 (wrap64 ((rd l0 x26_2) * a1)) t188 t189 _ A17.out).mono ?_); rintro e w19 ⟨rfl, hb⟩; refine ⟨_, rfl, ?_⟩; have n0_ := Aside0.mk (Kd.R_below (by (with_reducible repeat (first | apply Kd.R_alloc | apply Kd.R_drewN | apply Kd.R_drew)); exact HO_6.out) hb); have n1_ := Aside0.mk (below_step (by repeat (first | (with_reducible first | exact HB.out | apply below_alloc | apply pw_below_drewN | apply below_drew1) | exact HB.out)) hb); clear HO_6; clear HB; have HO_6 := n0_; have HB := n1_; clear n0_ n1_; (try clear hb); (try clear hb2); (try clear hk); (try clear hi)) | ((with_reducible refine gate_builtin (b := .append) (xs := #[.tmp 37, .tmp 39]) rfl ?_); at_builtin; refine Kd.R_append (Kd.int .i64) (w0 := w) w.heap.size rfl (.tmp 37) (.tmp 39) 23 3 (.int .i64 0) 8 rfl Try.underlying23 info3 rfl (by decide) (by omega) u6 x6_2 t188 [.int .i64 t188] (fun _ => True) (fun _ => False) rfl rfl ?aP (fun _ hk => hk.elim) ?aF ?aO ?aB ?aS ?aL ?_; (case aP => exact rfl); (case aB => exact (by repeat (first | (with_reducible first | exact HB.out | apply below_alloc | apply pw_below_drewN | apply below_drew1) | exact HB.out))); (case aF => exact (fun _ _ => trivial)); (case aO => exact (by (with_reducible repeat (first | apply Kd.R_alloc | apply Kd.R_drewN | apply Kd.R_drew)); exact HO_6.out)); (case aS => exact (below_size (by repeat (first | (with_reducible first | exact HB.out | apply below_alloc | apply pw_below_drewN | apply below_drew1) | exact HB.out)))); (case aL => have := LMc18.out; omega); intro v191 w20 ho hb hg hat; rw [← Ny190.out] at ho; have n0_ := Aside0.mk (hb); have n1_ := Aside0.mk (ho); clear HB; clear HO_6; have HB := n0_; have HO192 := n1_; clear n0_ n1_; clear ho hb hg hat))
               go_roundg k2
               case measure => have := HJ2.out; have := HK2.out; omega
               case rel => exact ⟨(y190), (wrap64 (x26_2 + 1)), (by first | rfl | (simp; done) | (simp [*]; done)), H', ⟨by have := HJ2.out; have := HK2.out; omega⟩, ⟨by (with_reducible repeat (first | apply Kd.R_alloc | apply Kd.R_drewN | apply Kd.R_drew)); exact HO192.out⟩, ⟨by repeat (first | (with_reducible first | exact HB.out | apply below_alloc | apply pw_below_drewN | apply below_drew1) | exact HB.out)⟩⟩
             · rw [if_neg c18] at H
               exact absurd H (by simp)
           · rw [if_neg c16] at H
             exact absurd H (by simp)
         · rw [if_neg c15] at H
           exact absurd H (by simp)
       · rw [if_neg c14] at H
         have c14b0 : decide (x26_2 < (l0.length : Int)) = false := decide_eq_false c14
         clear c14
         replace H := Option.bind_eq_some_iff.mp H
         obtain ⟨t193, A210, H⟩ := H
         replace H : (if t193 = true then (some (x6_2, true)) else (some (([] : List Int), false))) = some (r1, r2) := H
         have A21 := Aside0.mk A210
         clear A210
         by_cases c22 : t193 = true
         · subst c22
           have H1 : (some (x6_2, true)) = some (r1, r2) := by rw [if_pos rfl] at H; exact H
           clear H
           have H := H1
           clear H1
           simp only [Option.some.injEq, Prod.mk.injEq] at H
           obtain ⟨rfl, rfl⟩ := H
           obtain ⟨Ao23, co23, eo23⟩ := Kd.R_slice HO_6.out
           subst eo23
           go_wp2_with (first | ((with_reducible refine gate_callee (f := 20) rfl ?_); refine goesL_ (some 43) rfl rfl Try.func20 (by kernel_rfl) rfl #[.slice Ao23 x6_2.length co23] rfl (by (try simp only [List.map_toArray, List.map_cons, List.map_nil]); first | done | rfl | (simp only [List.length_drop, List.length_take]; rfl)) ?_; (with_reducible refine (impl_FormValid.calls k2 _ _ x6_2 true _ ?side1 ?side2 A21.out).mono ?_); (case side1 => repeat (first | exact (Kd.R_reads' HO_6.out).2.2 | (with_reducible refine Kd.C_alloc ?_ _) | (with_reducible refine Kd.C_drewN ?_ _) | (with_reducible refine Kd.C_drew ?_))); (case side2 => exact (Kd.R_reads' HO_6.out).2.1); rintro e w24 ⟨rfl, hb⟩; refine ⟨_, rfl, ?_⟩; have n0_ := Aside0.mk (Kd.R_below (by (with_reducible repeat (first | apply Kd.R_alloc | apply Kd.R_drewN | apply Kd.R_drew)); exact HO_6.out) hb); have n1_ := Aside0.mk (below_step (by repeat (first | (with_reducible first | exact HB.out | apply below_alloc | apply pw_below_drewN | apply below_drew1) | exact HB.out)) hb); clear HO_6; clear HB; have HO_6 := n0_; have HB := n1_; clear n0_ n1_; (try clear hb); (try clear hb2); (try clear hk); (try clear hi)))
           go_ret2
           exact ⟨_, by first | rfl | (simp [errW_none, errW_some] <;> rfl) | (simp [*, errW_none, errW_some] <;> rfl), by (with_reducible repeat (first | apply Kd.R_alloc | apply Kd.R_drewN | apply Kd.R_drew)); exact HO_6.out, by repeat (first | (with_reducible first | exact HB.out | apply below_alloc | apply pw_below_drewN | apply below_drew1) | exact HB.out)⟩
         · replace c22 := Bool.eq_false_iff.mpr c22
           subst c22
           have H1 : (some (([] : List Int), false)) = some (r1, r2) := by rw [if_neg (show ¬ (false = true) by decide)] at H; exact H
           clear H
           have H := H1
           clear H1
           simp only [Option.some.injEq, Prod.mk.injEq] at H
           obtain ⟨rfl, rfl⟩ := H
           obtain ⟨Ao25, co25, eo25⟩ := Kd.R_slice HO_6.out
           subst eo25
           go_wp2_with (first | ((with_reducible refine gate_callee (f := 20) rfl ?_); refine goesL_ (some 43) rfl rfl Try.func20 (by kernel_rfl) rfl #[.slice Ao25 x6_2.length co25] rfl (by (try simp only [List.map_toArray, List.map_cons, List.map_nil]); first | done | rfl | (simp only [List.length_drop, List.length_take]; rfl)) ?_; (with_reducible refine (impl_FormValid.calls k2 _ _ x6_2 false _ ?side1 ?side2 A21.out).mono ?_); (case side1 => repeat (first | exact (Kd.R_reads' HO_6.out).2.2 | (with_reducible refine Kd.C_alloc ?_ _) | (with_reducible refine Kd.C_drewN ?_ _) | (with_reducible refine Kd.C_drew ?_))); (case side2 => exact (Kd.R_reads' HO_6.out).2.1); rintro e w26 ⟨rfl, hb⟩; refine ⟨_, rfl, ?_⟩; have n0_ := Aside0.mk (Kd.R_below (by (with_reducible repeat (first | apply Kd.R_alloc | apply Kd.R_drewN | apply Kd.R_drew)); exact HO_6.out) hb); have n1_ := Aside0.mk (below_step (by repeat (first | (with_reducible first | exact HB.out | apply below_alloc | apply pw_below_drewN | apply below_drew1) | exact HB.out)) hb); clear HO_6; clear HB; have HO_6 := n0_; have HB := n1_; clear n0_ n1_; (try clear hb); (try clear hb2); (try clear hk); (try clear hi)))
           go_ret2
           exact ⟨_, by first | rfl | (simp [errW_none, errW_some] <;> rfl) | (simp [*, errW_none, errW_some] <;> rfl), by first | exact Kd.R_nil _ _ _ _ _ | exact Kd.N_nil _ _ _ _ _ | exact Kd.V_nil _ _ _ _ _ | exact Kd.Q_nil _ _ _ _ _ | exact Kd.S_nil _ _ _ _ _, by repeat (first | (with_reducible first | exact HB.out | apply below_alloc | apply pw_below_drewN | apply below_drew1) | exact HB.out)⟩

/-! ### spec_l6In: function 35 -/
def spec_l6In.f (a0 : Int) (a1 : Int) (a2 : Int) : Option (Bool) := if a0 ≥ a1 then (some (decide (a0 ≤ a2))) else (some false)
set_option maxHeartbeats 8000000 in
set_option maxRecDepth 100000 in
theorem spec_l6In.calls (a0 : Int) (a1 : Int) (a2 : Int) (r : Bool) (w : World) (h : spec_l6In.f a0 a1 a2 = some r) :
 Calls Try.prog 35 #[.int .i64 a0, .int .i64 a1, .int .i64 a2] w fun e w' => e = .returned (.bool r) ∧ Drawn0 w w' := by
 have H : (if a0 ≥ a1 then (some (decide (a0 ≤ a2))) else (some false)) = some r := h
 clear h
 by_cases c4 : a0 ≥ a1
 · rw [if_pos c4] at H
   have c4b0 : decide (a1 ≤ a0) = true := decide_eq_true c4
   clear c4
   obtain rfl := Option.some.inj H
   go_enter Try.func35, Try.ntmps35
   go_wp2
   go_ret
   exact ⟨by first | rfl | (simp; done) | (simp [*]; done), by repeat (first | exact Drawn0.refl _ | apply Drawn0.step)⟩
 · rw [if_neg c4] at H
   have c4b0 : decide (a1 ≤ a0) = false := decide_eq_false c4
   clear c4
   obtain rfl := Option.some.inj H
   go_enter Try.func35, Try.ntmps35
   go_wp2
   go_ret
   exact ⟨by first | rfl | (simp; done) | (simp [*]; done), by repeat (first | exact Drawn0.refl _ | apply Drawn0.step)⟩

end Go.Proofs.Ytkbklmlahnjcmaa.PFnTimes

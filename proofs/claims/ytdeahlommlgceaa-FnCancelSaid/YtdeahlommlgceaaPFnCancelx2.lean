-- Written by a program of this repo (wip/gen/gen.py) over the kit's print.
-- (slim)
import Derived.Test.YtdeahlommlgceaaPFnCancelx0
import Derived.Test.YtdeahlommlgceaaPFnCancelx1
namespace Go.Proofs.Ytdeahlommlgceaa.PFnCancel
open Go.RowKit Go.Proofs.YtdeahlommlgceaaW.PrintWords Go.Proofs.YtdeahlommlgceaaW.PrintLast Go.Proofs.YtdeahlommlgceaaW.PrintMore
attribute [local go_sem] max2_int min2_int max_two min_two max_three min_three max_four min_four   -- for this text's walks alone
set_option linter.unusedVariables false
set_option linter.unusedSimpArgs false

/-! ### spec_l91Same: function 109 -/
def spec_l91Same.j0 : Nat → List Int → Int → Int → Int → Int → Bool → List Int → Int → Option (List Int × Int)
 | 0, _, _, _, _, _, _, _, _ => none
 | k + 1, x5, x6, x7, x8, x11, x59, x1000, x1001 => if x59 = true then ((spec_l1Core.f k x11).bind fun bt156 => ((spec_l1Core.f k (wrap64 ((wrap64 (x7 * x8)) * x11))).bind fun bt158 => ((spec_l1Size.f bt156.1).bind fun t160 => (if t160 ≤ 30 then ((spec_l1Size.f bt158.1).bind fun t161 => (if t161 ≤ 30 then (if 0 ≤ x6 then (if x6 < (x5.length : Int) then (if 0 ≤ (wrap64 (x6 + 1)) then (if (wrap64 (x6 + 1)) < (x5.length : Int) then (some (((x5.set (x6 : Int).toNat bt156.1).set ((wrap64 (x6 + 1)) : Int).toNat bt158.1), x1001)) else (none)) else (none)) else (none)) else (none)) else (if 0 ≤ x6 then (if x6 < (x5.length : Int) then (if 0 ≤ (wrap64 (x6 + 1)) then (if (wrap64 (x6 + 1)) < (x5.length : Int) then (some (((x5.set (x6 : Int).toNat x8).set ((wrap64 (x6 + 1)) : Int).toNat x7), x1001)) else (none)) else (none)) else (none)) else (none)))) else (if 0 ≤ x6 then (if x6 < (x5.length : Int) then (if 0 ≤ (wrap64 (x6 + 1)) then (if (wrap64 (x6 + 1)) < (x5.length : Int) then (some (((x5.set (x6 : Int).toNat x8).set ((wrap64 (x6 + 1)) : Int).toNat x7), x1001)) else (none)) else (none)) else (none)) else (none)))))) else (if 0 ≤ x6 then (if x6 < (x5.length : Int) then (if 0 ≤ (wrap64 (x6 + 1)) then (if (wrap64 (x6 + 1)) < (x5.length : Int) then (some (((x5.set (x6 : Int).toNat x8).set ((wrap64 (x6 + 1)) : Int).toNat x7), x1001)) else (none)) else (none)) else (none)) else (none))
def spec_l91Same.f (k : Nat) (s0_0 : List Int) (s0_1 : Int) (l1 : List Int) : Option (List Int × Int) := (some (([] : List Int) : List Int)).bind fun y140 => (if y140.length + l1.length < 17592186044416 then ((some (y140 ++ l1 : List Int)).bind fun y143 => (if (y143.length : Int) < 2 then (some (y143, s0_1)) else ((spec_l6Rd_pick.f k s0_0 s0_1 (wrap64 ((y143.length : Int) - 1))).bind fun bt146 => (if 0 ≤ bt146.1 then (if bt146.1 < (y143.length : Int) then (if 0 ≤ (wrap64 (bt146.1 + 1)) then (if (wrap64 (bt146.1 + 1)) < (y143.length : Int) then ((spec_l6Rd_pick.f k s0_0 bt146.2 2).bind fun bt150 => ((spec_l6Rd_pick.f k s0_0 bt150.2 2).bind fun bt152 => (if (wrap64 ((wrap64 ((wrap64 ((rd y143 bt146.1) * bt150.1)) * bt150.1)) + (wrap64 ((wrap64 ((rd y143 (wrap64 (bt146.1 + 1))) * (wrap64 (1 + bt152.1)))) * (wrap64 (1 + bt152.1)))))) = 0 then (spec_l91Same.j0 k y143 bt146.1 (rd y143 bt146.1) (rd y143 (wrap64 (bt146.1 + 1))) (wrap64 ((wrap64 ((wrap64 ((rd y143 bt146.1) * bt150.1)) * bt150.1)) + (wrap64 ((wrap64 ((rd y143 (wrap64 (bt146.1 + 1))) * (wrap64 (1 + bt152.1)))) * (wrap64 (1 + bt152.1)))))) false s0_0 bt152.2) else ((spec_l6Rd_pick.f k s0_0 bt152.2 3).bind fun bt154 => (spec_l91Same.j0 k y143 bt146.1 (rd y143 bt146.1) (rd y143 (wrap64 (bt146.1 + 1))) (wrap64 ((wrap64 ((wrap64 ((rd y143 bt146.1) * bt150.1)) * bt150.1)) + (wrap64 ((wrap64 ((rd y143 (wrap64 (bt146.1 + 1))) * (wrap64 (1 + bt152.1)))) * (wrap64 (1 + bt152.1)))))) (decide (bt154.1 > 0)) s0_0 bt154.2))))) else (none)) else (none)) else (none)) else (none))))) else (none))
theorem spec_l91Same.mono_l : ∀ k, (∀ y0 y1 y2 y3 y4 y5 y6 y7, LeO (spec_l91Same.j0 k y0 y1 y2 y3 y4 y5 y6 y7) (spec_l91Same.j0 (k + 1) y0 y1 y2 y3 y4 y5 y6 y7))
 | 0 => fun _ _ _ _ _ _ _ _ r h => by simp [spec_l91Same.j0] at h
 | k + 1 => by
  have ih0 := spec_l91Same.mono_l k
  · intro y0 y1 y2 y3 y4 y5 y6 y7
    unfold spec_l91Same.j0
    repeat' first
    | (with_reducible exact ih0 _ _ _ _ _ _ _ _)
    | (with_reducible exact spec_l1Core.mono _ _)
    | (with_reducible exact spec_l6Rd_pick.mono _ _ _ _)
    | (with_reducible exact LeO.refl _)
    | (with_reducible exact LeO.none _)
    | (with_reducible refine LeO.ite ?_ ?_)
    | (with_reducible refine LeO.bind ?_ (fun _ => ?_))
    | exact ih0 _ _ _ _ _ _ _ _
    | exact spec_l1Core.mono _ _
    | exact spec_l6Rd_pick.mono _ _ _ _
    | exact LeO.none _
    | refine LeO.ite ?_ ?_
    | refine LeO.bind ?_ (fun _ => ?_)
theorem spec_l91Same.mono : ∀ a0 a1 a2 k, LeO (spec_l91Same.f k a0 a1 a2) (spec_l91Same.f (k + 1) a0 a1 a2) := by
 intro a0 a1 a2 k
 have ih0 := spec_l91Same.mono_l k
 unfold spec_l91Same.f
 repeat' first
  | (with_reducible exact ih0 _ _ _ _ _ _ _ _)
  | (with_reducible exact spec_l1Core.mono _ _)
  | (with_reducible exact spec_l6Rd_pick.mono _ _ _ _)
  | (with_reducible exact LeO.refl _)
  | (with_reducible exact LeO.none _)
  | (with_reducible refine LeO.ite ?_ ?_)
  | (with_reducible refine LeO.bind ?_ (fun _ => ?_))
  | exact ih0 _ _ _ _ _ _ _ _
  | exact spec_l1Core.mono _ _
  | exact spec_l6Rd_pick.mono _ _ _ _
  | exact LeO.none _
  | refine LeO.ite ?_ ?_
  | refine LeO.bind ?_ (fun _ => ?_)
set_option maxHeartbeats 8000000 in
set_option maxRecDepth 100000 in
theorem spec_l91Same.calls (k : Nat) (g : Nat) (s0_0 : List Int) (s0_1 : Int) (A1 : Option Addr) (c1 : Nat) (l1 : List Int) (r1 : List Int) (r2 : Int) (w0 w : World) (hI : IsS81 w0 w g s0_0 s0_1) (hB : Below w0.heap.size w0 w) (hr1 : Kd.C (Kd.int .i64) w A1 l1.length l1) (hc1 : l1.length ≤ c1) (hf1 : ∀ ad, A1 = some ad → 0 < l1.length → ad.block ≠ g) (h : spec_l91Same.f k s0_0 s0_1 l1 = some (r1, r2)) :
 Calls Try.prog 109 #[.pointer (some ⟨g, 0, none⟩), .slice A1 l1.length c1] w fun e w' => ∃ v0_ : Value, e = .returned (v0_) ∧ Kd.R (Kd.int .i64) 3 w' w.heap.size (fun _ => True) v0_ r1 ∧ IsS81 w0 w' g s0_0 r2 ∧ Below w0.heap.size w0 w' ∧ KeepBut w w' g none := by
 have HR1 := Aside0.mk hr1
 have HC1 := Aside0.mk hc1
 clear hr1 hc1
 have HI0 := Aside0.mk hI
 have HK := Aside0.mk (KeepBut.refl w g none)
 have HL := Aside0.mk hB.size
 clear hI
 have HW0 := Aside0.mk hB.size
 have HB := Aside0.mk hB
 clear hB
 have H : ((some (([] : List Int) : List Int)).bind fun y140 => (if y140.length + l1.length < 17592186044416 then ((some (y140 ++ l1 : List Int)).bind fun y143 => (if (y143.length : Int) < 2 then (some (y143, s0_1)) else ((spec_l6Rd_pick.f k s0_0 s0_1 (wrap64 ((y143.length : Int) - 1))).bind fun bt146 => (if 0 ≤ bt146.1 then (if bt146.1 < (y143.length : Int) then (if 0 ≤ (wrap64 (bt146.1 + 1)) then (if (wrap64 (bt146.1 + 1)) < (y143.length : Int) then ((spec_l6Rd_pick.f k s0_0 bt146.2 2).bind fun bt150 => ((spec_l6Rd_pick.f k s0_0 bt150.2 2).bind fun bt152 => (if (wrap64 ((wrap64 ((wrap64 ((rd y143 bt146.1) * bt150.1)) * bt150.1)) + (wrap64 ((wrap64 ((rd y143 (wrap64 (bt146.1 + 1))) * (wrap64 (1 + bt152.1)))) * (wrap64 (1 + bt152.1)))))) = 0 then (spec_l91Same.j0 k y143 bt146.1 (rd y143 bt146.1) (rd y143 (wrap64 (bt146.1 + 1))) (wrap64 ((wrap64 ((wrap64 ((rd y143 bt146.1) * bt150.1)) * bt150.1)) + (wrap64 ((wrap64 ((rd y143 (wrap64 (bt146.1 + 1))) * (wrap64 (1 + bt152.1)))) * (wrap64 (1 + bt152.1)))))) false s0_0 bt152.2) else ((spec_l6Rd_pick.f k s0_0 bt152.2 3).bind fun bt154 => (spec_l91Same.j0 k y143 bt146.1 (rd y143 bt146.1) (rd y143 (wrap64 (bt146.1 + 1))) (wrap64 ((wrap64 ((wrap64 ((rd y143 bt146.1) * bt150.1)) * bt150.1)) + (wrap64 ((wrap64 ((rd y143 (wrap64 (bt146.1 + 1))) * (wrap64 (1 + bt152.1)))) * (wrap64 (1 + bt152.1)))))) (decide (bt154.1 > 0)) s0_0 bt154.2))))) else (none)) else (none)) else (none)) else (none))))) else (none))) = some (r1, r2) := h
 clear h
 obtain ⟨y140, hy140⟩ : ∃ y_ : List Int, y_ = (([] : List Int)) := ⟨_, rfl⟩
 replace H : (if y140.length + l1.length < 17592186044416 then ((some (y140 ++ l1 : List Int)).bind fun y143 => (if (y143.length : Int) < 2 then (some (y143, s0_1)) else ((spec_l6Rd_pick.f k s0_0 s0_1 (wrap64 ((y143.length : Int) - 1))).bind fun bt146 => (if 0 ≤ bt146.1 then (if bt146.1 < (y143.length : Int) then (if 0 ≤ (wrap64 (bt146.1 + 1)) then (if (wrap64 (bt146.1 + 1)) < (y143.length : Int) then ((spec_l6Rd_pick.f k s0_0 bt146.2 2).bind fun bt150 => ((spec_l6Rd_pick.f k s0_0 bt150.2 2).bind fun bt152 => (if (wrap64 ((wrap64 ((wrap64 ((rd y143 bt146.1) * bt150.1)) * bt150.1)) + (wrap64 ((wrap64 ((rd y143 (wrap64 (bt146.1 + 1))) * (wrap64 (1 + bt152.1)))) * (wrap64 (1 + bt152.1)))))) = 0 then (spec_l91Same.j0 k y143 bt146.1 (rd y143 bt146.1) (rd y143 (wrap64 (bt146.1 + 1))) (wrap64 ((wrap64 ((wrap64 ((rd y143 bt146.1) * bt150.1)) * bt150.1)) + (wrap64 ((wrap64 ((rd y143 (wrap64 (bt146.1 + 1))) * (wrap64 (1 + bt152.1)))) * (wrap64 (1 + bt152.1)))))) false s0_0 bt152.2) else ((spec_l6Rd_pick.f k s0_0 bt152.2 3).bind fun bt154 => (spec_l91Same.j0 k y143 bt146.1 (rd y143 bt146.1) (rd y143 (wrap64 (bt146.1 + 1))) (wrap64 ((wrap64 ((wrap64 ((rd y143 bt146.1) * bt150.1)) * bt150.1)) + (wrap64 ((wrap64 ((rd y143 (wrap64 (bt146.1 + 1))) * (wrap64 (1 + bt152.1)))) * (wrap64 (1 + bt152.1)))))) (decide (bt154.1 > 0)) s0_0 bt154.2))))) else (none)) else (none)) else (none)) else (none))))) else (none)) = some (r1, r2) := by first | (rw [hy140]; with_reducible exact H) | (have H2_ := (Option.bind_some _ _).symm.trans H; rw [hy140]; with_reducible exact H2_) | (have H2_ := (Option.bind_some _ _).symm.trans H; with_reducible exact H2_) | with_reducible exact H | (rw [hy140]; exact H) | exact H
 have Ny140 := Aside0.mk hy140
 clear hy140
 by_cases c3 : y140.length + l1.length < 17592186044416
 · rw [if_pos c3] at H
   have LMc3 := Aside0.mk c3
   clear c3
   obtain ⟨y143, hy143⟩ : ∃ y_ : List Int, y_ = (y140 ++ l1) := ⟨_, rfl⟩
   replace H : (if (y143.length : Int) < 2 then (some (y143, s0_1)) else ((spec_l6Rd_pick.f k s0_0 s0_1 (wrap64 ((y143.length : Int) - 1))).bind fun bt146 => (if 0 ≤ bt146.1 then (if bt146.1 < (y143.length : Int) then (if 0 ≤ (wrap64 (bt146.1 + 1)) then (if (wrap64 (bt146.1 + 1)) < (y143.length : Int) then ((spec_l6Rd_pick.f k s0_0 bt146.2 2).bind fun bt150 => ((spec_l6Rd_pick.f k s0_0 bt150.2 2).bind fun bt152 => (if (wrap64 ((wrap64 ((wrap64 ((rd y143 bt146.1) * bt150.1)) * bt150.1)) + (wrap64 ((wrap64 ((rd y143 (wrap64 (bt146.1 + 1))) * (wrap64 (1 + bt152.1)))) * (wrap64 (1 + bt152.1)))))) = 0 then (spec_l91Same.j0 k y143 bt146.1 (rd y143 bt146.1) (rd y143 (wrap64 (bt146.1 + 1))) (wrap64 ((wrap64 ((wrap64 ((rd y143 bt146.1) * bt150.1)) * bt150.1)) + (wrap64 ((wrap64 ((rd y143 (wrap64 (bt146.1 + 1))) * (wrap64 (1 + bt152.1)))) * (wrap64 (1 + bt152.1)))))) false s0_0 bt152.2) else ((spec_l6Rd_pick.f k s0_0 bt152.2 3).bind fun bt154 => (spec_l91Same.j0 k y143 bt146.1 (rd y143 bt146.1) (rd y143 (wrap64 (bt146.1 + 1))) (wrap64 ((wrap64 ((wrap64 ((rd y143 bt146.1) * bt150.1)) * bt150.1)) + (wrap64 ((wrap64 ((rd y143 (wrap64 (bt146.1 + 1))) * (wrap64 (1 + bt152.1)))) * (wrap64 (1 + bt152.1)))))) (decide (bt154.1 > 0)) s0_0 bt154.2))))) else (none)) else (none)) else (none)) else (none)))) = some (r1, r2) := by first | (rw [hy143]; with_reducible exact H) | (have H2_ := (Option.bind_some _ _).symm.trans H; rw [hy143]; with_reducible exact H2_) | (have H2_ := (Option.bind_some _ _).symm.trans H; with_reducible exact H2_) | with_reducible exact H | (rw [hy143]; exact H) | exact H
   have Ny143 := Aside0.mk hy143
   clear hy143
   by_cases c4 : (y143.length : Int) < 2
   · rw [if_pos c4] at H
     have c4b0 : decide ((y143.length : Int) < 2) = true := decide_eq_true c4
     have c4b1 : decide (y143.length < 2) = true := decide_eq_true (by omega)
     clear c4
     simp only [Option.some.injEq, Prod.mk.injEq] at H
     obtain ⟨rfl, rfl⟩ := H
     go_enter Try.func109, Try.ntmps109
     go_wp2_with (first | ((with_reducible refine gate_dst (N := 16) rfl ?_); refine Kd.R_lit (Kd.int .i64) _ 3 ?hg (N := 16) ?hd (xs := ([] : List Int)) (inner := []) (ok := fun _ => True) (okp := fun _ => True) ?hr ?hp (fun _ hk => hk) trivial (Below.refl _ _) (Nat.le_refl _) (by simp) ?_; (case hd => rfl); (case hg => rfl); (case hr => first | (go_simp; done) | (go_simp; rfl)); (case hp => exact (Reps.none _ _)); intro v141 w5 ho6 hb hg_ hnew_; clear hg_ hnew_; (first | rw [← Ny140.out] at ho6 | (simp only [Int.reduceToNat] at ho6; rw [← Ny140.out] at ho6)); have n0_ := Aside0.mk (Kd.R_lower ho6 (keep_size (w := w) (g := g) (row := none) (by repeat (first | (with_reducible first | exact HK.out | apply KeepBut.set_ | apply keep_drewN | apply keep_drew | apply keep_alloc) | exact HK.out)))); have n1_ := Aside0.mk (IsS81.below (by repeat (first | (with_reducible first | exact HI0.out | apply IsS81.alloc | apply IsS81.drewN | apply IsS81.drew | apply IsS81.set_1) | exact HI0.out)) hb); have n2_ := Aside0.mk (KeepBut.trans (by repeat (first | (with_reducible first | exact HK.out | apply KeepBut.set_ | apply keep_drewN | apply keep_drew | apply keep_alloc) | exact HK.out)) (KeepBut.of_below hb g none) (.inl rfl)); have n3_ := Aside0.mk (below_step (by repeat (first | (with_reducible first | exact HB.out | apply below_alloc | apply pw_below_drewN | apply below_drew1 | refine below_set ?_ (IsS81.ge HI0.out)) | exact HB.out)) hb); clear HI0; clear HK; clear HB; have HO142 := n0_; have HI0 := n1_; have HK := n2_; have HB := n3_; clear n0_ n1_ n2_ n3_; clear hb ho6) | ((with_reducible refine gate_builtin (b := .append) (xs := #[.tmp 16, .tmp 17]) rfl ?_); at_builtin; refine Kd.R_append_rows (Kd.int .i64) w.heap.size rfl (.tmp 16) (.tmp 17) 23 3 (.int .i64 0) 8 rfl Try.underlying23 info3 rfl (by decide) (by omega) v141 y140 l1 _ _ _ (fun _ => True) (fun _ => False) rfl rfl ?aO ?aR (fun _ _ h => h) (fun _ h => h.elim) ?aF (Below.refl _ _) ?aS ?aL ?_; (case aR => exact Kd.C_keep 0 HR1.out (by repeat (first | (with_reducible first | exact HK.out | apply KeepBut.set_ | apply keep_drewN | apply keep_drew | apply keep_alloc) | exact HK.out)) hf1); (case aF => exact (fun _ _ => trivial)); (case aO => exact (by (with_reducible repeat (first | apply Kd.R_alloc | apply Kd.R_drewN | apply Kd.R_drew)); exact HO142.out)); (case aS => exact (keep_size (w := w) (g := g) (row := none) (by repeat (first | (with_reducible first | exact HK.out | apply KeepBut.set_ | apply keep_drewN | apply keep_drew | apply keep_alloc) | exact HK.out)))); (case aL => have := LMc3.out; omega); intro v144 w7 ho hb hg hat; rw [← Ny143.out] at ho; have n0_ := Aside0.mk (IsS81.grown (by repeat (first | (with_reducible first | exact HI0.out | apply IsS81.alloc | apply IsS81.drewN | apply IsS81.drew | apply IsS81.set_1) | exact HI0.out)) hg (IsS81.own_ne HI0.out HO142.out (by decide))); have n1_ := Aside0.mk (below_weaken (by repeat (first | (with_reducible first | exact HB.out | apply below_alloc | apply pw_below_drewN | apply below_drew1 | refine below_set ?_ (IsS81.ge HI0.out)) | exact HB.out)) HL.out hb); have n2_ := Aside0.mk (KeepBut.trans (by repeat (first | (with_reducible first | exact HK.out | apply KeepBut.set_ | apply keep_drewN | apply keep_drew | apply keep_alloc) | exact HK.out)) (KeepBut.of_grown hg g) (Kd.R_base2 HO142.out)); have n3_ := Aside0.mk (ho); clear HI0; clear HB; clear HK; clear HO142; have HI0 := n0_; have HB := n1_; have HK := n2_; have HO145 := n3_; clear n0_ n1_ n2_ n3_; clear ho hb hg hat; obtain ⟨Ao8, co8, eo8⟩ := Kd.R_slice HO145.out; subst eo8))
     go_ret
     exact ⟨_, by first | rfl | (simp [errW_none, errW_some] <;> rfl) | (simp [*, errW_none, errW_some] <;> rfl), by (with_reducible repeat (first | apply Kd.R_alloc | apply Kd.R_drewN | apply Kd.R_drew)); exact HO145.out, by repeat (first | (with_reducible first | exact HI0.out | apply IsS81.alloc | apply IsS81.drewN | apply IsS81.drew | apply IsS81.set_1) | exact HI0.out), by repeat (first | (with_reducible first | exact HB.out | apply below_alloc | apply pw_below_drewN | apply below_drew1 | refine below_set ?_ (IsS81.ge HI0.out)) | exact HB.out), by repeat (first | (with_reducible first | exact HK.out | apply KeepBut.set_ | apply keep_drewN | apply keep_drew | apply keep_alloc) | exact HK.out)⟩
   · rw [if_neg c4] at H
     have c4b0 : decide ((y143.length : Int) < 2) = false := decide_eq_false c4
     have c4b1 : decide (y143.length < 2) = false := decide_eq_false (by omega)
     clear c4
     replace H := Option.bind_eq_some_iff.mp H
     obtain ⟨⟨t146, t147⟩, A90, H⟩ := H
     replace H : (if 0 ≤ t146 then (if t146 < (y143.length : Int) then (if 0 ≤ (wrap64 (t146 + 1)) then (if (wrap64 (t146 + 1)) < (y143.length : Int) then ((spec_l6Rd_pick.f k s0_0 t147 2).bind fun bt150 => ((spec_l6Rd_pick.f k s0_0 bt150.2 2).bind fun bt152 => (if (wrap64 ((wrap64 ((wrap64 ((rd y143 t146) * bt150.1)) * bt150.1)) + (wrap64 ((wrap64 ((rd y143 (wrap64 (t146 + 1))) * (wrap64 (1 + bt152.1)))) * (wrap64 (1 + bt152.1)))))) = 0 then (spec_l91Same.j0 k y143 t146 (rd y143 t146) (rd y143 (wrap64 (t146 + 1))) (wrap64 ((wrap64 ((wrap64 ((rd y143 t146) * bt150.1)) * bt150.1)) + (wrap64 ((wrap64 ((rd y143 (wrap64 (t146 + 1))) * (wrap64 (1 + bt152.1)))) * (wrap64 (1 + bt152.1)))))) false s0_0 bt152.2) else ((spec_l6Rd_pick.f k s0_0 bt152.2 3).bind fun bt154 => (spec_l91Same.j0 k y143 t146 (rd y143 t146) (rd y143 (wrap64 (t146 + 1))) (wrap64 ((wrap64 ((wrap64 ((rd y143 t146) * bt150.1)) * bt150.1)) + (wrap64 ((wrap64 ((rd y143 (wrap64 (t146 + 1))) * (wrap64 (1 + bt152.1)))) * (wrap64 (1 + bt152.1)))))) (decide (bt154.1 > 0)) s0_0 bt154.2))))) else (none)) else (none)) else (none)) else (none)) = some (r1, r2) := H
     have A9 := Aside0.mk A90
     clear A90
     by_cases c10 : 0 ≤ t146
     · rw [if_pos c10] at H
       have c10b0 : decide (0 ≤ t146) = true := decide_eq_true c10
       clear c10
       by_cases c11 : t146 < (y143.length : Int)
       · rw [if_pos c11] at H
         have c11b0 : decide (t146 < (y143.length : Int)) = true := decide_eq_true c11
         clear c11
         obtain ⟨ji12, hji12⟩ : ∃ j_ : Int, (wrap64 (t146 + 1)) = j_ := ⟨_, rfl⟩
         replace H : (if 0 ≤ (ji12) then (if (ji12) < (y143.length : Int) then ((spec_l6Rd_pick.f k s0_0 t147 2).bind fun bt150 => ((spec_l6Rd_pick.f k s0_0 bt150.2 2).bind fun bt152 => (if (wrap64 ((wrap64 ((wrap64 ((rd y143 t146) * bt150.1)) * bt150.1)) + (wrap64 ((wrap64 ((rd y143 (ji12)) * (wrap64 (1 + bt152.1)))) * (wrap64 (1 + bt152.1)))))) = 0 then (spec_l91Same.j0 k y143 t146 (rd y143 t146) (rd y143 (ji12)) (wrap64 ((wrap64 ((wrap64 ((rd y143 t146) * bt150.1)) * bt150.1)) + (wrap64 ((wrap64 ((rd y143 (ji12)) * (wrap64 (1 + bt152.1)))) * (wrap64 (1 + bt152.1)))))) false s0_0 bt152.2) else ((spec_l6Rd_pick.f k s0_0 bt152.2 3).bind fun bt154 => (spec_l91Same.j0 k y143 t146 (rd y143 t146) (rd y143 (ji12)) (wrap64 ((wrap64 ((wrap64 ((rd y143 t146) * bt150.1)) * bt150.1)) + (wrap64 ((wrap64 ((rd y143 (ji12)) * (wrap64 (1 + bt152.1)))) * (wrap64 (1 + bt152.1)))))) (decide (bt154.1 > 0)) s0_0 bt154.2))))) else (none)) else (none)) = some (r1, r2) := by first | (rw [hji12] at H; exact H) | (simp only [hji12] at H ⊢; exact H)
         (try rw [hji12] at A9)
         have hji12w : (IntKind.i64.wrap (t146 + 1)) = ji12 := (i64_w _).trans hji12
         by_cases c13 : 0 ≤ (ji12)
         · rw [if_pos c13] at H
           have c13b0 : decide (0 ≤ (ji12)) = true := decide_eq_true c13
           clear c13
           by_cases c14 : (ji12) < (y143.length : Int)
           · rw [if_pos c14] at H
             have c14b0 : decide ((ji12) < (y143.length : Int)) = true := decide_eq_true c14
             clear c14
             replace H := Option.bind_eq_some_iff.mp H
             obtain ⟨⟨t150, t151⟩, A150, H⟩ := H
             replace H : ((spec_l6Rd_pick.f k s0_0 t151 2).bind fun bt152 => (if (wrap64 ((wrap64 ((wrap64 ((rd y143 t146) * t150)) * t150)) + (wrap64 ((wrap64 ((rd y143 (ji12)) * (wrap64 (1 + bt152.1)))) * (wrap64 (1 + bt152.1)))))) = 0 then (spec_l91Same.j0 k y143 t146 (rd y143 t146) (rd y143 (ji12)) (wrap64 ((wrap64 ((wrap64 ((rd y143 t146) * t150)) * t150)) + (wrap64 ((wrap64 ((rd y143 (ji12)) * (wrap64 (1 + bt152.1)))) * (wrap64 (1 + bt152.1)))))) false s0_0 bt152.2) else ((spec_l6Rd_pick.f k s0_0 bt152.2 3).bind fun bt154 => (spec_l91Same.j0 k y143 t146 (rd y143 t146) (rd y143 (ji12)) (wrap64 ((wrap64 ((wrap64 ((rd y143 t146) * t150)) * t150)) + (wrap64 ((wrap64 ((rd y143 (ji12)) * (wrap64 (1 + bt152.1)))) * (wrap64 (1 + bt152.1)))))) (decide (bt154.1 > 0)) s0_0 bt154.2)))) = some (r1, r2) := H
             have A15 := Aside0.mk A150
             clear A150
             replace H := Option.bind_eq_some_iff.mp H
             obtain ⟨⟨t152, t153⟩, A160, H⟩ := H
             replace H : (if (wrap64 ((wrap64 ((wrap64 ((rd y143 t146) * t150)) * t150)) + (wrap64 ((wrap64 ((rd y143 (ji12)) * (wrap64 (1 + t152)))) * (wrap64 (1 + t152)))))) = 0 then (spec_l91Same.j0 k y143 t146 (rd y143 t146) (rd y143 (ji12)) (wrap64 ((wrap64 ((wrap64 ((rd y143 t146) * t150)) * t150)) + (wrap64 ((wrap64 ((rd y143 (ji12)) * (wrap64 (1 + t152)))) * (wrap64 (1 + t152)))))) false s0_0 t153) else ((spec_l6Rd_pick.f k s0_0 t153 3).bind fun bt154 => (spec_l91Same.j0 k y143 t146 (rd y143 t146) (rd y143 (ji12)) (wrap64 ((wrap64 ((wrap64 ((rd y143 t146) * t150)) * t150)) + (wrap64 ((wrap64 ((rd y143 (ji12)) * (wrap64 (1 + t152)))) * (wrap64 (1 + t152)))))) (decide (bt154.1 > 0)) s0_0 bt154.2))) = some (r1, r2) := H
             have A16 := Aside0.mk A160
             clear A160
             have HC17 := Aside0.mk H
             clear H
             go_enter Try.func109, Try.ntmps109
             go_upto_region 10 with (first | ((with_reducible refine gate_dst (N := 16) rfl ?_); refine Kd.R_lit (Kd.int .i64) _ 3 ?hg (N := 16) ?hd (xs := ([] : List Int)) (inner := []) (ok := fun _ => True) (okp := fun _ => True) ?hr ?hp (fun _ hk => hk) trivial (Below.refl _ _) (Nat.le_refl _) (by simp) ?_; (case hd => rfl); (case hg => rfl); (case hr => first | (go_simp; done) | (go_simp; rfl)); (case hp => exact (Reps.none _ _)); intro v141 w18 ho19 hb hg_ hnew_; clear hg_ hnew_; (first | rw [← Ny140.out] at ho19 | (simp only [Int.reduceToNat] at ho19; rw [← Ny140.out] at ho19)); have n0_ := Aside0.mk (Kd.R_lower ho19 (keep_size (w := w) (g := g) (row := none) (by repeat (first | (with_reducible first | exact HK.out | apply KeepBut.set_ | apply keep_drewN | apply keep_drew | apply keep_alloc) | exact HK.out)))); have n1_ := Aside0.mk (IsS81.below (by repeat (first | (with_reducible first | exact HI0.out | apply IsS81.alloc | apply IsS81.drewN | apply IsS81.drew | apply IsS81.set_1) | exact HI0.out)) hb); have n2_ := Aside0.mk (KeepBut.trans (by repeat (first | (with_reducible first | exact HK.out | apply KeepBut.set_ | apply keep_drewN | apply keep_drew | apply keep_alloc) | exact HK.out)) (KeepBut.of_below hb g none) (.inl rfl)); have n3_ := Aside0.mk (below_step (by repeat (first | (with_reducible first | exact HB.out | apply below_alloc | apply pw_below_drewN | apply below_drew1 | refine below_set ?_ (IsS81.ge HI0.out)) | exact HB.out)) hb); clear HI0; clear HK; clear HB; have HO142 := n0_; have HI0 := n1_; have HK := n2_; have HB := n3_; clear n0_ n1_ n2_ n3_; clear hb ho19) | ((with_reducible refine gate_builtin (b := .append) (xs := #[.tmp 16, .tmp 17]) rfl ?_); at_builtin; refine Kd.R_append_rows (Kd.int .i64) w.heap.size rfl (.tmp 16) (.tmp 17) 23 3 (.int .i64 0) 8 rfl Try.underlying23 info3 rfl (by decide) (by omega) v141 y140 l1 _ _ _ (fun _ => True) (fun _ => False) rfl rfl ?aO ?aR (fun _ _ h => h) (fun _ h => h.elim) ?aF (Below.refl _ _) ?aS ?aL ?_; (case aR => exact Kd.C_keep 0 HR1.out (by repeat (first | (with_reducible first | exact HK.out | apply KeepBut.set_ | apply keep_drewN | apply keep_drew | apply keep_alloc) | exact HK.out)) hf1); (case aF => exact (fun _ _ => trivial)); (case aO => exact (by (with_reducible repeat (first | apply Kd.R_alloc | apply Kd.R_drewN | apply Kd.R_drew)); exact HO142.out)); (case aS => exact (keep_size (w := w) (g := g) (row := none) (by repeat (first | (with_reducible first | exact HK.out | apply KeepBut.set_ | apply keep_drewN | apply keep_drew | apply keep_alloc) | exact HK.out)))); (case aL => have := LMc3.out; omega); intro v144 w20 ho hb hg hat; rw [← Ny143.out] at ho; have n0_ := Aside0.mk (IsS81.grown (by repeat (first | (with_reducible first | exact HI0.out | apply IsS81.alloc | apply IsS81.drewN | apply IsS81.drew | apply IsS81.set_1) | exact HI0.out)) hg (IsS81.own_ne HI0.out HO142.out (by decide))); have n1_ := Aside0.mk (below_weaken (by repeat (first | (with_reducible first | exact HB.out | apply below_alloc | apply pw_below_drewN | apply below_drew1 | refine below_set ?_ (IsS81.ge HI0.out)) | exact HB.out)) HL.out hb); have n2_ := Aside0.mk (KeepBut.trans (by repeat (first | (with_reducible first | exact HK.out | apply KeepBut.set_ | apply keep_drewN | apply keep_drew | apply keep_alloc) | exact HK.out)) (KeepBut.of_grown hg g) (Kd.R_base2 HO142.out)); have n3_ := Aside0.mk (ho); clear HI0; clear HB; clear HK; clear HO142; have HI0 := n0_; have HB := n1_; have HK := n2_; have HO145 := n3_; clear n0_ n1_ n2_ n3_; clear ho hb hg hat; obtain ⟨Ao21, co21, eo21⟩ := Kd.R_slice HO145.out; subst eo21) | ((with_reducible refine gate_callee (f := 68) rfl ?_); refine goesL_ (some 27) rfl rfl Try.func68 (by kernel_rfl) rfl #[.pointer (some ⟨g, 0, none⟩), .int .i64 (wrap64 ((y143.length : Int) - 1))] rfl (by (try simp only [List.map_toArray, List.map_cons, List.map_nil]); first | done | rfl | (simp only [List.length_drop, List.length_take]; rfl)) ?_; (with_reducible refine (spec_l6Rd_pick.calls k g s0_0 s0_1 (wrap64 ((y143.length : Int) - 1)) t146 t147 w0 _ ?side1 ?side2 A9.out).mono ?_); (case side1 => repeat (first | (with_reducible first | exact HI0.out | apply IsS81.alloc | apply IsS81.drewN | apply IsS81.drew | apply IsS81.set_1) | exact HI0.out)); (case side2 => repeat (first | (with_reducible first | exact HB.out | apply below_alloc | apply pw_below_drewN | apply below_drew1 | refine below_set ?_ (IsS81.ge HI0.out)) | exact HB.out)); rintro e w22 ⟨rfl, hi, hb, hk⟩; refine ⟨_, rfl, ?_⟩; have n0_ := Aside0.mk (Kd.R_mono (Kd.R_keep (IsS81.apart (show IsS81 w0 _ g s0_0 s0_1 from by repeat (first | (with_reducible first | exact HI0.out | apply IsS81.alloc | apply IsS81.drewN | apply IsS81.drew | apply IsS81.set_1) | exact HI0.out)) (by (with_reducible repeat (first | apply Kd.R_alloc | apply Kd.R_drewN | apply Kd.R_drew)); exact HO145.out) (by decide)) hk (fun _ h => h.2)) (fun _ h => h.1)); have n1_ := Aside0.mk (KeepBut.trans (by repeat (first | (with_reducible first | exact HK.out | apply KeepBut.set_ | apply keep_drewN | apply keep_drew | apply keep_alloc) | exact HK.out)) hk (.inl rfl)); have n2_ := Aside0.mk (hb); have n3_ := Aside0.mk (hi); clear HO145; clear HK; clear HB; clear HI0; have HO145 := n0_; have HK := n1_; have HB := n2_; have HI0 := n3_; clear n0_ n1_ n2_ n3_; (try clear hb); (try clear hb2); (try clear hk); (try clear hi); have p148 : 0 ≤ (t146 : Int) := of_decide_eq_true (by first | (with_reducible assumption) | assumption); have q148 : t146 < (y143.length : Int) := of_decide_eq_true (by first | (with_reducible assumption) | assumption); obtain ⟨ad148, e148, hx148_0⟩ := Kd.at_int (Kd.R_reads' HO145.out).2.2 t146 p148 q148; cases e148; replace p148 := eq_true p148; replace q148 := eq_true q148; have p149 : 0 ≤ ((ji12) : Int) := of_decide_eq_true (by first | (with_reducible assumption) | assumption); have q149 : (ji12) < (y143.length : Int) := of_decide_eq_true (by first | (with_reducible assumption) | assumption); obtain ⟨ad149, e149, hx149_0⟩ := Kd.at_int (Kd.R_reads' HO145.out).2.2 (ji12) p149 q149; obtain rfl : ad148 = ad149 := (by injection e149); replace p149 := eq_true p149; replace q149 := eq_true q149) | ((with_reducible refine gate_callee (f := 68) rfl ?_); refine goesL_ (some 38) rfl rfl Try.func68 (by kernel_rfl) rfl #[.pointer (some ⟨g, 0, none⟩), .int .i64 2] rfl (by (try simp only [List.map_toArray, List.map_cons, List.map_nil]); first | done | rfl | (simp only [List.length_drop, List.length_take]; rfl)) ?_; (with_reducible refine (spec_l6Rd_pick.calls k g s0_0 t147 2 t150 t151 w0 _ ?side1 ?side2 A15.out).mono ?_); (case side1 => repeat (first | (with_reducible first | exact HI0.out | apply IsS81.alloc | apply IsS81.drewN | apply IsS81.drew | apply IsS81.set_1) | exact HI0.out)); (case side2 => repeat (first | (with_reducible first | exact HB.out | apply below_alloc | apply pw_below_drewN | apply below_drew1 | refine below_set ?_ (IsS81.ge HI0.out)) | exact HB.out)); rintro e w23 ⟨rfl, hi, hb, hk⟩; refine ⟨_, rfl, ?_⟩; have n0_ := Aside0.mk (Kd.R_mono (Kd.R_keep (IsS81.apart (show IsS81 w0 _ g s0_0 t147 from by repeat (first | (with_reducible first | exact HI0.out | apply IsS81.alloc | apply IsS81.drewN | apply IsS81.drew | apply IsS81.set_1) | exact HI0.out)) (by (with_reducible repeat (first | apply Kd.R_alloc | apply Kd.R_drewN | apply Kd.R_drew)); exact HO145.out) (by decide)) hk (fun _ h => h.2)) (fun _ h => h.1)); have n1_ := Aside0.mk (KeepBut.trans (by repeat (first | (with_reducible first | exact HK.out | apply KeepBut.set_ | apply keep_drewN | apply keep_drew | apply keep_alloc) | exact HK.out)) hk (.inl rfl)); have n2_ := Aside0.mk (hb); have n3_ := Aside0.mk (hi); clear HO145; clear HK; clear HB; clear HI0; have HO145 := n0_; have HK := n1_; have HB := n2_; have HI0 := n3_; clear n0_ n1_ n2_ n3_; (try clear hb); (try clear hb2); (try clear hk); (try clear hi)) | ((with_reducible refine gate_callee (f := 68) rfl ?_); refine goesL_ (some 40) rfl rfl Try.func68 (by kernel_rfl) rfl #[.pointer (some ⟨g, 0, none⟩), .int .i64 2] rfl (by (try simp only [List.map_toArray, List.map_cons, List.map_nil]); first | done | rfl | (simp only [List.length_drop, List.length_take]; rfl)) ?_; (with_reducible refine (spec_l6Rd_pick.calls k g s0_0 t151 2 t152 t153 w0 _ ?side1 ?side2 A16.out).mono ?_); (case side1 => repeat (first | (with_reducible first | exact HI0.out | apply IsS81.alloc | apply IsS81.drewN | apply IsS81.drew | apply IsS81.set_1) | exact HI0.out)); (case side2 => repeat (first | (with_reducible first | exact HB.out | apply below_alloc | apply pw_below_drewN | apply below_drew1 | refine below_set ?_ (IsS81.ge HI0.out)) | exact HB.out)); rintro e w24 ⟨rfl, hi, hb, hk⟩; refine ⟨_, rfl, ?_⟩; have n0_ := Aside0.mk (Kd.R_mono (Kd.R_keep (IsS81.apart (show IsS81 w0 _ g s0_0 t151 from by repeat (first | (with_reducible first | exact HI0.out | apply IsS81.alloc | apply IsS81.drewN | apply IsS81.drew | apply IsS81.set_1) | exact HI0.out)) (by (with_reducible repeat (first | apply Kd.R_alloc | apply Kd.R_drewN | apply Kd.R_drew)); exact HO145.out) (by decide)) hk (fun _ h => h.2)) (fun _ h => h.1)); have n1_ := Aside0.mk (KeepBut.trans (by repeat (first | (with_reducible first | exact HK.out | apply KeepBut.set_ | apply keep_drewN | apply keep_drew | apply keep_alloc) | exact HK.out)) hk (.inl rfl)); have n2_ := Aside0.mk (hb); have n3_ := Aside0.mk (hi); clear HO145; clear HK; clear HB; clear HI0; have HO145 := n0_; have HK := n1_; have HB := n2_; have HI0 := n3_; clear n0_ n1_ n2_ n3_; (try clear hb); (try clear hb2); (try clear hk); (try clear hi)))
             (try simp only [Act.put, List.setIfInBounds_toArray, List.set_cons_zero, List.set_cons_succ])
             go_cut [59] (fun v59 wc => ∃ (kq : Nat) (x59_16 : Bool) (x1001_16 : Int), v59 = .bool x59_16 ∧ Aside0 (spec_l91Same.j0 kq y143 t146 (rd y143 t146) (rd y143 (ji12)) (wrap64 ((wrap64 ((wrap64 ((rd y143 t146) * t150)) * t150)) + (wrap64 ((wrap64 ((rd y143 (ji12)) * (wrap64 (1 + t152)))) * (wrap64 (1 + t152)))))) x59_16 s0_0 x1001_16 = some (r1, r2)) ∧ Aside0 (kq ≤ k) ∧ Aside0 (Kd.R (Kd.int .i64) 3 wc w.heap.size (fun _ => True) (.slice (some ad148) y143.length co21) y143) ∧ Aside0 (IsS81 w0 wc g s0_0 x1001_16) ∧ Aside0 (KeepBut w wc g none) ∧ Aside0 (Below w0.heap.size w0 wc))
             case first =>
              have H := HC17.out
              clear HC17
              by_cases c25 : (wrap64 ((wrap64 ((wrap64 ((rd y143 t146) * t150)) * t150)) + (wrap64 ((wrap64 ((rd y143 (ji12)) * (wrap64 (1 + t152)))) * (wrap64 (1 + t152)))))) = 0
              · rw [if_pos c25] at H
                have c25b0 : ((wrap64 ((wrap64 ((wrap64 ((rd y143 t146) * t150)) * t150)) + (wrap64 ((wrap64 ((rd y143 (ji12)) * (wrap64 (1 + t152)))) * (wrap64 (1 + t152)))))) == 0) = true := beq_iff_eq.mpr c25
                have c25b1 : ((wrap64 ((wrap64 ((wrap64 ((rd y143 t146) * t150)) * t150)) + (wrap64 ((wrap64 ((rd y143 (ji12)) * (wrap64 (1 + t152)))) * (wrap64 (1 + t152)))))) != 0) = false := bne_eq_false_iff_eq.mpr c25
                clear c25
                (first | rw [c25b0] | (simp only [i64_w, i32_w]; rw [c25b0]) | skip)
                have H' := Aside0.mk H
                clear H
                go_wp2
                go_meet
                case rel => exact ⟨_, (false), (t153), (by first | rfl | (simp; done) | (simp [*]; done)), H', ⟨by first | omega | exact Nat.le_refl _⟩, ⟨by (with_reducible repeat (first | apply Kd.R_alloc | apply Kd.R_drewN | apply Kd.R_drew)); exact HO145.out⟩, ⟨by repeat (first | (with_reducible first | exact HI0.out | apply IsS81.alloc | apply IsS81.drewN | apply IsS81.drew | apply IsS81.set_1) | exact HI0.out)⟩, ⟨by repeat (first | (with_reducible first | exact HK.out | apply KeepBut.set_ | apply keep_drewN | apply keep_drew | apply keep_alloc) | exact HK.out)⟩, ⟨by repeat (first | (with_reducible first | exact HB.out | apply below_alloc | apply pw_below_drewN | apply below_drew1 | refine below_set ?_ (IsS81.ge HI0.out)) | exact HB.out)⟩⟩
              · rw [if_neg c25] at H
                have c25b0 : ((wrap64 ((wrap64 ((wrap64 ((rd y143 t146) * t150)) * t150)) + (wrap64 ((wrap64 ((rd y143 (ji12)) * (wrap64 (1 + t152)))) * (wrap64 (1 + t152)))))) == 0) = false := beq_eq_false_iff_ne.mpr c25
                have c25b1 : ((wrap64 ((wrap64 ((wrap64 ((rd y143 t146) * t150)) * t150)) + (wrap64 ((wrap64 ((rd y143 (ji12)) * (wrap64 (1 + t152)))) * (wrap64 (1 + t152)))))) != 0) = true := bne_iff_ne.mpr c25
                (first | rw [c25b0] | (simp only [i64_w, i32_w]; rw [c25b0]) | skip)
                replace H := Option.bind_eq_some_iff.mp H
                obtain ⟨⟨t154, t155⟩, A260, H⟩ := H
                replace H : (spec_l91Same.j0 k y143 t146 (rd y143 t146) (rd y143 (ji12)) (wrap64 ((wrap64 ((wrap64 ((rd y143 t146) * t150)) * t150)) + (wrap64 ((wrap64 ((rd y143 (ji12)) * (wrap64 (1 + t152)))) * (wrap64 (1 + t152)))))) (decide (t154 > 0)) s0_0 t155) = some (r1, r2) := H
                have A26 := Aside0.mk A260
                clear A260
                have H' := Aside0.mk H
                clear H
                go_wp2_with (first | (go_at_call 68; (with_reducible refine (spec_l6Rd_pick.calls k g s0_0 t153 3 t154 t155 w0 _ ?side1 ?side2 A26.out).mono ?_); (case side1 => repeat (first | (with_reducible first | exact HI0.out | apply IsS81.alloc | apply IsS81.drewN | apply IsS81.drew | apply IsS81.set_1) | exact HI0.out)); (case side2 => repeat (first | (with_reducible first | exact HB.out | apply below_alloc | apply pw_below_drewN | apply below_drew1 | refine below_set ?_ (IsS81.ge HI0.out)) | exact HB.out)); rintro e w27 ⟨rfl, hi, hb, hk⟩; have n0_ := Aside0.mk (Kd.R_mono (Kd.R_keep (IsS81.apart (show IsS81 w0 _ g s0_0 t153 from by repeat (first | (with_reducible first | exact HI0.out | apply IsS81.alloc | apply IsS81.drewN | apply IsS81.drew | apply IsS81.set_1) | exact HI0.out)) (by (with_reducible repeat (first | apply Kd.R_alloc | apply Kd.R_drewN | apply Kd.R_drew)); exact HO145.out) (by decide)) hk (fun _ h => h.2)) (fun _ h => h.1)); have n1_ := Aside0.mk (KeepBut.trans (by repeat (first | (with_reducible first | exact HK.out | apply KeepBut.set_ | apply keep_drewN | apply keep_drew | apply keep_alloc) | exact HK.out)) hk (.inl rfl)); have n2_ := Aside0.mk (hb); have n3_ := Aside0.mk (hi); clear HO145; clear HK; clear HB; clear HI0; have HO145 := n0_; have HK := n1_; have HB := n2_; have HI0 := n3_; clear n0_ n1_ n2_ n3_; (try clear hb); (try clear hb2); (try clear hk); (try clear hi)))
                go_meet
                case rel => exact ⟨_, (decide (t154 > 0)), (t155), (by first | rfl | (simp; done) | (simp [*]; done)), H', ⟨by first | omega | exact Nat.le_refl _⟩, ⟨by (with_reducible repeat (first | apply Kd.R_alloc | apply Kd.R_drewN | apply Kd.R_drew)); exact HO145.out⟩, ⟨by repeat (first | (with_reducible first | exact HI0.out | apply IsS81.alloc | apply IsS81.drewN | apply IsS81.drew | apply IsS81.set_1) | exact HI0.out)⟩, ⟨by repeat (first | (with_reducible first | exact HK.out | apply KeepBut.set_ | apply keep_drewN | apply keep_drew | apply keep_alloc) | exact HK.out)⟩, ⟨by repeat (first | (with_reducible first | exact HB.out | apply below_alloc | apply pw_below_drewN | apply below_drew1 | refine below_set ?_ (IsS81.ge HI0.out)) | exact HB.out)⟩⟩
             case rest =>
              clear HC17
              try clear c1
              try clear p1
              try clear q1
              try clear hx1
              try clear c2
              try clear p2
              try clear c3
              try clear c4
              try clear c4b0
              try clear c4b1
              try clear c6
              try clear p6
              try clear c10
              try clear c10b0
              try clear c11
              try clear c11b0
              try clear c13
              try clear c13b0
              try clear c14
              try clear c14b0
              try clear p14
              try clear q14
              try clear hx14
              try clear c25
              try clear c25b0
              try clear c25b1
              try clear hx148_0
              try clear hx149_0
              try clear p148
              try clear p149
              try clear q148
              try clear q149
              obtain ⟨kq, x59_16, x1001_16, rfl, HA, HJ16, HO_5, HI0, HK, HB⟩ := hcut
              cases kq with
              | zero => exact absurd HA.out (by simp [spec_l91Same.j0])
              | succ kj16 =>
               have H := HA.out
               clear HA
               simp only [spec_l91Same.j0] at H
               by_cases c28 : x59_16 = true
               · subst c28
                 have H1 : ((spec_l1Core.f kj16 (wrap64 ((wrap64 ((wrap64 ((rd y143 t146) * t150)) * t150)) + (wrap64 ((wrap64 ((rd y143 (ji12)) * (wrap64 (1 + t152)))) * (wrap64 (1 + t152))))))).bind fun bt156 => ((spec_l1Core.f kj16 (wrap64 ((wrap64 ((rd y143 t146) * (rd y143 (ji12)))) * (wrap64 ((wrap64 ((wrap64 ((rd y143 t146) * t150)) * t150)) + (wrap64 ((wrap64 ((rd y143 (ji12)) * (wrap64 (1 + t152)))) * (wrap64 (1 + t152))))))))).bind fun bt158 => ((spec_l1Size.f bt156.1).bind fun t160 => (if t160 ≤ 30 then ((spec_l1Size.f bt158.1).bind fun t161 => (if t161 ≤ 30 then (if 0 ≤ t146 then (if t146 < (y143.length : Int) then (if 0 ≤ (wrap64 (t146 + 1)) then (if (wrap64 (t146 + 1)) < (y143.length : Int) then (some (((y143.set (t146 : Int).toNat bt156.1).set ((wrap64 (t146 + 1)) : Int).toNat bt158.1), x1001_16)) else (none)) else (none)) else (none)) else (none)) else (if 0 ≤ t146 then (if t146 < (y143.length : Int) then (if 0 ≤ (wrap64 (t146 + 1)) then (if (wrap64 (t146 + 1)) < (y143.length : Int) then (some (((y143.set (t146 : Int).toNat (rd y143 (ji12))).set ((wrap64 (t146 + 1)) : Int).toNat (rd y143 t146)), x1001_16)) else (none)) else (none)) else (none)) else (none)))) else (if 0 ≤ t146 then (if t146 < (y143.length : Int) then (if 0 ≤ (wrap64 (t146 + 1)) then (if (wrap64 (t146 + 1)) < (y143.length : Int) then (some (((y143.set (t146 : Int).toNat (rd y143 (ji12))).set ((wrap64 (t146 + 1)) : Int).toNat (rd y143 t146)), x1001_16)) else (none)) else (none)) else (none)) else (none)))))) = some (r1, r2) := by rw [if_pos rfl] at H; exact H
                 clear H
                 have H := H1
                 clear H1
                 replace H := Option.bind_eq_some_iff.mp H
                 obtain ⟨⟨t156, t157⟩, A290, H⟩ := H
                 replace H : ((spec_l1Core.f kj16 (wrap64 ((wrap64 ((rd y143 t146) * (rd y143 (ji12)))) * (wrap64 ((wrap64 ((wrap64 ((rd y143 t146) * t150)) * t150)) + (wrap64 ((wrap64 ((rd y143 (ji12)) * (wrap64 (1 + t152)))) * (wrap64 (1 + t152))))))))).bind fun bt158 => ((spec_l1Size.f t156).bind fun t160 => (if t160 ≤ 30 then ((spec_l1Size.f bt158.1).bind fun t161 => (if t161 ≤ 30 then (if 0 ≤ t146 then (if t146 < (y143.length : Int) then (if 0 ≤ (wrap64 (t146 + 1)) then (if (wrap64 (t146 + 1)) < (y143.length : Int) then (some (((y143.set (t146 : Int).toNat t156).set ((wrap64 (t146 + 1)) : Int).toNat bt158.1), x1001_16)) else (none)) else (none)) else (none)) else (none)) else (if 0 ≤ t146 then (if t146 < (y143.length : Int) then (if 0 ≤ (wrap64 (t146 + 1)) then (if (wrap64 (t146 + 1)) < (y143.length : Int) then (some (((y143.set (t146 : Int).toNat (rd y143 (ji12))).set ((wrap64 (t146 + 1)) : Int).toNat (rd y143 t146)), x1001_16)) else (none)) else (none)) else (none)) else (none)))) else (if 0 ≤ t146 then (if t146 < (y143.length : Int) then (if 0 ≤ (wrap64 (t146 + 1)) then (if (wrap64 (t146 + 1)) < (y143.length : Int) then (some (((y143.set (t146 : Int).toNat (rd y143 (ji12))).set ((wrap64 (t146 + 1)) : Int).toNat (rd y143 t146)), x1001_16)) else (none)) else (none)) else (none)) else (none))))) = some (r1, r2) := H
                 have A29 := Aside0.mk A290
                 clear A290
                 replace H := Option.bind_eq_some_iff.mp H
                 obtain ⟨⟨t158, t159⟩, A300, H⟩ := H
                 replace H : ((spec_l1Size.f t156).bind fun t160 => (if t160 ≤ 30 then ((spec_l1Size.f t158).bind fun t161 => (if t161 ≤ 30 then (if 0 ≤ t146 then (if t146 < (y143.length : Int) then (if 0 ≤ (wrap64 (t146 + 1)) then (if (wrap64 (t146 + 1)) < (y143.length : Int) then (some (((y143.set (t146 : Int).toNat t156).set ((wrap64 (t146 + 1)) : Int).toNat t158), x1001_16)) else (none)) else (none)) else (none)) else (none)) else (if 0 ≤ t146 then (if t146 < (y143.length : Int) then (if 0 ≤ (wrap64 (t146 + 1)) then (if (wrap64 (t146 + 1)) < (y143.length : Int) then (some (((y143.set (t146 : Int).toNat (rd y143 (ji12))).set ((wrap64 (t146 + 1)) : Int).toNat (rd y143 t146)), x1001_16)) else (none)) else (none)) else (none)) else (none)))) else (if 0 ≤ t146 then (if t146 < (y143.length : Int) then (if 0 ≤ (wrap64 (t146 + 1)) then (if (wrap64 (t146 + 1)) < (y143.length : Int) then (some (((y143.set (t146 : Int).toNat (rd y143 (ji12))).set ((wrap64 (t146 + 1)) : Int).toNat (rd y143 t146)), x1001_16)) else (none)) else (none)) else (none)) else (none)))) = some (r1, r2) := H
                 have A30 := Aside0.mk A300
                 clear A300
                 replace H := Option.bind_eq_some_iff.mp H
                 obtain ⟨t160, A310, H⟩ := H
                 replace H : (if t160 ≤ 30 then ((spec_l1Size.f t158).bind fun t161 => (if t161 ≤ 30 then (if 0 ≤ t146 then (if t146 < (y143.length : Int) then (if 0 ≤ (wrap64 (t146 + 1)) then (if (wrap64 (t146 + 1)) < (y143.length : Int) then (some (((y143.set (t146 : Int).toNat t156).set ((wrap64 (t146 + 1)) : Int).toNat t158), x1001_16)) else (none)) else (none)) else (none)) else (none)) else (if 0 ≤ t146 then (if t146 < (y143.length : Int) then (if 0 ≤ (wrap64 (t146 + 1)) then (if (wrap64 (t146 + 1)) < (y143.length : Int) then (some (((y143.set (t146 : Int).toNat (rd y143 (ji12))).set ((wrap64 (t146 + 1)) : Int).toNat (rd y143 t146)), x1001_16)) else (none)) else (none)) else (none)) else (none)))) else (if 0 ≤ t146 then (if t146 < (y143.length : Int) then (if 0 ≤ (wrap64 (t146 + 1)) then (if (wrap64 (t146 + 1)) < (y143.length : Int) then (some (((y143.set (t146 : Int).toNat (rd y143 (ji12))).set ((wrap64 (t146 + 1)) : Int).toNat (rd y143 t146)), x1001_16)) else (none)) else (none)) else (none)) else (none))) = some (r1, r2) := H
                 have A31 := Aside0.mk A310
                 clear A310
                 by_cases c32 : t160 ≤ 30
                 · rw [if_pos c32] at H
                   have c32b0 : decide (t160 ≤ 30) = true := decide_eq_true c32
                   clear c32
                   replace H := Option.bind_eq_some_iff.mp H
                   obtain ⟨t161, A330, H⟩ := H
                   replace H : (if t161 ≤ 30 then (if 0 ≤ t146 then (if t146 < (y143.length : Int) then (if 0 ≤ (wrap64 (t146 + 1)) then (if (wrap64 (t146 + 1)) < (y143.length : Int) then (some (((y143.set (t146 : Int).toNat t156).set ((wrap64 (t146 + 1)) : Int).toNat t158), x1001_16)) else (none)) else (none)) else (none)) else (none)) else (if 0 ≤ t146 then (if t146 < (y143.length : Int) then (if 0 ≤ (wrap64 (t146 + 1)) then (if (wrap64 (t146 + 1)) < (y143.length : Int) then (some (((y143.set (t146 : Int).toNat (rd y143 (ji12))).set ((wrap64 (t146 + 1)) : Int).toNat (rd y143 t146)), x1001_16)) else (none)) else (none)) else (none)) else (none))) = some (r1, r2) := H
                   have A33 := Aside0.mk A330
                   clear A330
                   by_cases c34 : t161 ≤ 30
                   · rw [if_pos c34] at H
                     have c34b0 : decide (t161 ≤ 30) = true := decide_eq_true c34
                     clear c34
                     by_cases c35 : 0 ≤ t146
                     · rw [if_pos c35] at H
                       have c35b0 : decide (0 ≤ t146) = true := decide_eq_true c35
                       clear c35
                       by_cases c36 : t146 < (y143.length : Int)
                       · rw [if_pos c36] at H
                         have c36b0 : decide (t146 < (y143.length : Int)) = true := decide_eq_true c36
                         clear c36
                         obtain ⟨y162, hy162⟩ : ∃ y_ : List Int, y_ = (y143.set (t146 : Int).toNat t156) := ⟨_, rfl⟩
                         replace H : (if 0 ≤ (wrap64 (t146 + 1)) then (if (wrap64 (t146 + 1)) < (y143.length : Int) then (some ((y162.set ((wrap64 (t146 + 1)) : Int).toNat t158), x1001_16)) else (none)) else (none)) = some (r1, r2) := by first | (rw [hy162]; with_reducible exact H) | (have H2_ := (Option.bind_some _ _).symm.trans H; rw [hy162]; with_reducible exact H2_) | (have H2_ := (Option.bind_some _ _).symm.trans H; with_reducible exact H2_) | with_reducible exact H | (rw [hy162]; exact H) | exact H
                         have Ny162 := Aside0.mk hy162
                         clear hy162
                         replace H : (if 0 ≤ (ji12) then (if (ji12) < (y143.length : Int) then (some ((y162.set ((ji12) : Int).toNat t158), x1001_16)) else (none)) else (none)) = some (r1, r2) := by first | (rw [hji12] at H; exact H) | (simp only [hji12] at H ⊢; exact H)
                         (try rw [hji12] at A29)
                         (try rw [hji12] at A30)
                         (try rw [hji12] at A31)
                         (try rw [hji12] at A33)
                         have hji12w : (IntKind.i64.wrap (t146 + 1)) = ji12 := (i64_w _).trans hji12
                         by_cases c39 : 0 ≤ (ji12)
                         · rw [if_pos c39] at H
                           have c39b0 : decide (0 ≤ (ji12)) = true := decide_eq_true c39
                           clear c39
                           by_cases c40 : (ji12) < (y143.length : Int)
                           · rw [if_pos c40] at H
                             have c40b0 : decide ((ji12) < (y143.length : Int)) = true := decide_eq_true c40
                             clear c40
                             obtain ⟨y163, hy163⟩ : ∃ y_ : List Int, y_ = (y162.set ((ji12) : Int).toNat t158) := ⟨_, rfl⟩
                             replace H : (some (y163, x1001_16)) = some (r1, r2) := by first | (rw [hy163]; with_reducible exact H) | (have H2_ := (Option.bind_some _ _).symm.trans H; rw [hy163]; with_reducible exact H2_) | (have H2_ := (Option.bind_some _ _).symm.trans H; with_reducible exact H2_) | with_reducible exact H | (rw [hy163]; exact H) | exact H
                             have Ny163 := Aside0.mk hy163
                             clear hy163
                             simp only [Option.some.injEq, Prod.mk.injEq] at H
                             obtain ⟨rfl, rfl⟩ := H
                             go_wp2_with (first | ((with_reducible refine gate_callee (f := 113) rfl ?_); refine goesL_ (some 62) rfl rfl Try.func113 (by kernel_rfl) rfl #[.int .i64 (wrap64 ((wrap64 ((wrap64 ((rd y143 t146) * t150)) * t150)) + (wrap64 ((wrap64 ((rd y143 (ji12)) * (wrap64 (1 + t152)))) * (wrap64 (1 + t152))))))] rfl (by (try simp only [List.map_toArray, List.map_cons, List.map_nil]); first | done | (simp only [hji12]; rfl) | rfl | (simp only [List.length_drop, List.length_take]; rfl)) ?_; (with_reducible refine (spec_l1Core.calls kj16 (wrap64 ((wrap64 ((wrap64 ((rd y143 t146) * t150)) * t150)) + (wrap64 ((wrap64 ((rd y143 (ji12)) * (wrap64 (1 + t152)))) * (wrap64 (1 + t152)))))) t156 t157 _ A29.out).mono ?_); rintro e w42 ⟨rfl, hb⟩; refine ⟨_, rfl, ?_⟩; have n0_ := Aside0.mk (Kd.R_below (by (with_reducible repeat (first | apply Kd.R_alloc | apply Kd.R_drewN | apply Kd.R_drew)); exact HO_5.out) hb); have n1_ := Aside0.mk (IsS81.below (by repeat (first | (with_reducible first | exact HI0.out | apply IsS81.alloc | apply IsS81.drewN | apply IsS81.drew | apply IsS81.set_1) | exact HI0.out)) hb); have n2_ := Aside0.mk (KeepBut.trans (by repeat (first | (with_reducible first | exact HK.out | apply KeepBut.set_ | apply keep_drewN | apply keep_drew | apply keep_alloc) | exact HK.out)) (KeepBut.of_below hb g none) (.inl rfl)); have n3_ := Aside0.mk (below_step (by repeat (first | (with_reducible first | exact HB.out | apply below_alloc | apply pw_below_drewN | apply below_drew1 | refine below_set ?_ (IsS81.ge HI0.out)) | exact HB.out)) hb); clear HO_5; clear HI0; clear HK; clear HB; have HO_5 := n0_; have HI0 := n1_; have HK := n2_; have HB := n3_; clear n0_ n1_ n2_ n3_; (try clear hb); (try clear hb2); (try clear hk); (try clear hi)) | ((with_reducible refine gate_callee (f := 113) rfl ?_); refine goesL_ (some 71) rfl rfl Try.func113 (by kernel_rfl) rfl #[.int .i64 (wrap64 ((wrap64 ((rd y143 t146) * (rd y143 (ji12)))) * (wrap64 ((wrap64 ((wrap64 ((rd y143 t146) * t150)) * t150)) + (wrap64 ((wrap64 ((rd y143 (ji12)) * (wrap64 (1 + t152)))) * (wrap64 (1 + t152))))))))] rfl (by (try simp only [List.map_toArray, List.map_cons, List.map_nil]); first | done | (simp only [hji12]; rfl) | rfl | (simp only [List.length_drop, List.length_take]; rfl)) ?_; (with_reducible refine (spec_l1Core.calls kj16 (wrap64 ((wrap64 ((rd y143 t146) * (rd y143 (ji12)))) * (wrap64 ((wrap64 ((wrap64 ((rd y143 t146) * t150)) * t150)) + (wrap64 ((wrap64 ((rd y143 (ji12)) * (wrap64 (1 + t152)))) * (wrap64 (1 + t152)))))))) t158 t159 _ A30.out).mono ?_); rintro e w43 ⟨rfl, hb⟩; refine ⟨_, rfl, ?_⟩; have n0_ := Aside0.mk (Kd.R_below (by (with_reducible repeat (first | apply Kd.R_alloc | apply Kd.R_drewN | apply Kd.R_drew)); exact HO_5.out) hb); have n1_ := Aside0.mk (IsS81.below (by repeat (first | (with_reducible first | exact HI0.out | apply IsS81.alloc | apply IsS81.drewN | apply IsS81.drew | apply IsS81.set_1) | exact HI0.out)) hb); have n2_ := Aside0.mk (KeepBut.trans (by repeat (first | (with_reducible first | exact HK.out | apply KeepBut.set_ | apply keep_drewN | apply keep_drew | apply keep_alloc) | exact HK.out)) (KeepBut.of_below hb g none) (.inl rfl)); have n3_ := Aside0.mk (below_step (by repeat (first | (with_reducible first | exact HB.out | apply below_alloc | apply pw_below_drewN | apply below_drew1 | refine below_set ?_ (IsS81.ge HI0.out)) | exact HB.out)) hb); clear HO_5; clear HI0; clear HK; clear HB; have HO_5 := n0_; have HI0 := n1_; have HK := n2_; have HB := n3_; clear n0_ n1_ n2_ n3_; (try clear hb); (try clear hb2); (try clear hk); (try clear hi)) | ((with_reducible refine gate_callee (f := 104) rfl ?_); refine goesL_ (some 75) rfl rfl Try.func104 (by kernel_rfl) rfl #[.int .i64 t156] rfl (by (try simp only [List.map_toArray, List.map_cons, List.map_nil]); first | done | rfl | (simp only [List.length_drop, List.length_take]; rfl)) ?_; (with_reducible refine (spec_l1Size.calls t156 t160 _ A31.out).mono ?_); rintro e w44 ⟨rfl, hb⟩; refine ⟨_, rfl, ?_⟩; have n0_ := Aside0.mk (Kd.R_below (by (with_reducible repeat (first | apply Kd.R_alloc | apply Kd.R_drewN | apply Kd.R_drew)); exact HO_5.out) hb); have n1_ := Aside0.mk (IsS81.below (by repeat (first | (with_reducible first | exact HI0.out | apply IsS81.alloc | apply IsS81.drewN | apply IsS81.drew | apply IsS81.set_1) | exact HI0.out)) hb); have n2_ := Aside0.mk (KeepBut.trans (by repeat (first | (with_reducible first | exact HK.out | apply KeepBut.set_ | apply keep_drewN | apply keep_drew | apply keep_alloc) | exact HK.out)) (KeepBut.of_below hb g none) (.inl rfl)); have n3_ := Aside0.mk (below_step (by repeat (first | (with_reducible first | exact HB.out | apply below_alloc | apply pw_below_drewN | apply below_drew1 | refine below_set ?_ (IsS81.ge HI0.out)) | exact HB.out)) hb); clear HO_5; clear HI0; clear HK; clear HB; have HO_5 := n0_; have HI0 := n1_; have HK := n2_; have HB := n3_; clear n0_ n1_ n2_ n3_; (try clear hb); (try clear hb2); (try clear hk); (try clear hi)) | (go_at_call 104; (with_reducible refine (spec_l1Size.calls t158 t161 _ A33.out).mono ?_); rintro e w45 ⟨rfl, hb⟩; have n0_ := Aside0.mk (Kd.R_below (by (with_reducible repeat (first | apply Kd.R_alloc | apply Kd.R_drewN | apply Kd.R_drew)); exact HO_5.out) hb); have n1_ := Aside0.mk (IsS81.below (by repeat (first | (with_reducible first | exact HI0.out | apply IsS81.alloc | apply IsS81.drewN | apply IsS81.drew | apply IsS81.set_1) | exact HI0.out)) hb); have n2_ := Aside0.mk (KeepBut.trans (by repeat (first | (with_reducible first | exact HK.out | apply KeepBut.set_ | apply keep_drewN | apply keep_drew | apply keep_alloc) | exact HK.out)) (KeepBut.of_below hb g none) (.inl rfl)); have n3_ := Aside0.mk (below_step (by repeat (first | (with_reducible first | exact HB.out | apply below_alloc | apply pw_below_drewN | apply below_drew1 | refine below_set ?_ (IsS81.ge HI0.out)) | exact HB.out)) hb); clear HO_5; clear HI0; clear HK; clear HB; have HO_5 := n0_; have HI0 := n1_; have HK := n2_; have HB := n3_; clear n0_ n1_ n2_ n3_; (try clear hb); (try clear hb2); (try clear hk); (try clear hi); have p37 : 0 ≤ (t146 : Int) := of_decide_eq_true (by first | (with_reducible assumption) | assumption); have q37 : (t146 : Int) < ((y143.length : Int) : Int) := of_decide_eq_true (by first | (with_reducible assumption) | assumption); obtain ⟨go37, co37, eo37, gb37, gl37, cl37, HG37⟩ := Kd.R_form HO_5.out (by omega); (first | cases eo37 | (injection eo37 with ea_ en_ ec_; (first | subst ea_ | (injection ea_ with ea_; subst ea_)); subst ec_; clear en_)); have GB37 := Aside0.mk gb37; have GG37 := Aside0.mk HG37; clear gb37 gl37 HG37; (first | simp only [add_plain] at hx148_0 | skip); (first | simp only [add_plain] at hx149_0 | skip); obtain ⟨hx37_0, hf37_0⟩ := Kd.R_celln 0 HO_5.out (t146 : Int) p37 q37; replace p37 := eq_true p37; replace q37 := eq_true q37; obtain ⟨hy46_, hz46_⟩ := Kd.R_celln 0 HO_5.out (t146 : Int) (of_decide_eq_true (by first | (with_reducible assumption) | assumption)) (of_decide_eq_true (by first | (with_reducible assumption) | assumption)); have HP46 := Kd.R_putg HO_5.out (t146 : Int) t156) | ((with_reducible refine gate_store (t := 3) (p := 85) rfl ?_); refine store_event (t := 3) (p := 85) (v := ?vo_w47) (w1 := (w45.setCell ⟨go37, (t146 : Int).toNat, none⟩ (.int .i64 t156))) ?hg ?ho ?hn ?hr ?_; (case ho => rfl); (case hg => rfl); (case hn => rfl); (case hr => first | (go_simp; done) | (go_simp; rfl)); intro w47 hw; have hg : w45.grownBy w47 (some go37) := (by rw [hw]; exact HP46.2); have hp_ : Kd.R (Kd.int .i64) 3 w47 w.heap.size (fun _ => True) (.slice (some ⟨go37, 0, none⟩) y143.length co21) y162 := (by rw [hw, Ny162.out]; exact HP46.1); clear HP46; have n0_ := Aside0.mk (hp_); have n1_ := Aside0.mk (IsS81.grown (by repeat (first | (with_reducible first | exact HI0.out | apply IsS81.alloc | apply IsS81.drewN | apply IsS81.drew | apply IsS81.set_1) | exact HI0.out)) hg (IsS81.own_ne HI0.out HO_5.out (by decide))); have n2_ := Aside0.mk ((by rw [hw]; exact below_set (HB.out) (Nat.le_trans HL.out GB37.out) : Below w0.heap.size w0 w47)); have n3_ := Aside0.mk (KeepBut.trans (by repeat (first | (with_reducible first | exact HK.out | apply KeepBut.set_ | apply keep_drewN | apply keep_drew | apply keep_alloc) | exact HK.out)) (KeepBut.of_grown hg g) (Kd.R_base2 HO_5.out)); clear HO_5; clear HI0; clear HB; clear HK; have HO_5 := n0_; have HI0 := n1_; have HB := n2_; have HK := n3_; clear n0_ n1_ n2_ n3_; clear hg hw hp_; have p41 : 0 ≤ ((ji12) : Int) := of_decide_eq_true (by first | (with_reducible assumption) | assumption); have q41 : ((ji12) : Int) < ((y143.length : Int) : Int) := of_decide_eq_true (by first | (with_reducible assumption) | assumption); obtain ⟨hx41_0, hf41_0⟩ := Kd.R_celln 0 HO_5.out ((ji12) : Int) p41 q41; replace p41 := eq_true p41; replace q41 := eq_true q41; obtain ⟨hy48_, hz48_⟩ := Kd.R_celln 0 HO_5.out ((ji12) : Int) (of_decide_eq_true (by first | (with_reducible assumption) | assumption)) (of_decide_eq_true (by first | (with_reducible assumption) | assumption)); have HP48 := Kd.R_putg HO_5.out ((ji12) : Int) t158) | ((with_reducible refine gate_store (t := 3) (p := 90) rfl ?_); refine store_event (t := 3) (p := 90) (v := ?vo_w49) (w1 := (w47.setCell ⟨go37, ((ji12) : Int).toNat, none⟩ (.int .i64 t158))) ?hg ?ho ?hn ?hr ?_; (case ho => rfl); (case hg => rfl); (case hn => rfl); (case hr => first | (go_simp; done) | (go_simp; rfl)); intro w49 hw; have hg : w47.grownBy w49 (some go37) := (by rw [hw]; exact HP48.2); have hp_ : Kd.R (Kd.int .i64) 3 w49 w.heap.size (fun _ => True) (.slice (some ⟨go37, 0, none⟩) y143.length co21) y163 := (by rw [hw, Ny163.out]; exact HP48.1); clear HP48; have n0_ := Aside0.mk (hp_); have n1_ := Aside0.mk (IsS81.grown (by repeat (first | (with_reducible first | exact HI0.out | apply IsS81.alloc | apply IsS81.drewN | apply IsS81.drew | apply IsS81.set_1) | exact HI0.out)) hg (IsS81.own_ne HI0.out HO_5.out (by decide))); have n2_ := Aside0.mk ((by rw [hw]; exact below_set (HB.out) (Nat.le_trans HL.out GB37.out) : Below w0.heap.size w0 w49)); have n3_ := Aside0.mk (KeepBut.trans (by repeat (first | (with_reducible first | exact HK.out | apply KeepBut.set_ | apply keep_drewN | apply keep_drew | apply keep_alloc) | exact HK.out)) (KeepBut.of_grown hg g) (Kd.R_base2 HO_5.out)); clear HO_5; clear HI0; clear HB; clear HK; have HO_5 := n0_; have HI0 := n1_; have HB := n2_; have HK := n3_; clear n0_ n1_ n2_ n3_; clear hg hw hp_))
                             go_ret
                             exact ⟨_, by first | rfl | (simp [errW_none, errW_some] <;> rfl) | (simp only [← hji12, ← hji12]; first | rfl | (simp [errW_none, errW_some] <;> rfl)) | (simp [*, errW_none, errW_some] <;> rfl), by (with_reducible repeat (first | apply Kd.R_alloc | apply Kd.R_drewN | apply Kd.R_drew)); exact HO_5.out, by repeat (first | (with_reducible first | exact HI0.out | apply IsS81.alloc | apply IsS81.drewN | apply IsS81.drew | apply IsS81.set_1) | exact HI0.out), by repeat (first | (with_reducible first | exact HB.out | apply below_alloc | apply pw_below_drewN | apply below_drew1 | refine below_set ?_ (IsS81.ge HI0.out)) | exact HB.out), by repeat (first | (with_reducible first | exact HK.out | apply KeepBut.set_ | apply keep_drewN | apply keep_drew | apply keep_alloc) | exact HK.out)⟩
                           · rw [if_neg c40] at H
                             exact absurd H (by simp)
                         · rw [if_neg c39] at H
                           exact absurd H (by simp)
                       · rw [if_neg c36] at H
                         exact absurd H (by simp)
                     · rw [if_neg c35] at H
                       exact absurd H (by simp)
                   · rw [if_neg c34] at H
                     have c34b0 : decide (t161 ≤ 30) = false := decide_eq_false c34
                     clear c34
                     by_cases c50 : 0 ≤ t146
                     · rw [if_pos c50] at H
                       have c50b0 : decide (0 ≤ t146) = true := decide_eq_true c50
                       clear c50
                       by_cases c51 : t146 < (y143.length : Int)
                       · rw [if_pos c51] at H
                         have c51b0 : decide (t146 < (y143.length : Int)) = true := decide_eq_true c51
                         clear c51
                         obtain ⟨y164, hy164⟩ : ∃ y_ : List Int, y_ = (y143.set (t146 : Int).toNat (rd y143 (ji12))) := ⟨_, rfl⟩
                         replace H : (if 0 ≤ (wrap64 (t146 + 1)) then (if (wrap64 (t146 + 1)) < (y143.length : Int) then (some ((y164.set ((wrap64 (t146 + 1)) : Int).toNat (rd y143 t146)), x1001_16)) else (none)) else (none)) = some (r1, r2) := by first | (rw [hy164]; with_reducible exact H) | (have H2_ := (Option.bind_some _ _).symm.trans H; rw [hy164]; with_reducible exact H2_) | (have H2_ := (Option.bind_some _ _).symm.trans H; with_reducible exact H2_) | with_reducible exact H | (rw [hy164]; exact H) | exact H
                         have Ny164 := Aside0.mk hy164
                         clear hy164
                         replace H : (if 0 ≤ (ji12) then (if (ji12) < (y143.length : Int) then (some ((y164.set ((ji12) : Int).toNat (rd y143 t146)), x1001_16)) else (none)) else (none)) = some (r1, r2) := by first | (rw [hji12] at H; exact H) | (simp only [hji12] at H ⊢; exact H)
                         (try rw [hji12] at A29)
                         (try rw [hji12] at A30)
                         (try rw [hji12] at A31)
                         (try rw [hji12] at A33)
                         have hji12w : (IntKind.i64.wrap (t146 + 1)) = ji12 := (i64_w _).trans hji12
                         by_cases c54 : 0 ≤ (ji12)
                         · rw [if_pos c54] at H
                           have c54b0 : decide (0 ≤ (ji12)) = true := decide_eq_true c54
                           clear c54
                           by_cases c55 : (ji12) < (y143.length : Int)
                           · rw [if_pos c55] at H
                             have c55b0 : decide ((ji12) < (y143.length : Int)) = true := decide_eq_true c55
                             clear c55
                             obtain ⟨y165, hy165⟩ : ∃ y_ : List Int, y_ = (y164.set ((ji12) : Int).toNat (rd y143 t146)) := ⟨_, rfl⟩
                             replace H : (some (y165, x1001_16)) = some (r1, r2) := by first | (rw [hy165]; with_reducible exact H) | (have H2_ := (Option.bind_some _ _).symm.trans H; rw [hy165]; with_reducible exact H2_) | (have H2_ := (Option.bind_some _ _).symm.trans H; with_reducible exact H2_) | with_reducible exact H | (rw [hy165]; exact H) | exact H
                             have Ny165 := Aside0.mk hy165
                             clear hy165
                             simp only [Option.some.injEq, Prod.mk.injEq] at H
                             obtain ⟨rfl, rfl⟩ := H
                             go_wp2_with (first | ((with_reducible refine gate_callee (f := 113) rfl ?_); refine goesL_ (some 62) rfl rfl Try.func113 (by kernel_rfl) rfl #[.int .i64 (wrap64 ((wrap64 ((wrap64 ((rd y143 t146) * t150)) * t150)) + (wrap64 ((wrap64 ((rd y143 (ji12)) * (wrap64 (1 + t152)))) * (wrap64 (1 + t152))))))] rfl (by (try simp only [List.map_toArray, List.map_cons, List.map_nil]); first | done | (simp only [hji12]; rfl) | rfl | (simp only [List.length_drop, List.length_take]; rfl)) ?_; (with_reducible refine (spec_l1Core.calls kj16 (wrap64 ((wrap64 ((wrap64 ((rd y143 t146) * t150)) * t150)) + (wrap64 ((wrap64 ((rd y143 (ji12)) * (wrap64 (1 + t152)))) * (wrap64 (1 + t152)))))) t156 t157 _ A29.out).mono ?_); rintro e w57 ⟨rfl, hb⟩; refine ⟨_, rfl, ?_⟩; have n0_ := Aside0.mk (Kd.R_below (by (with_reducible repeat (first | apply Kd.R_alloc | apply Kd.R_drewN | apply Kd.R_drew)); exact HO_5.out) hb); have n1_ := Aside0.mk (IsS81.below (by repeat (first | (with_reducible first | exact HI0.out | apply IsS81.alloc | apply IsS81.drewN | apply IsS81.drew | apply IsS81.set_1) | exact HI0.out)) hb); have n2_ := Aside0.mk (KeepBut.trans (by repeat (first | (with_reducible first | exact HK.out | apply KeepBut.set_ | apply keep_drewN | apply keep_drew | apply keep_alloc) | exact HK.out)) (KeepBut.of_below hb g none) (.inl rfl)); have n3_ := Aside0.mk (below_step (by repeat (first | (with_reducible first | exact HB.out | apply below_alloc | apply pw_below_drewN | apply below_drew1 | refine below_set ?_ (IsS81.ge HI0.out)) | exact HB.out)) hb); clear HO_5; clear HI0; clear HK; clear HB; have HO_5 := n0_; have HI0 := n1_; have HK := n2_; have HB := n3_; clear n0_ n1_ n2_ n3_; (try clear hb); (try clear hb2); (try clear hk); (try clear hi)) | ((with_reducible refine gate_callee (f := 113) rfl ?_); refine goesL_ (some 71) rfl rfl Try.func113 (by kernel_rfl) rfl #[.int .i64 (wrap64 ((wrap64 ((rd y143 t146) * (rd y143 (ji12)))) * (wrap64 ((wrap64 ((wrap64 ((rd y143 t146) * t150)) * t150)) + (wrap64 ((wrap64 ((rd y143 (ji12)) * (wrap64 (1 + t152)))) * (wrap64 (1 + t152))))))))] rfl (by (try simp only [List.map_toArray, List.map_cons, List.map_nil]); first | done | (simp only [hji12]; rfl) | rfl | (simp only [List.length_drop, List.length_take]; rfl)) ?_; (with_reducible refine (spec_l1Core.calls kj16 (wrap64 ((wrap64 ((rd y143 t146) * (rd y143 (ji12)))) * (wrap64 ((wrap64 ((wrap64 ((rd y143 t146) * t150)) * t150)) + (wrap64 ((wrap64 ((rd y143 (ji12)) * (wrap64 (1 + t152)))) * (wrap64 (1 + t152)))))))) t158 t159 _ A30.out).mono ?_); rintro e w58 ⟨rfl, hb⟩; refine ⟨_, rfl, ?_⟩; have n0_ := Aside0.mk (Kd.R_below (by (with_reducible repeat (first | apply Kd.R_alloc | apply Kd.R_drewN | apply Kd.R_drew)); exact HO_5.out) hb); have n1_ := Aside0.mk (IsS81.below (by repeat (first | (with_reducible first | exact HI0.out | apply IsS81.alloc | apply IsS81.drewN | apply IsS81.drew | apply IsS81.set_1) | exact HI0.out)) hb); have n2_ := Aside0.mk (KeepBut.trans (by repeat (first | (with_reducible first | exact HK.out | apply KeepBut.set_ | apply keep_drewN | apply keep_drew | apply keep_alloc) | exact HK.out)) (KeepBut.of_below hb g none) (.inl rfl)); have n3_ := Aside0.mk (below_step (by repeat (first | (with_reducible first | exact HB.out | apply below_alloc | apply pw_below_drewN | apply below_drew1 | refine below_set ?_ (IsS81.ge HI0.out)) | exact HB.out)) hb); clear HO_5; clear HI0; clear HK; clear HB; have HO_5 := n0_; have HI0 := n1_; have HK := n2_; have HB := n3_; clear n0_ n1_ n2_ n3_; (try clear hb); (try clear hb2); (try clear hk); (try clear hi)) | ((with_reducible refine gate_callee (f := 104) rfl ?_); refine goesL_ (some 75) rfl rfl Try.func104 (by kernel_rfl) rfl #[.int .i64 t156] rfl (by (try simp only [List.map_toArray, List.map_cons, List.map_nil]); first | done | rfl | (simp only [List.length_drop, List.length_take]; rfl)) ?_; (with_reducible refine (spec_l1Size.calls t156 t160 _ A31.out).mono ?_); rintro e w59 ⟨rfl, hb⟩; refine ⟨_, rfl, ?_⟩; have n0_ := Aside0.mk (Kd.R_below (by (with_reducible repeat (first | apply Kd.R_alloc | apply Kd.R_drewN | apply Kd.R_drew)); exact HO_5.out) hb); have n1_ := Aside0.mk (IsS81.below (by repeat (first | (with_reducible first | exact HI0.out | apply IsS81.alloc | apply IsS81.drewN | apply IsS81.drew | apply IsS81.set_1) | exact HI0.out)) hb); have n2_ := Aside0.mk (KeepBut.trans (by repeat (first | (with_reducible first | exact HK.out | apply KeepBut.set_ | apply keep_drewN | apply keep_drew | apply keep_alloc) | exact HK.out)) (KeepBut.of_below hb g none) (.inl rfl)); have n3_ := Aside0.mk (below_step (by repeat (first | (with_reducible first | exact HB.out | apply below_alloc | apply pw_below_drewN | apply below_drew1 | refine below_set ?_ (IsS81.ge HI0.out)) | exact HB.out)) hb); clear HO_5; clear HI0; clear HK; clear HB; have HO_5 := n0_; have HI0 := n1_; have HK := n2_; have HB := n3_; clear n0_ n1_ n2_ n3_; (try clear hb); (try clear hb2); (try clear hk); (try clear hi)) | (go_at_call 104; (with_reducible refine (spec_l1Size.calls t158 t161 _ A33.out).mono ?_); rintro e w60 ⟨rfl, hb⟩; have n0_ := Aside0.mk (Kd.R_below (by (with_reducible repeat (first | apply Kd.R_alloc | apply Kd.R_drewN | apply Kd.R_drew)); exact HO_5.out) hb); have n1_ := Aside0.mk (IsS81.below (by repeat (first | (with_reducible first | exact HI0.out | apply IsS81.alloc | apply IsS81.drewN | apply IsS81.drew | apply IsS81.set_1) | exact HI0.out)) hb); have n2_ := Aside0.mk (KeepBut.trans (by repeat (first | (with_reducible first | exact HK.out | apply KeepBut.set_ | apply keep_drewN | apply keep_drew | apply keep_alloc) | exact HK.out)) (KeepBut.of_below hb g none) (.inl rfl)); have n3_ := Aside0.mk (below_step (by repeat (first | (with_reducible first | exact HB.out | apply below_alloc | apply pw_below_drewN | apply below_drew1 | refine below_set ?_ (IsS81.ge HI0.out)) | exact HB.out)) hb); clear HO_5; clear HI0; clear HK; clear HB; have HO_5 := n0_; have HI0 := n1_; have HK := n2_; have HB := n3_; clear n0_ n1_ n2_ n3_; (try clear hb); (try clear hb2); (try clear hk); (try clear hi); have p52 : 0 ≤ (t146 : Int) := of_decide_eq_true (by first | (with_reducible assumption) | assumption); have q52 : (t146 : Int) < ((y143.length : Int) : Int) := of_decide_eq_true (by first | (with_reducible assumption) | assumption); obtain ⟨go52, co52, eo52, gb52, gl52, cl52, HG52⟩ := Kd.R_form HO_5.out (by omega); (first | cases eo52 | (injection eo52 with ea_ en_ ec_; (first | subst ea_ | (injection ea_ with ea_; subst ea_)); subst ec_; clear en_)); have GB52 := Aside0.mk gb52; have GG52 := Aside0.mk HG52; clear gb52 gl52 HG52; obtain ⟨hx52_0, hf52_0⟩ := Kd.R_celln 0 HO_5.out (t146 : Int) p52 q52; replace p52 := eq_true p52; replace q52 := eq_true q52; obtain ⟨hy61_, hz61_⟩ := Kd.R_celln 0 HO_5.out (t146 : Int) (of_decide_eq_true (by first | (with_reducible assumption) | assumption)) (of_decide_eq_true (by first | (with_reducible assumption) | assumption)); have HP61 := Kd.R_putg HO_5.out (t146 : Int) (rd y143 (ji12))) | ((with_reducible refine gate_store (t := 3) (p := 95) rfl ?_); refine store_event (t := 3) (p := 95) (v := ?vo_w62) (w1 := (w60.setCell ⟨go52, (t146 : Int).toNat, none⟩ (.int .i64 (rd y143 (ji12))))) ?hg ?ho ?hn ?hr ?_; (case ho => rfl); (case hg => rfl); (case hn => rfl); (case hr => first | (go_simp; done) | (go_simp; rfl)); intro w62 hw; have hg : w60.grownBy w62 (some go52) := (by rw [hw]; exact HP61.2); have hp_ : Kd.R (Kd.int .i64) 3 w62 w.heap.size (fun _ => True) (.slice (some ⟨go52, 0, none⟩) y143.length co21) y164 := (by rw [hw, Ny164.out]; exact HP61.1); clear HP61; have n0_ := Aside0.mk (hp_); have n1_ := Aside0.mk (IsS81.grown (by repeat (first | (with_reducible first | exact HI0.out | apply IsS81.alloc | apply IsS81.drewN | apply IsS81.drew | apply IsS81.set_1) | exact HI0.out)) hg (IsS81.own_ne HI0.out HO_5.out (by decide))); have n2_ := Aside0.mk ((by rw [hw]; exact below_set (HB.out) (Nat.le_trans HL.out GB52.out) : Below w0.heap.size w0 w62)); have n3_ := Aside0.mk (KeepBut.trans (by repeat (first | (with_reducible first | exact HK.out | apply KeepBut.set_ | apply keep_drewN | apply keep_drew | apply keep_alloc) | exact HK.out)) (KeepBut.of_grown hg g) (Kd.R_base2 HO_5.out)); clear HO_5; clear HI0; clear HB; clear HK; have HO_5 := n0_; have HI0 := n1_; have HB := n2_; have HK := n3_; clear n0_ n1_ n2_ n3_; clear hg hw hp_; have p56 : 0 ≤ ((ji12) : Int) := of_decide_eq_true (by first | (with_reducible assumption) | assumption); have q56 : ((ji12) : Int) < ((y143.length : Int) : Int) := of_decide_eq_true (by first | (with_reducible assumption) | assumption); obtain ⟨hx56_0, hf56_0⟩ := Kd.R_celln 0 HO_5.out ((ji12) : Int) p56 q56; replace p56 := eq_true p56; replace q56 := eq_true q56; obtain ⟨hy63_, hz63_⟩ := Kd.R_celln 0 HO_5.out ((ji12) : Int) (of_decide_eq_true (by first | (with_reducible assumption) | assumption)) (of_decide_eq_true (by first | (with_reducible assumption) | assumption)); have HP63 := Kd.R_putg HO_5.out ((ji12) : Int) (rd y143 t146)) | ((with_reducible refine gate_store (t := 3) (p := 100) rfl ?_); refine store_event (t := 3) (p := 100) (v := ?vo_w64) (w1 := (w62.setCell ⟨go52, ((ji12) : Int).toNat, none⟩ (.int .i64 (rd y143 t146)))) ?hg ?ho ?hn ?hr ?_; (case ho => rfl); (case hg => rfl); (case hn => rfl); (case hr => first | (go_simp; done) | (go_simp; rfl)); intro w64 hw; have hg : w62.grownBy w64 (some go52) := (by rw [hw]; exact HP63.2); have hp_ : Kd.R (Kd.int .i64) 3 w64 w.heap.size (fun _ => True) (.slice (some ⟨go52, 0, none⟩) y143.length co21) y165 := (by rw [hw, Ny165.out]; exact HP63.1); clear HP63; have n0_ := Aside0.mk (hp_); have n1_ := Aside0.mk (IsS81.grown (by repeat (first | (with_reducible first | exact HI0.out | apply IsS81.alloc | apply IsS81.drewN | apply IsS81.drew | apply IsS81.set_1) | exact HI0.out)) hg (IsS81.own_ne HI0.out HO_5.out (by decide))); have n2_ := Aside0.mk ((by rw [hw]; exact below_set (HB.out) (Nat.le_trans HL.out GB52.out) : Below w0.heap.size w0 w64)); have n3_ := Aside0.mk (KeepBut.trans (by repeat (first | (with_reducible first | exact HK.out | apply KeepBut.set_ | apply keep_drewN | apply keep_drew | apply keep_alloc) | exact HK.out)) (KeepBut.of_grown hg g) (Kd.R_base2 HO_5.out)); clear HO_5; clear HI0; clear HB; clear HK; have HO_5 := n0_; have HI0 := n1_; have HB := n2_; have HK := n3_; clear n0_ n1_ n2_ n3_; clear hg hw hp_))
                             go_ret
                             exact ⟨_, by first | rfl | (simp [errW_none, errW_some] <;> rfl) | (simp only [← hji12, ← hji12]; first | rfl | (simp [errW_none, errW_some] <;> rfl)) | (simp [*, errW_none, errW_some] <;> rfl), by (with_reducible repeat (first | apply Kd.R_alloc | apply Kd.R_drewN | apply Kd.R_drew)); exact HO_5.out, by repeat (first | (with_reducible first | exact HI0.out | apply IsS81.alloc | apply IsS81.drewN | apply IsS81.drew | apply IsS81.set_1) | exact HI0.out), by repeat (first | (with_reducible first | exact HB.out | apply below_alloc | apply pw_below_drewN | apply below_drew1 | refine below_set ?_ (IsS81.ge HI0.out)) | exact HB.out), by repeat (first | (with_reducible first | exact HK.out | apply KeepBut.set_ | apply keep_drewN | apply keep_drew | apply keep_alloc) | exact HK.out)⟩
                           · rw [if_neg c55] at H
                             exact absurd H (by simp)
                         · rw [if_neg c54] at H
                           exact absurd H (by simp)
                       · rw [if_neg c51] at H
                         exact absurd H (by simp)
                     · rw [if_neg c50] at H
                       exact absurd H (by simp)
                 · rw [if_neg c32] at H
                   have c32b0 : decide (t160 ≤ 30) = false := decide_eq_false c32
                   clear c32
                   by_cases c65 : 0 ≤ t146
                   · rw [if_pos c65] at H
                     have c65b0 : decide (0 ≤ t146) = true := decide_eq_true c65
                     clear c65
                     by_cases c66 : t146 < (y143.length : Int)
                     · rw [if_pos c66] at H
                       have c66b0 : decide (t146 < (y143.length : Int)) = true := decide_eq_true c66
                       clear c66
                       obtain ⟨y166, hy166⟩ : ∃ y_ : List Int, y_ = (y143.set (t146 : Int).toNat (rd y143 (ji12))) := ⟨_, rfl⟩
                       replace H : (if 0 ≤ (wrap64 (t146 + 1)) then (if (wrap64 (t146 + 1)) < (y143.length : Int) then (some ((y166.set ((wrap64 (t146 + 1)) : Int).toNat (rd y143 t146)), x1001_16)) else (none)) else (none)) = some (r1, r2) := by first | (rw [hy166]; with_reducible exact H) | (have H2_ := (Option.bind_some _ _).symm.trans H; rw [hy166]; with_reducible exact H2_) | (have H2_ := (Option.bind_some _ _).symm.trans H; with_reducible exact H2_) | with_reducible exact H | (rw [hy166]; exact H) | exact H
                       have Ny166 := Aside0.mk hy166
                       clear hy166
                       replace H : (if 0 ≤ (ji12) then (if (ji12) < (y143.length : Int) then (some ((y166.set ((ji12) : Int).toNat (rd y143 t146)), x1001_16)) else (none)) else (none)) = some (r1, r2) := by first | (rw [hji12] at H; exact H) | (simp only [hji12] at H ⊢; exact H)
                       (try rw [hji12] at A29)
                       (try rw [hji12] at A30)
                       (try rw [hji12] at A31)
                       have hji12w : (IntKind.i64.wrap (t146 + 1)) = ji12 := (i64_w _).trans hji12
                       by_cases c69 : 0 ≤ (ji12)
                       · rw [if_pos c69] at H
                         have c69b0 : decide (0 ≤ (ji12)) = true := decide_eq_true c69
                         clear c69
                         by_cases c70 : (ji12) < (y143.length : Int)
                         · rw [if_pos c70] at H
                           have c70b0 : decide ((ji12) < (y143.length : Int)) = true := decide_eq_true c70
                           clear c70
                           obtain ⟨y167, hy167⟩ : ∃ y_ : List Int, y_ = (y166.set ((ji12) : Int).toNat (rd y143 t146)) := ⟨_, rfl⟩
                           replace H : (some (y167, x1001_16)) = some (r1, r2) := by first | (rw [hy167]; with_reducible exact H) | (have H2_ := (Option.bind_some _ _).symm.trans H; rw [hy167]; with_reducible exact H2_) | (have H2_ := (Option.bind_some _ _).symm.trans H; with_reducible exact H2_) | with_reducible exact H | (rw [hy167]; exact H) | exact H
                           have Ny167 := Aside0.mk hy167
                           clear hy167
                           simp only [Option.some.injEq, Prod.mk.injEq] at H
                           obtain ⟨rfl, rfl⟩ := H
                           go_wp2_with (first | ((with_reducible refine gate_callee (f := 113) rfl ?_); refine goesL_ (some 62) rfl rfl Try.func113 (by kernel_rfl) rfl #[.int .i64 (wrap64 ((wrap64 ((wrap64 ((rd y143 t146) * t150)) * t150)) + (wrap64 ((wrap64 ((rd y143 (ji12)) * (wrap64 (1 + t152)))) * (wrap64 (1 + t152))))))] rfl (by (try simp only [List.map_toArray, List.map_cons, List.map_nil]); first | done | (simp only [hji12]; rfl) | rfl | (simp only [List.length_drop, List.length_take]; rfl)) ?_; (with_reducible refine (spec_l1Core.calls kj16 (wrap64 ((wrap64 ((wrap64 ((rd y143 t146) * t150)) * t150)) + (wrap64 ((wrap64 ((rd y143 (ji12)) * (wrap64 (1 + t152)))) * (wrap64 (1 + t152)))))) t156 t157 _ A29.out).mono ?_); rintro e w72 ⟨rfl, hb⟩; refine ⟨_, rfl, ?_⟩; have n0_ := Aside0.mk (Kd.R_below (by (with_reducible repeat (first | apply Kd.R_alloc | apply Kd.R_drewN | apply Kd.R_drew)); exact HO_5.out) hb); have n1_ := Aside0.mk (IsS81.below (by repeat (first | (with_reducible first | exact HI0.out | apply IsS81.alloc | apply IsS81.drewN | apply IsS81.drew | apply IsS81.set_1) | exact HI0.out)) hb); have n2_ := Aside0.mk (KeepBut.trans (by repeat (first | (with_reducible first | exact HK.out | apply KeepBut.set_ | apply keep_drewN | apply keep_drew | apply keep_alloc) | exact HK.out)) (KeepBut.of_below hb g none) (.inl rfl)); have n3_ := Aside0.mk (below_step (by repeat (first | (with_reducible first | exact HB.out | apply below_alloc | apply pw_below_drewN | apply below_drew1 | refine below_set ?_ (IsS81.ge HI0.out)) | exact HB.out)) hb); clear HO_5; clear HI0; clear HK; clear HB; have HO_5 := n0_; have HI0 := n1_; have HK := n2_; have HB := n3_; clear n0_ n1_ n2_ n3_; (try clear hb); (try clear hb2); (try clear hk); (try clear hi)) | ((with_reducible refine gate_callee (f := 113) rfl ?_); refine goesL_ (some 71) rfl rfl Try.func113 (by kernel_rfl) rfl #[.int .i64 (wrap64 ((wrap64 ((rd y143 t146) * (rd y143 (ji12)))) * (wrap64 ((wrap64 ((wrap64 ((rd y143 t146) * t150)) * t150)) + (wrap64 ((wrap64 ((rd y143 (ji12)) * (wrap64 (1 + t152)))) * (wrap64 (1 + t152))))))))] rfl (by (try simp only [List.map_toArray, List.map_cons, List.map_nil]); first | done | (simp only [hji12]; rfl) | rfl | (simp only [List.length_drop, List.length_take]; rfl)) ?_; (with_reducible refine (spec_l1Core.calls kj16 (wrap64 ((wrap64 ((rd y143 t146) * (rd y143 (ji12)))) * (wrap64 ((wrap64 ((wrap64 ((rd y143 t146) * t150)) * t150)) + (wrap64 ((wrap64 ((rd y143 (ji12)) * (wrap64 (1 + t152)))) * (wrap64 (1 + t152)))))))) t158 t159 _ A30.out).mono ?_); rintro e w73 ⟨rfl, hb⟩; refine ⟨_, rfl, ?_⟩; have n0_ := Aside0.mk (Kd.R_below (by (with_reducible repeat (first | apply Kd.R_alloc | apply Kd.R_drewN | apply Kd.R_drew)); exact HO_5.out) hb); have n1_ := Aside0.mk (IsS81.below (by repeat (first | (with_reducible first | exact HI0.out | apply IsS81.alloc | apply IsS81.drewN | apply IsS81.drew | apply IsS81.set_1) | exact HI0.out)) hb); have n2_ := Aside0.mk (KeepBut.trans (by repeat (first | (with_reducible first | exact HK.out | apply KeepBut.set_ | apply keep_drewN | apply keep_drew | apply keep_alloc) | exact HK.out)) (KeepBut.of_below hb g none) (.inl rfl)); have n3_ := Aside0.mk (below_step (by repeat (first | (with_reducible first | exact HB.out | apply below_alloc | apply pw_below_drewN | apply below_drew1 | refine below_set ?_ (IsS81.ge HI0.out)) | exact HB.out)) hb); clear HO_5; clear HI0; clear HK; clear HB; have HO_5 := n0_; have HI0 := n1_; have HK := n2_; have HB := n3_; clear n0_ n1_ n2_ n3_; (try clear hb); (try clear hb2); (try clear hk); (try clear hi)) | ((with_reducible refine gate_callee (f := 104) rfl ?_); refine goesL_ (some 75) rfl rfl Try.func104 (by kernel_rfl) rfl #[.int .i64 t156] rfl (by (try simp only [List.map_toArray, List.map_cons, List.map_nil]); first | done | rfl | (simp only [List.length_drop, List.length_take]; rfl)) ?_; (with_reducible refine (spec_l1Size.calls t156 t160 _ A31.out).mono ?_); rintro e w74 ⟨rfl, hb⟩; refine ⟨_, rfl, ?_⟩; have n0_ := Aside0.mk (Kd.R_below (by (with_reducible repeat (first | apply Kd.R_alloc | apply Kd.R_drewN | apply Kd.R_drew)); exact HO_5.out) hb); have n1_ := Aside0.mk (IsS81.below (by repeat (first | (with_reducible first | exact HI0.out | apply IsS81.alloc | apply IsS81.drewN | apply IsS81.drew | apply IsS81.set_1) | exact HI0.out)) hb); have n2_ := Aside0.mk (KeepBut.trans (by repeat (first | (with_reducible first | exact HK.out | apply KeepBut.set_ | apply keep_drewN | apply keep_drew | apply keep_alloc) | exact HK.out)) (KeepBut.of_below hb g none) (.inl rfl)); have n3_ := Aside0.mk (below_step (by repeat (first | (with_reducible first | exact HB.out | apply below_alloc | apply pw_below_drewN | apply below_drew1 | refine below_set ?_ (IsS81.ge HI0.out)) | exact HB.out)) hb); clear HO_5; clear HI0; clear HK; clear HB; have HO_5 := n0_; have HI0 := n1_; have HK := n2_; have HB := n3_; clear n0_ n1_ n2_ n3_; (try clear hb); (try clear hb2); (try clear hk); (try clear hi); have p67 : 0 ≤ (t146 : Int) := of_decide_eq_true (by first | (with_reducible assumption) | assumption); have q67 : (t146 : Int) < ((y143.length : Int) : Int) := of_decide_eq_true (by first | (with_reducible assumption) | assumption); obtain ⟨go67, co67, eo67, gb67, gl67, cl67, HG67⟩ := Kd.R_form HO_5.out (by omega); (first | cases eo67 | (injection eo67 with ea_ en_ ec_; (first | subst ea_ | (injection ea_ with ea_; subst ea_)); subst ec_; clear en_)); have GB67 := Aside0.mk gb67; have GG67 := Aside0.mk HG67; clear gb67 gl67 HG67; obtain ⟨hx67_0, hf67_0⟩ := Kd.R_celln 0 HO_5.out (t146 : Int) p67 q67; replace p67 := eq_true p67; replace q67 := eq_true q67; obtain ⟨hy75_, hz75_⟩ := Kd.R_celln 0 HO_5.out (t146 : Int) (of_decide_eq_true (by first | (with_reducible assumption) | assumption)) (of_decide_eq_true (by first | (with_reducible assumption) | assumption)); have HP75 := Kd.R_putg HO_5.out (t146 : Int) (rd y143 (ji12))) | ((with_reducible refine gate_store (t := 3) (p := 95) rfl ?_); refine store_event (t := 3) (p := 95) (v := ?vo_w76) (w1 := (w74.setCell ⟨go67, (t146 : Int).toNat, none⟩ (.int .i64 (rd y143 (ji12))))) ?hg ?ho ?hn ?hr ?_; (case ho => rfl); (case hg => rfl); (case hn => rfl); (case hr => first | (go_simp; done) | (go_simp; rfl)); intro w76 hw; have hg : w74.grownBy w76 (some go67) := (by rw [hw]; exact HP75.2); have hp_ : Kd.R (Kd.int .i64) 3 w76 w.heap.size (fun _ => True) (.slice (some ⟨go67, 0, none⟩) y143.length co21) y166 := (by rw [hw, Ny166.out]; exact HP75.1); clear HP75; have n0_ := Aside0.mk (hp_); have n1_ := Aside0.mk (IsS81.grown (by repeat (first | (with_reducible first | exact HI0.out | apply IsS81.alloc | apply IsS81.drewN | apply IsS81.drew | apply IsS81.set_1) | exact HI0.out)) hg (IsS81.own_ne HI0.out HO_5.out (by decide))); have n2_ := Aside0.mk ((by rw [hw]; exact below_set (HB.out) (Nat.le_trans HL.out GB67.out) : Below w0.heap.size w0 w76)); have n3_ := Aside0.mk (KeepBut.trans (by repeat (first | (with_reducible first | exact HK.out | apply KeepBut.set_ | apply keep_drewN | apply keep_drew | apply keep_alloc) | exact HK.out)) (KeepBut.of_grown hg g) (Kd.R_base2 HO_5.out)); clear HO_5; clear HI0; clear HB; clear HK; have HO_5 := n0_; have HI0 := n1_; have HB := n2_; have HK := n3_; clear n0_ n1_ n2_ n3_; clear hg hw hp_; have p71 : 0 ≤ ((ji12) : Int) := of_decide_eq_true (by first | (with_reducible assumption) | assumption); have q71 : ((ji12) : Int) < ((y143.length : Int) : Int) := of_decide_eq_true (by first | (with_reducible assumption) | assumption); obtain ⟨hx71_0, hf71_0⟩ := Kd.R_celln 0 HO_5.out ((ji12) : Int) p71 q71; replace p71 := eq_true p71; replace q71 := eq_true q71; obtain ⟨hy77_, hz77_⟩ := Kd.R_celln 0 HO_5.out ((ji12) : Int) (of_decide_eq_true (by first | (with_reducible assumption) | assumption)) (of_decide_eq_true (by first | (with_reducible assumption) | assumption)); have HP77 := Kd.R_putg HO_5.out ((ji12) : Int) (rd y143 t146)) | ((with_reducible refine gate_store (t := 3) (p := 100) rfl ?_); refine store_event (t := 3) (p := 100) (v := ?vo_w78) (w1 := (w76.setCell ⟨go67, ((ji12) : Int).toNat, none⟩ (.int .i64 (rd y143 t146)))) ?hg ?ho ?hn ?hr ?_; (case ho => rfl); (case hg => rfl); (case hn => rfl); (case hr => first | (go_simp; done) | (go_simp; rfl)); intro w78 hw; have hg : w76.grownBy w78 (some go67) := (by rw [hw]; exact HP77.2); have hp_ : Kd.R (Kd.int .i64) 3 w78 w.heap.size (fun _ => True) (.slice (some ⟨go67, 0, none⟩) y143.length co21) y167 := (by rw [hw, Ny167.out]; exact HP77.1); clear HP77; have n0_ := Aside0.mk (hp_); have n1_ := Aside0.mk (IsS81.grown (by repeat (first | (with_reducible first | exact HI0.out | apply IsS81.alloc | apply IsS81.drewN | apply IsS81.drew | apply IsS81.set_1) | exact HI0.out)) hg (IsS81.own_ne HI0.out HO_5.out (by decide))); have n2_ := Aside0.mk ((by rw [hw]; exact below_set (HB.out) (Nat.le_trans HL.out GB67.out) : Below w0.heap.size w0 w78)); have n3_ := Aside0.mk (KeepBut.trans (by repeat (first | (with_reducible first | exact HK.out | apply KeepBut.set_ | apply keep_drewN | apply keep_drew | apply keep_alloc) | exact HK.out)) (KeepBut.of_grown hg g) (Kd.R_base2 HO_5.out)); clear HO_5; clear HI0; clear HB; clear HK; have HO_5 := n0_; have HI0 := n1_; have HB := n2_; have HK := n3_; clear n0_ n1_ n2_ n3_; clear hg hw hp_))
                           go_ret
                           exact ⟨_, by first | rfl | (simp [errW_none, errW_some] <;> rfl) | (simp only [← hji12, ← hji12]; first | rfl | (simp [errW_none, errW_some] <;> rfl)) | (simp [*, errW_none, errW_some] <;> rfl), by (with_reducible repeat (first | apply Kd.R_alloc | apply Kd.R_drewN | apply Kd.R_drew)); exact HO_5.out, by repeat (first | (with_reducible first | exact HI0.out | apply IsS81.alloc | apply IsS81.drewN | apply IsS81.drew | apply IsS81.set_1) | exact HI0.out), by repeat (first | (with_reducible first | exact HB.out | apply below_alloc | apply pw_below_drewN | apply below_drew1 | refine below_set ?_ (IsS81.ge HI0.out)) | exact HB.out), by repeat (first | (with_reducible first | exact HK.out | apply KeepBut.set_ | apply keep_drewN | apply keep_drew | apply keep_alloc) | exact HK.out)⟩
                         · rw [if_neg c70] at H
                           exact absurd H (by simp)
                       · rw [if_neg c69] at H
                         exact absurd H (by simp)
                     · rw [if_neg c66] at H
                       exact absurd H (by simp)
                   · rw [if_neg c65] at H
                     exact absurd H (by simp)
               · replace c28 := Bool.eq_false_iff.mpr c28
                 subst c28
                 have H1 : (if 0 ≤ t146 then (if t146 < (y143.length : Int) then (if 0 ≤ (wrap64 (t146 + 1)) then (if (wrap64 (t146 + 1)) < (y143.length : Int) then (some (((y143.set (t146 : Int).toNat (rd y143 (ji12))).set ((wrap64 (t146 + 1)) : Int).toNat (rd y143 t146)), x1001_16)) else (none)) else (none)) else (none)) else (none)) = some (r1, r2) := by rw [if_neg (show ¬ (false = true) by decide)] at H; exact H
                 clear H
                 have H := H1
                 clear H1
                 by_cases c79 : 0 ≤ t146
                 · rw [if_pos c79] at H
                   have c79b0 : decide (0 ≤ t146) = true := decide_eq_true c79
                   clear c79
                   by_cases c80 : t146 < (y143.length : Int)
                   · rw [if_pos c80] at H
                     have c80b0 : decide (t146 < (y143.length : Int)) = true := decide_eq_true c80
                     clear c80
                     obtain ⟨y168, hy168⟩ : ∃ y_ : List Int, y_ = (y143.set (t146 : Int).toNat (rd y143 (ji12))) := ⟨_, rfl⟩
                     replace H : (if 0 ≤ (wrap64 (t146 + 1)) then (if (wrap64 (t146 + 1)) < (y143.length : Int) then (some ((y168.set ((wrap64 (t146 + 1)) : Int).toNat (rd y143 t146)), x1001_16)) else (none)) else (none)) = some (r1, r2) := by first | (rw [hy168]; with_reducible exact H) | (have H2_ := (Option.bind_some _ _).symm.trans H; rw [hy168]; with_reducible exact H2_) | (have H2_ := (Option.bind_some _ _).symm.trans H; with_reducible exact H2_) | with_reducible exact H | (rw [hy168]; exact H) | exact H
                     have Ny168 := Aside0.mk hy168
                     clear hy168
                     replace H : (if 0 ≤ (ji12) then (if (ji12) < (y143.length : Int) then (some ((y168.set ((ji12) : Int).toNat (rd y143 t146)), x1001_16)) else (none)) else (none)) = some (r1, r2) := by first | (rw [hji12] at H; exact H) | (simp only [hji12] at H ⊢; exact H)
                     have hji12w : (IntKind.i64.wrap (t146 + 1)) = ji12 := (i64_w _).trans hji12
                     by_cases c83 : 0 ≤ (ji12)
                     · rw [if_pos c83] at H
                       have c83b0 : decide (0 ≤ (ji12)) = true := decide_eq_true c83
                       clear c83
                       by_cases c84 : (ji12) < (y143.length : Int)
                       · rw [if_pos c84] at H
                         have c84b0 : decide ((ji12) < (y143.length : Int)) = true := decide_eq_true c84
                         clear c84
                         obtain ⟨y169, hy169⟩ : ∃ y_ : List Int, y_ = (y168.set ((ji12) : Int).toNat (rd y143 t146)) := ⟨_, rfl⟩
                         replace H : (some (y169, x1001_16)) = some (r1, r2) := by first | (rw [hy169]; with_reducible exact H) | (have H2_ := (Option.bind_some _ _).symm.trans H; rw [hy169]; with_reducible exact H2_) | (have H2_ := (Option.bind_some _ _).symm.trans H; with_reducible exact H2_) | with_reducible exact H | (rw [hy169]; exact H) | exact H
                         have Ny169 := Aside0.mk hy169
                         clear hy169
                         simp only [Option.some.injEq, Prod.mk.injEq] at H
                         obtain ⟨rfl, rfl⟩ := H
                         have p81 : 0 ≤ (t146 : Int) := of_decide_eq_true (by first | (with_reducible assumption) | assumption)
                         have q81 : (t146 : Int) < ((y143.length : Int) : Int) := of_decide_eq_true (by first | (with_reducible assumption) | assumption)
                         obtain ⟨go81, co81, eo81, gb81, gl81, cl81, HG81⟩ := Kd.R_form HO_5.out (by omega)
                         (first | cases eo81 | (injection eo81 with ea_ en_ ec_; (first | subst ea_ | (injection ea_ with ea_; subst ea_)); subst ec_; clear en_))
                         have GB81 := Aside0.mk gb81
                         have GG81 := Aside0.mk HG81
                         clear gb81 gl81 HG81
                         obtain ⟨hx81_0, hf81_0⟩ := Kd.R_celln 0 HO_5.out (t146 : Int) p81 q81
                         replace p81 := eq_true p81
                         replace q81 := eq_true q81
                         have HP86 := Kd.R_putg HO_5.out (t146 : Int) (rd y143 (ji12))
                         go_wp2_with (first | ((with_reducible refine gate_store (t := 3) (p := 95) rfl ?_); refine store_event (t := 3) (p := 95) (v := ?vo_w87) (w1 := (wc.setCell ⟨go81, (t146 : Int).toNat, none⟩ (.int .i64 (rd y143 (ji12))))) ?hg ?ho ?hn ?hr ?_; (case ho => rfl); (case hg => rfl); (case hn => rfl); (case hr => first | (go_simp; done) | (go_simp; rfl)); intro w87 hw; have hg : wc.grownBy w87 (some go81) := (by rw [hw]; exact HP86.2); have hp_ : Kd.R (Kd.int .i64) 3 w87 w.heap.size (fun _ => True) (.slice (some ⟨go81, 0, none⟩) y143.length co21) y168 := (by rw [hw, Ny168.out]; exact HP86.1); clear HP86; have n0_ := Aside0.mk (hp_); have n1_ := Aside0.mk (IsS81.grown (by repeat (first | (with_reducible first | exact HI0.out | apply IsS81.alloc | apply IsS81.drewN | apply IsS81.drew | apply IsS81.set_1) | exact HI0.out)) hg (IsS81.own_ne HI0.out HO_5.out (by decide))); have n2_ := Aside0.mk ((by rw [hw]; exact below_set (HB.out) (Nat.le_trans HL.out GB81.out) : Below w0.heap.size w0 w87)); have n3_ := Aside0.mk (KeepBut.trans (by repeat (first | (with_reducible first | exact HK.out | apply KeepBut.set_ | apply keep_drewN | apply keep_drew | apply keep_alloc) | exact HK.out)) (KeepBut.of_grown hg g) (Kd.R_base2 HO_5.out)); clear HO_5; clear HI0; clear HB; clear HK; have HO_5 := n0_; have HI0 := n1_; have HB := n2_; have HK := n3_; clear n0_ n1_ n2_ n3_; clear hg hw hp_; have p85 : 0 ≤ ((ji12) : Int) := of_decide_eq_true (by first | (with_reducible assumption) | assumption); have q85 : ((ji12) : Int) < ((y143.length : Int) : Int) := of_decide_eq_true (by first | (with_reducible assumption) | assumption); obtain ⟨hx85_0, hf85_0⟩ := Kd.R_celln 0 HO_5.out ((ji12) : Int) p85 q85; replace p85 := eq_true p85; replace q85 := eq_true q85; obtain ⟨hy88_, hz88_⟩ := Kd.R_celln 0 HO_5.out ((ji12) : Int) (of_decide_eq_true (by first | (with_reducible assumption) | assumption)) (of_decide_eq_true (by first | (with_reducible assumption) | assumption)); have HP88 := Kd.R_putg HO_5.out ((ji12) : Int) (rd y143 t146)) | ((with_reducible refine gate_store (t := 3) (p := 100) rfl ?_); refine store_event (t := 3) (p := 100) (v := ?vo_w89) (w1 := (w87.setCell ⟨go81, ((ji12) : Int).toNat, none⟩ (.int .i64 (rd y143 t146)))) ?hg ?ho ?hn ?hr ?_; (case ho => rfl); (case hg => rfl); (case hn => rfl); (case hr => first | (go_simp; done) | (go_simp; rfl)); intro w89 hw; have hg : w87.grownBy w89 (some go81) := (by rw [hw]; exact HP88.2); have hp_ : Kd.R (Kd.int .i64) 3 w89 w.heap.size (fun _ => True) (.slice (some ⟨go81, 0, none⟩) y143.length co21) y169 := (by rw [hw, Ny169.out]; exact HP88.1); clear HP88; have n0_ := Aside0.mk (hp_); have n1_ := Aside0.mk (IsS81.grown (by repeat (first | (with_reducible first | exact HI0.out | apply IsS81.alloc | apply IsS81.drewN | apply IsS81.drew | apply IsS81.set_1) | exact HI0.out)) hg (IsS81.own_ne HI0.out HO_5.out (by decide))); have n2_ := Aside0.mk ((by rw [hw]; exact below_set (HB.out) (Nat.le_trans HL.out GB81.out) : Below w0.heap.size w0 w89)); have n3_ := Aside0.mk (KeepBut.trans (by repeat (first | (with_reducible first | exact HK.out | apply KeepBut.set_ | apply keep_drewN | apply keep_drew | apply keep_alloc) | exact HK.out)) (KeepBut.of_grown hg g) (Kd.R_base2 HO_5.out)); clear HO_5; clear HI0; clear HB; clear HK; have HO_5 := n0_; have HI0 := n1_; have HB := n2_; have HK := n3_; clear n0_ n1_ n2_ n3_; clear hg hw hp_))
                         go_ret
                         exact ⟨_, by first | rfl | (simp [errW_none, errW_some] <;> rfl) | (simp only [← hji12, ← hji12]; first | rfl | (simp [errW_none, errW_some] <;> rfl)) | (simp [*, errW_none, errW_some] <;> rfl), by (with_reducible repeat (first | apply Kd.R_alloc | apply Kd.R_drewN | apply Kd.R_drew)); exact HO_5.out, by repeat (first | (with_reducible first | exact HI0.out | apply IsS81.alloc | apply IsS81.drewN | apply IsS81.drew | apply IsS81.set_1) | exact HI0.out), by repeat (first | (with_reducible first | exact HB.out | apply below_alloc | apply pw_below_drewN | apply below_drew1 | refine below_set ?_ (IsS81.ge HI0.out)) | exact HB.out), by repeat (first | (with_reducible first | exact HK.out | apply KeepBut.set_ | apply keep_drewN | apply keep_drew | apply keep_alloc) | exact HK.out)⟩
                       · rw [if_neg c84] at H
                         exact absurd H (by simp)
                     · rw [if_neg c83] at H
                       exact absurd H (by simp)
                   · rw [if_neg c80] at H
                     exact absurd H (by simp)
                 · rw [if_neg c79] at H
                   exact absurd H (by simp)
           · rw [if_neg c14] at H
             exact absurd H (by simp)
         · rw [if_neg c13] at H
           exact absurd H (by simp)
       · rw [if_neg c11] at H
         exact absurd H (by simp)
     · rw [if_neg c10] at H
       exact absurd H (by simp)
 · rw [if_neg c3] at H
   exact absurd H (by simp)

/-! ### spec_l91Two: function 55 -/
def spec_l91Two.j0 : Nat → List Int → Bool → List Int → Int → Option (List Int × List Int × Int)
 | 0, _, _, _, _ => none
 | k + 1, x4, x13, x1000, x1001 => if x13 = true then ((spec_l91Same.f k x1000 x1001 x4).bind fun bt177 => ((spec_l91Same.f k x1000 bt177.2 bt177.1).bind fun bt181 => (some (x4, bt181.1, bt181.2)))) else ((spec_l91Form.f k x1000 x1001 4).bind fun bt185 => (some (x4, bt185.1, bt185.2)))
def spec_l91Two.f (k : Nat) (s0_0 : List Int) (s0_1 : Int) : Option (List Int × List Int × Int) := (spec_l91Form.f k s0_0 s0_1 4).bind fun bt170 => ((spec_l6Rd_pick.f k s0_0 bt170.2 3).bind fun bt174 => (if bt174.1 > 0 then ((spec_FormValid.f k bt170.1).bind fun t176 => (spec_l91Two.j0 k bt170.1 t176 s0_0 bt174.2)) else (spec_l91Two.j0 k bt170.1 false s0_0 bt174.2)))
theorem spec_l91Two.mono_l : ∀ k, (∀ y0 y1 y2 y3, LeO (spec_l91Two.j0 k y0 y1 y2 y3) (spec_l91Two.j0 (k + 1) y0 y1 y2 y3))
 | 0 => fun _ _ _ _ r h => by simp [spec_l91Two.j0] at h
 | k + 1 => by
  have ih0 := spec_l91Two.mono_l k
  · intro y0 y1 y2 y3
    unfold spec_l91Two.j0
    repeat' first
    | (with_reducible exact ih0 _ _ _ _)
    | (with_reducible exact spec_FormValid.mono _ _)
    | (with_reducible exact spec_l6Rd_pick.mono _ _ _ _)
    | (with_reducible exact spec_l91Form.mono _ _ _ _)
    | (with_reducible exact spec_l91Same.mono _ _ _ _)
    | (with_reducible exact LeO.refl _)
    | (with_reducible exact LeO.none _)
    | (with_reducible refine LeO.ite ?_ ?_)
    | (with_reducible refine LeO.bind ?_ (fun _ => ?_))
    | exact ih0 _ _ _ _
    | exact spec_FormValid.mono _ _
    | exact spec_l6Rd_pick.mono _ _ _ _
    | exact spec_l91Form.mono _ _ _ _
    | exact spec_l91Same.mono _ _ _ _
    | exact LeO.none _
    | refine LeO.ite ?_ ?_
    | refine LeO.bind ?_ (fun _ => ?_)
theorem spec_l91Two.mono : ∀ a0 a1 k, LeO (spec_l91Two.f k a0 a1) (spec_l91Two.f (k + 1) a0 a1) := by
 intro a0 a1 k
 have ih0 := spec_l91Two.mono_l k
 unfold spec_l91Two.f
 repeat' first
  | (with_reducible exact ih0 _ _ _ _)
  | (with_reducible exact spec_FormValid.mono _ _)
  | (with_reducible exact spec_l6Rd_pick.mono _ _ _ _)
  | (with_reducible exact spec_l91Form.mono _ _ _ _)
  | (with_reducible exact spec_l91Same.mono _ _ _ _)
  | (with_reducible exact LeO.refl _)
  | (with_reducible exact LeO.none _)
  | (with_reducible refine LeO.ite ?_ ?_)
  | (with_reducible refine LeO.bind ?_ (fun _ => ?_))
  | exact ih0 _ _ _ _
  | exact spec_FormValid.mono _ _
  | exact spec_l6Rd_pick.mono _ _ _ _
  | exact spec_l91Form.mono _ _ _ _
  | exact spec_l91Same.mono _ _ _ _
  | exact LeO.none _
  | refine LeO.ite ?_ ?_
  | refine LeO.bind ?_ (fun _ => ?_)
set_option maxHeartbeats 8000000 in
set_option maxRecDepth 100000 in
theorem spec_l91Two.calls (k : Nat) (g : Nat) (s0_0 : List Int) (s0_1 : Int) (r1 : List Int) (r2 : List Int) (r3 : Int) (w0 w : World) (hI : IsS81 w0 w g s0_0 s0_1) (hB : Below w0.heap.size w0 w) (h : spec_l91Two.f k s0_0 s0_1 = some (r1, r2, r3)) :
 Calls Try.prog 55 #[.pointer (some ⟨g, 0, none⟩)] w fun e w' => ∃ v0_ v1_ : Value, e = .returned (.tuple #[v0_, v1_]) ∧ Kd.R (Kd.int .i64) 3 w' w.heap.size (fun k_ => some k_ ≠ (v1_ : Value).ownBlock) v0_ r1 ∧ Kd.R (Kd.int .i64) 3 w' w.heap.size (fun k_ => some k_ ≠ (v0_ : Value).ownBlock) v1_ r2 ∧ IsS81 w0 w' g s0_0 r3 ∧ Below w0.heap.size w0 w' ∧ KeepBut w w' g none := by
 have HI0 := Aside0.mk hI
 have HK := Aside0.mk (KeepBut.refl w g none)
 have HL := Aside0.mk hB.size
 clear hI
 have HW0 := Aside0.mk hB.size
 have HB := Aside0.mk hB
 clear hB
 have H : ((spec_l91Form.f k s0_0 s0_1 4).bind fun bt170 => ((spec_l6Rd_pick.f k s0_0 bt170.2 3).bind fun bt174 => (if bt174.1 > 0 then ((spec_FormValid.f k bt170.1).bind fun t176 => (spec_l91Two.j0 k bt170.1 t176 s0_0 bt174.2)) else (spec_l91Two.j0 k bt170.1 false s0_0 bt174.2)))) = some (r1, r2, r3) := h
 clear h
 replace H := Option.bind_eq_some_iff.mp H
 obtain ⟨⟨t170, t173⟩, A20, H⟩ := H
 replace H : ((spec_l6Rd_pick.f k s0_0 t173 3).bind fun bt174 => (if bt174.1 > 0 then ((spec_FormValid.f k t170).bind fun t176 => (spec_l91Two.j0 k t170 t176 s0_0 bt174.2)) else (spec_l91Two.j0 k t170 false s0_0 bt174.2))) = some (r1, r2, r3) := H
 have A2 := Aside0.mk A20
 clear A20
 have HC3 := Aside0.mk H
 clear H
 go_enter Try.func55, Try.ntmps55
 go_upto_region 2 with (first | ((with_reducible refine gate_callee (f := 69) rfl ?_); refine goesL_ (some 6) rfl rfl Try.func69 (by kernel_rfl) rfl #[.pointer (some ⟨g, 0, none⟩), .int .i64 4] rfl (by (try simp only [List.map_toArray, List.map_cons, List.map_nil]); first | done | rfl | (simp only [List.length_drop, List.length_take]; rfl)) ?_; (with_reducible refine (spec_l91Form.calls k g s0_0 s0_1 4 t170 t173 w0 _ ?side1 ?side2 A2.out).mono ?_); (case side1 => repeat (first | (with_reducible first | exact HI0.out | apply IsS81.alloc | apply IsS81.drewN | apply IsS81.drew | apply IsS81.set_1) | exact HI0.out)); (case side2 => repeat (first | (with_reducible first | exact HB.out | apply below_alloc | apply pw_below_drewN | apply below_drew1 | refine below_set ?_ (IsS81.ge HI0.out)) | exact HB.out)); rintro e w4 ⟨v171, rfl, ho0, hi, hb, hk⟩; refine ⟨_, rfl, ?_⟩; have n0_ := Aside0.mk (Kd.R_lower ho0 (keep_size (w := w) (g := g) (row := none) (by repeat (first | (with_reducible first | exact HK.out | apply KeepBut.set_ | apply keep_drewN | apply keep_drew | apply keep_alloc) | exact HK.out)))); have n1_ := Aside0.mk (KeepBut.trans (by repeat (first | (with_reducible first | exact HK.out | apply KeepBut.set_ | apply keep_drewN | apply keep_drew | apply keep_alloc) | exact HK.out)) hk (.inl rfl)); have n2_ := Aside0.mk (hb); have n3_ := Aside0.mk (hi); clear HK; clear HB; clear HI0; have HO172 := n0_; have HK := n1_; have HB := n2_; have HI0 := n3_; clear n0_ n1_ n2_ n3_; (try clear hb); (try clear hb2); (try clear hk); (try clear hi); (try clear ho0)))
 (try simp only [Act.put, List.setIfInBounds_toArray, List.set_cons_zero, List.set_cons_succ])
 go_cut [13] (fun v13 wc => ∃ (kq : Nat) (x13_2 : Bool) (x1001_2 : Int), v13 = .bool x13_2 ∧ Aside0 (spec_l91Two.j0 kq t170 x13_2 s0_0 x1001_2 = some (r1, r2, r3)) ∧ Aside0 (kq ≤ k) ∧ Aside0 (Kd.R (Kd.int .i64) 3 wc w.heap.size (fun _ => True) v171 t170) ∧ Aside0 (IsS81 w0 wc g s0_0 x1001_2) ∧ Aside0 (KeepBut w wc g none) ∧ Aside0 (Below w0.heap.size w0 wc))
 case first =>
  have H := HC3.out
  clear HC3
  replace H := Option.bind_eq_some_iff.mp H
  obtain ⟨⟨t174, t175⟩, A50, H⟩ := H
  replace H : (if t174 > 0 then ((spec_FormValid.f k t170).bind fun t176 => (spec_l91Two.j0 k t170 t176 s0_0 t175)) else (spec_l91Two.j0 k t170 false s0_0 t175)) = some (r1, r2, r3) := H
  have A5 := Aside0.mk A50
  clear A50
  by_cases c6 : t174 > 0
  · rw [if_pos c6] at H
    have c6b0 : decide (0 < t174) = true := decide_eq_true c6
    clear c6
    (first | rw [c6b0] | (simp only [i64_w, i32_w]; rw [c6b0]) | skip)
    replace H := Option.bind_eq_some_iff.mp H
    obtain ⟨t176, A70, H⟩ := H
    replace H : (spec_l91Two.j0 k t170 t176 s0_0 t175) = some (r1, r2, r3) := H
    have A7 := Aside0.mk A70
    clear A70
    have H' := Aside0.mk H
    clear H
    go_wp2_with (first | ((with_reducible refine gate_callee (f := 68) rfl ?_); refine goesL_ (some 8) rfl rfl Try.func68 (by kernel_rfl) rfl #[.pointer (some ⟨g, 0, none⟩), .int .i64 3] rfl (by (try simp only [List.map_toArray, List.map_cons, List.map_nil]); first | done | rfl | (simp only [List.length_drop, List.length_take]; rfl)) ?_; (with_reducible refine (spec_l6Rd_pick.calls k g s0_0 t173 3 t174 t175 w0 _ ?side1 ?side2 A5.out).mono ?_); (case side1 => repeat (first | (with_reducible first | exact HI0.out | apply IsS81.alloc | apply IsS81.drewN | apply IsS81.drew | apply IsS81.set_1) | exact HI0.out)); (case side2 => repeat (first | (with_reducible first | exact HB.out | apply below_alloc | apply pw_below_drewN | apply below_drew1 | refine below_set ?_ (IsS81.ge HI0.out)) | exact HB.out)); rintro e w8 ⟨rfl, hi, hb, hk⟩; refine ⟨_, rfl, ?_⟩; have n0_ := Aside0.mk (Kd.R_mono (Kd.R_keep (IsS81.apart (show IsS81 w0 _ g s0_0 t173 from by repeat (first | (with_reducible first | exact HI0.out | apply IsS81.alloc | apply IsS81.drewN | apply IsS81.drew | apply IsS81.set_1) | exact HI0.out)) (by (with_reducible repeat (first | apply Kd.R_alloc | apply Kd.R_drewN | apply Kd.R_drew)); exact HO172.out) (by decide)) hk (fun _ h => h.2)) (fun _ h => h.1)); have n1_ := Aside0.mk (KeepBut.trans (by repeat (first | (with_reducible first | exact HK.out | apply KeepBut.set_ | apply keep_drewN | apply keep_drew | apply keep_alloc) | exact HK.out)) hk (.inl rfl)); have n2_ := Aside0.mk (hb); have n3_ := Aside0.mk (hi); clear HO172; clear HK; clear HB; clear HI0; have HO172 := n0_; have HK := n1_; have HB := n2_; have HI0 := n3_; clear n0_ n1_ n2_ n3_; (try clear hb); (try clear hb2); (try clear hk); (try clear hi); obtain ⟨Ao9, co9, eo9⟩ := Kd.R_slice HO172.out; subst eo9) | (go_at_call 73; (with_reducible refine (spec_FormValid.calls k _ _ t170 t176 _ ?side1 ?side2 A7.out).mono ?_); (case side1 => repeat (first | exact (Kd.R_reads' HO172.out).2.2 | (with_reducible refine Kd.C_alloc ?_ _) | (with_reducible refine Kd.C_drewN ?_ _) | (with_reducible refine Kd.C_drew ?_))); (case side2 => exact (Kd.R_reads' HO172.out).2.1); rintro e w' ⟨rfl, ⟨nd, rfl⟩⟩))
    go_meet
    case rel => exact ⟨_, (t176), (t175), (by first | rfl | (simp; done) | (simp [*]; done)), H', ⟨by first | omega | exact Nat.le_refl _⟩, ⟨by (with_reducible repeat (first | apply Kd.R_alloc | apply Kd.R_drewN | apply Kd.R_drew)); exact HO172.out⟩, ⟨by repeat (first | (with_reducible first | exact HI0.out | apply IsS81.alloc | apply IsS81.drewN | apply IsS81.drew | apply IsS81.set_1) | exact HI0.out)⟩, ⟨by repeat (first | (with_reducible first | exact HK.out | apply KeepBut.set_ | apply keep_drewN | apply keep_drew | apply keep_alloc) | exact HK.out)⟩, ⟨by repeat (first | (with_reducible first | exact HB.out | apply below_alloc | apply pw_below_drewN | apply below_drew1 | refine below_set ?_ (IsS81.ge HI0.out)) | exact HB.out)⟩⟩
  · rw [if_neg c6] at H
    have c6b0 : decide (0 < t174) = false := decide_eq_false c6
    clear c6
    (first | rw [c6b0] | (simp only [i64_w, i32_w]; rw [c6b0]) | skip)
    have H' := Aside0.mk H
    clear H
    go_wp2_with (first | ((with_reducible refine gate_callee (f := 68) rfl ?_); refine goesL_ (some 8) rfl rfl Try.func68 (by kernel_rfl) rfl #[.pointer (some ⟨g, 0, none⟩), .int .i64 3] rfl (by (try simp only [List.map_toArray, List.map_cons, List.map_nil]); first | done | rfl | (simp only [List.length_drop, List.length_take]; rfl)) ?_; (with_reducible refine (spec_l6Rd_pick.calls k g s0_0 t173 3 t174 t175 w0 _ ?side1 ?side2 A5.out).mono ?_); (case side1 => repeat (first | (with_reducible first | exact HI0.out | apply IsS81.alloc | apply IsS81.drewN | apply IsS81.drew | apply IsS81.set_1) | exact HI0.out)); (case side2 => repeat (first | (with_reducible first | exact HB.out | apply below_alloc | apply pw_below_drewN | apply below_drew1 | refine below_set ?_ (IsS81.ge HI0.out)) | exact HB.out)); rintro e w10 ⟨rfl, hi, hb, hk⟩; refine ⟨_, rfl, ?_⟩; have n0_ := Aside0.mk (Kd.R_mono (Kd.R_keep (IsS81.apart (show IsS81 w0 _ g s0_0 t173 from by repeat (first | (with_reducible first | exact HI0.out | apply IsS81.alloc | apply IsS81.drewN | apply IsS81.drew | apply IsS81.set_1) | exact HI0.out)) (by (with_reducible repeat (first | apply Kd.R_alloc | apply Kd.R_drewN | apply Kd.R_drew)); exact HO172.out) (by decide)) hk (fun _ h => h.2)) (fun _ h => h.1)); have n1_ := Aside0.mk (KeepBut.trans (by repeat (first | (with_reducible first | exact HK.out | apply KeepBut.set_ | apply keep_drewN | apply keep_drew | apply keep_alloc) | exact HK.out)) hk (.inl rfl)); have n2_ := Aside0.mk (hb); have n3_ := Aside0.mk (hi); clear HO172; clear HK; clear HB; clear HI0; have HO172 := n0_; have HK := n1_; have HB := n2_; have HI0 := n3_; clear n0_ n1_ n2_ n3_; (try clear hb); (try clear hb2); (try clear hk); (try clear hi)))
    go_meet
    case rel => exact ⟨_, (false), (t175), (by first | rfl | (simp; done) | (simp [*]; done)), H', ⟨by first | omega | exact Nat.le_refl _⟩, ⟨by (with_reducible repeat (first | apply Kd.R_alloc | apply Kd.R_drewN | apply Kd.R_drew)); exact HO172.out⟩, ⟨by repeat (first | (with_reducible first | exact HI0.out | apply IsS81.alloc | apply IsS81.drewN | apply IsS81.drew | apply IsS81.set_1) | exact HI0.out)⟩, ⟨by repeat (first | (with_reducible first | exact HK.out | apply KeepBut.set_ | apply keep_drewN | apply keep_drew | apply keep_alloc) | exact HK.out)⟩, ⟨by repeat (first | (with_reducible first | exact HB.out | apply below_alloc | apply pw_below_drewN | apply below_drew1 | refine below_set ?_ (IsS81.ge HI0.out)) | exact HB.out)⟩⟩
 case rest =>
  clear HC3
  try clear p2
  try clear c5
  try clear c6
  try clear c6b0
  obtain ⟨kq, x13_2, x1001_2, rfl, HA, HJ2, HO_4, HI0, HK, HB⟩ := hcut
  cases kq with
  | zero => exact absurd HA.out (by simp [spec_l91Two.j0])
  | succ kj2 =>
   have H := HA.out
   clear HA
   simp only [spec_l91Two.j0] at H
   by_cases c11 : x13_2 = true
   · subst c11
     have H1 : ((spec_l91Same.f kj2 s0_0 x1001_2 t170).bind fun bt177 => ((spec_l91Same.f kj2 s0_0 bt177.2 bt177.1).bind fun bt181 => (some (t170, bt181.1, bt181.2)))) = some (r1, r2, r3) := by rw [if_pos rfl] at H; exact H
     clear H
     have H := H1
     clear H1
     replace H := Option.bind_eq_some_iff.mp H
     obtain ⟨⟨t177, t180⟩, A120, H⟩ := H
     replace H : ((spec_l91Same.f kj2 s0_0 t180 t177).bind fun bt181 => (some (t170, bt181.1, bt181.2))) = some (r1, r2, r3) := H
     have A12 := Aside0.mk A120
     clear A120
     replace H := Option.bind_eq_some_iff.mp H
     obtain ⟨⟨t181, t184⟩, A130, H⟩ := H
     replace H : (some (t170, t181, t184)) = some (r1, r2, r3) := H
     have A13 := Aside0.mk A130
     clear A130
     simp only [Option.some.injEq, Prod.mk.injEq] at H
     obtain ⟨rfl, rfl, rfl⟩ := H
     obtain ⟨Ao14, co14, eo14⟩ := Kd.R_slice HO_4.out
     subst eo14
     go_wp2_with (first | ((with_reducible refine gate_callee (f := 109) rfl ?_); refine goesL_ (some 18) rfl rfl Try.func109 (by kernel_rfl) rfl #[.pointer (some ⟨g, 0, none⟩), .slice Ao14 t170.length co14] rfl (by (try simp only [List.map_toArray, List.map_cons, List.map_nil]); first | done | rfl | (simp only [List.length_drop, List.length_take]; rfl)) ?_; (with_reducible refine (spec_l91Same.calls kj2 g s0_0 x1001_2 _ _ t170 t177 t180 w0 _ ?side1 ?side2 ?side3 ?side4 ?side5 A12.out).mono ?_); (case side1 => repeat (first | (with_reducible first | exact HI0.out | apply IsS81.alloc | apply IsS81.drewN | apply IsS81.drew | apply IsS81.set_1) | exact HI0.out)); (case side2 => repeat (first | (with_reducible first | exact HB.out | apply below_alloc | apply pw_below_drewN | apply below_drew1 | refine below_set ?_ (IsS81.ge HI0.out)) | exact HB.out)); (case side3 => repeat (first | exact (Kd.R_reads' HO_4.out).2.2 | (with_reducible refine Kd.C_alloc ?_ _) | (with_reducible refine Kd.C_drewN ?_ _) | (with_reducible refine Kd.C_drew ?_))); (case side4 => exact (Kd.R_reads' HO_4.out).2.1); (case side5 => exact far_slice (IsS81.own_ne HI0.out HO_4.out (by decide))); rintro e w15 ⟨v178, rfl, ho0, hi, hb, hk⟩; refine ⟨_, rfl, ?_⟩; have n0_ := Aside0.mk (Kd.R_mono (Kd.R_told (Kd.R_oldK (IsS81.apart (show IsS81 w0 _ g s0_0 x1001_2 from by repeat (first | (with_reducible first | exact HI0.out | apply IsS81.alloc | apply IsS81.drewN | apply IsS81.drew | apply IsS81.set_1) | exact HI0.out)) (by (with_reducible repeat (first | apply Kd.R_alloc | apply Kd.R_drewN | apply Kd.R_drew)); exact HO_4.out) (by decide)) hk) (Kd.R_base ho0)) (fun _ h_ => h_.1)); have n1_ := Aside0.mk (Kd.R_lower (Kd.R_new' ho0 (Kd.R_lt (by (with_reducible repeat (first | apply Kd.R_alloc | apply Kd.R_drewN | apply Kd.R_drew)); exact HO_4.out))) (keep_size (w := w) (g := g) (row := none) (by repeat (first | (with_reducible first | exact HK.out | apply KeepBut.set_ | apply keep_drewN | apply keep_drew | apply keep_alloc) | exact HK.out)))); have n2_ := Aside0.mk (KeepBut.trans (by repeat (first | (with_reducible first | exact HK.out | apply KeepBut.set_ | apply keep_drewN | apply keep_drew | apply keep_alloc) | exact HK.out)) hk (.inl rfl)); have n3_ := Aside0.mk (hb); have n4_ := Aside0.mk (hi); clear HO_4; clear HK; clear HB; clear HI0; have HO_4 := n0_; have HO179 := n1_; have HK := n2_; have HB := n3_; have HI0 := n4_; clear n0_ n1_ n2_ n3_ n4_; (try clear hb); (try clear hb2); (try clear hk); (try clear hi); (try clear ho0); obtain ⟨Ao16, co16, eo16⟩ := Kd.R_slice HO179.out; subst eo16) | ((with_reducible refine gate_callee (f := 109) rfl ?_); refine goesL_ (some 19) rfl rfl Try.func109 (by kernel_rfl) rfl #[.pointer (some ⟨g, 0, none⟩), .slice Ao16 t177.length co16] rfl (by (try simp only [List.map_toArray, List.map_cons, List.map_nil]); first | done | rfl | (simp only [List.length_drop, List.length_take]; rfl)) ?_; (with_reducible refine (spec_l91Same.calls kj2 g s0_0 t180 _ _ t177 t181 t184 w0 _ ?side1 ?side2 ?side3 ?side4 ?side5 A13.out).mono ?_); (case side1 => repeat (first | (with_reducible first | exact HI0.out | apply IsS81.alloc | apply IsS81.drewN | apply IsS81.drew | apply IsS81.set_1) | exact HI0.out)); (case side2 => repeat (first | (with_reducible first | exact HB.out | apply below_alloc | apply pw_below_drewN | apply below_drew1 | refine below_set ?_ (IsS81.ge HI0.out)) | exact HB.out)); (case side3 => repeat (first | exact (Kd.R_reads' HO179.out).2.2 | (with_reducible refine Kd.C_alloc ?_ _) | (with_reducible refine Kd.C_drewN ?_ _) | (with_reducible refine Kd.C_drew ?_))); (case side4 => exact (Kd.R_reads' HO179.out).2.1); (case side5 => exact far_slice (IsS81.own_ne HI0.out HO179.out (by decide))); rintro e w17 ⟨v182, rfl, ho0, hi, hb, hk⟩; refine ⟨_, rfl, ?_⟩; have n0_ := Aside0.mk (Kd.R_mono (Kd.R_told (Kd.R_oldK (IsS81.apart (show IsS81 w0 _ g s0_0 t180 from by repeat (first | (with_reducible first | exact HI0.out | apply IsS81.alloc | apply IsS81.drewN | apply IsS81.drew | apply IsS81.set_1) | exact HI0.out)) (by (with_reducible repeat (first | apply Kd.R_alloc | apply Kd.R_drewN | apply Kd.R_drew)); exact HO_4.out) (by decide)) hk) (Kd.R_base ho0)) (fun _ h_ => h_.1)); have n1_ := Aside0.mk (Kd.R_mono (Kd.R_told (Kd.R_oldK (IsS81.apart (show IsS81 w0 _ g s0_0 t180 from by repeat (first | (with_reducible first | exact HI0.out | apply IsS81.alloc | apply IsS81.drewN | apply IsS81.drew | apply IsS81.set_1) | exact HI0.out)) (by (with_reducible repeat (first | apply Kd.R_alloc | apply Kd.R_drewN | apply Kd.R_drew)); exact HO179.out) (by decide)) hk) (Kd.R_base ho0)) (fun _ h_ => h_.1)); have n2_ := Aside0.mk (Kd.R_lower (Kd.R_new' (Kd.R_new' ho0 (Kd.R_lt (by (with_reducible repeat (first | apply Kd.R_alloc | apply Kd.R_drewN | apply Kd.R_drew)); exact HO_4.out))) (Kd.R_lt (by (with_reducible repeat (first | apply Kd.R_alloc | apply Kd.R_drewN | apply Kd.R_drew)); exact HO179.out))) (keep_size (w := w) (g := g) (row := none) (by repeat (first | (with_reducible first | exact HK.out | apply KeepBut.set_ | apply keep_drewN | apply keep_drew | apply keep_alloc) | exact HK.out)))); have n3_ := Aside0.mk (KeepBut.trans (by repeat (first | (with_reducible first | exact HK.out | apply KeepBut.set_ | apply keep_drewN | apply keep_drew | apply keep_alloc) | exact HK.out)) hk (.inl rfl)); have n4_ := Aside0.mk (hb); have n5_ := Aside0.mk (hi); clear HO_4; clear HO179; clear HK; clear HB; clear HI0; have HO_4 := n0_; have HO179 := n1_; have HO183 := n2_; have HK := n3_; have HB := n4_; have HI0 := n5_; clear n0_ n1_ n2_ n3_ n4_ n5_; (try clear hb); (try clear hb2); (try clear hk); (try clear hi); (try clear ho0)))
     go_ret2
     exact ⟨_, _, by first | rfl | (simp [errW_none, errW_some] <;> rfl) | (simp [*, errW_none, errW_some] <;> rfl), by (with_reducible repeat (first | apply Kd.R_alloc | apply Kd.R_drewN | apply Kd.R_drew)); exact Kd.R_mono HO_4.out (fun _ hk => hk.2), by (with_reducible repeat (first | apply Kd.R_alloc | apply Kd.R_drewN | apply Kd.R_drew)); exact Kd.R_mono HO183.out (fun _ hk => hk.1.2), by repeat (first | (with_reducible first | exact HI0.out | apply IsS81.alloc | apply IsS81.drewN | apply IsS81.drew | apply IsS81.set_1) | exact HI0.out), by repeat (first | (with_reducible first | exact HB.out | apply below_alloc | apply pw_below_drewN | apply below_drew1 | refine below_set ?_ (IsS81.ge HI0.out)) | exact HB.out), by repeat (first | (with_reducible first | exact HK.out | apply KeepBut.set_ | apply keep_drewN | apply keep_drew | apply keep_alloc) | exact HK.out)⟩
   · replace c11 := Bool.eq_false_iff.mpr c11
     subst c11
     have H1 : ((spec_l91Form.f kj2 s0_0 x1001_2 4).bind fun bt185 => (some (t170, bt185.1, bt185.2))) = some (r1, r2, r3) := by rw [if_neg (show ¬ (false = true) by decide)] at H; exact H
     clear H
     have H := H1
     clear H1
     replace H := Option.bind_eq_some_iff.mp H
     obtain ⟨⟨t185, t188⟩, A180, H⟩ := H
     replace H : (some (t170, t185, t188)) = some (r1, r2, r3) := H
     have A18 := Aside0.mk A180
     clear A180
     simp only [Option.some.injEq, Prod.mk.injEq] at H
     obtain ⟨rfl, rfl, rfl⟩ := H
     go_wp2_with (first | ((with_reducible refine gate_callee (f := 69) rfl ?_); refine goesL_ (some 22) rfl rfl Try.func69 (by kernel_rfl) rfl #[.pointer (some ⟨g, 0, none⟩), .int .i64 4] rfl (by (try simp only [List.map_toArray, List.map_cons, List.map_nil]); first | done | rfl | (simp only [List.length_drop, List.length_take]; rfl)) ?_; (with_reducible refine (spec_l91Form.calls kj2 g s0_0 x1001_2 4 t185 t188 w0 _ ?side1 ?side2 A18.out).mono ?_); (case side1 => repeat (first | (with_reducible first | exact HI0.out | apply IsS81.alloc | apply IsS81.drewN | apply IsS81.drew | apply IsS81.set_1) | exact HI0.out)); (case side2 => repeat (first | (with_reducible first | exact HB.out | apply below_alloc | apply pw_below_drewN | apply below_drew1 | refine below_set ?_ (IsS81.ge HI0.out)) | exact HB.out)); rintro e w19 ⟨v186, rfl, ho0, hi, hb, hk⟩; refine ⟨_, rfl, ?_⟩; have n0_ := Aside0.mk (Kd.R_mono (Kd.R_told (Kd.R_oldK (IsS81.apart (show IsS81 w0 _ g s0_0 x1001_2 from by repeat (first | (with_reducible first | exact HI0.out | apply IsS81.alloc | apply IsS81.drewN | apply IsS81.drew | apply IsS81.set_1) | exact HI0.out)) (by (with_reducible repeat (first | apply Kd.R_alloc | apply Kd.R_drewN | apply Kd.R_drew)); exact HO_4.out) (by decide)) hk) (Kd.R_base ho0)) (fun _ h_ => h_.1)); have n1_ := Aside0.mk (Kd.R_lower (Kd.R_new' ho0 (Kd.R_lt (by (with_reducible repeat (first | apply Kd.R_alloc | apply Kd.R_drewN | apply Kd.R_drew)); exact HO_4.out))) (keep_size (w := w) (g := g) (row := none) (by repeat (first | (with_reducible first | exact HK.out | apply KeepBut.set_ | apply keep_drewN | apply keep_drew | apply keep_alloc) | exact HK.out)))); have n2_ := Aside0.mk (KeepBut.trans (by repeat (first | (with_reducible first | exact HK.out | apply KeepBut.set_ | apply keep_drewN | apply keep_drew | apply keep_alloc) | exact HK.out)) hk (.inl rfl)); have n3_ := Aside0.mk (hb); have n4_ := Aside0.mk (hi); clear HO_4; clear HK; clear HB; clear HI0; have HO_4 := n0_; have HO187 := n1_; have HK := n2_; have HB := n3_; have HI0 := n4_; clear n0_ n1_ n2_ n3_ n4_; (try clear hb); (try clear hb2); (try clear hk); (try clear hi); (try clear ho0)))
     go_ret2
     exact ⟨_, _, by first | rfl | (simp [errW_none, errW_some] <;> rfl) | (simp [*, errW_none, errW_some] <;> rfl), by (with_reducible repeat (first | apply Kd.R_alloc | apply Kd.R_drewN | apply Kd.R_drew)); exact Kd.R_mono HO_4.out (fun _ hk => hk.2), by (with_reducible repeat (first | apply Kd.R_alloc | apply Kd.R_drewN | apply Kd.R_drew)); exact Kd.R_mono HO187.out (fun _ hk => hk.2), by repeat (first | (with_reducible first | exact HI0.out | apply IsS81.alloc | apply IsS81.drewN | apply IsS81.drew | apply IsS81.set_1) | exact HI0.out), by repeat (first | (with_reducible first | exact HB.out | apply below_alloc | apply pw_below_drewN | apply below_drew1 | refine below_set ?_ (IsS81.ge HI0.out)) | exact HB.out), by repeat (first | (with_reducible first | exact HK.out | apply KeepBut.set_ | apply keep_drewN | apply keep_drew | apply keep_alloc) | exact HK.out)⟩

/-! ### spec_l6Open: function 56 -/
def spec_l6Open.f (l0 : List Int) : Option (List Int × Int) := if (l0.length : Int) > 2000 then (if 2000 ≤ (l0.length : Int) then (some (l0.take 2000, 0)) else (none)) else (some (l0, 0))
set_option maxHeartbeats 8000000 in
set_option maxRecDepth 100000 in
theorem spec_l6Open.calls (A0 : Option Addr) (c0 : Nat) (l0 : List Int) (r1 : List Int) (r2 : Int) (w0 w : World) (hB : Below w0.heap.size w0 w) (hr0 : Kd.C (Kd.int .u8) w0 A0 l0.length l0) (hc0 : l0.length ≤ c0) (h : spec_l6Open.f l0 = some (r1, r2)) :
 Calls Try.prog 56 #[.slice A0 l0.length c0] w fun e w' => ∃ g_ : Nat, e = .returned (.pointer (some ⟨g_, 0, none⟩)) ∧ IsS81 w0 w' g_ r1 r2 ∧ Below w0.heap.size w0 w' ∧ Below w.heap.size w w' := by
 have hu81 := Try.underlying81
 have HR0 := Aside0.mk hr0
 have HC0 := Aside0.mk hc0
 clear hr0 hc0
 have HBW := Aside0.mk (Below.refl w.heap.size w)
 have HW0 := Aside0.mk hB.size
 have HB := Aside0.mk hB
 clear hB
 have H : (if (l0.length : Int) > 2000 then (if 2000 ≤ (l0.length : Int) then (some (l0.take 2000, 0)) else (none)) else (some (l0, 0))) = some (r1, r2) := h
 clear h
 by_cases c2 : (l0.length : Int) > 2000
 · rw [if_pos c2] at H
   have c2b0 : decide (2000 < (l0.length : Int)) = true := decide_eq_true c2
   have c2b1 : decide (2000 < l0.length) = true := decide_eq_true (by omega)
   clear c2
   by_cases c3 : 2000 ≤ (l0.length : Int)
   · rw [if_pos c3] at H
     have c3b0 := eq_true c3
     have c3b1 : decide (2000 ≤ (l0.length : Int)) = true := decide_eq_true c3
     clear c3
     simp only [Option.some.injEq, Prod.mk.injEq] at H
     obtain ⟨rfl, rfl⟩ := H
     obtain ⟨i04, hi04, _, hsz4, _⟩ := info_parts info5
     obtain ⟨hcut4, hA4, hC4⟩ := print_take_of (P := Try.prog) (Value.int .u8) 0 22 5 .i64 Try.underlying22 hi04 hsz4 A0 c0 l0 2000 (by omega) (of_decide_eq_true (by first | (with_reducible assumption) | assumption)) HC0.out
     have HR189 := Aside0.mk (Kd.C_of_reads (h1 := fun _ => rfl) (hA4 _ (Kd.reads_of_C HR0.out)))
     have HC189 := Aside0.mk hC4
     clear hA4 hC4 hi04 hsz4
     go_enter Try.func56, Try.ntmps56
     go_wp2_with (first | ((with_reducible refine gate_dst (N := 10) rfl ?_); refine box_event ?hg (N := 10) ?hd (cs := #[.slice A0 (l0.take 2000).length c0, .int .i64 0]) (t := 81) ?hr ?_; (case hd => rfl); (case hg => rfl); (case hr => first | (go_simp; done) | (go_simp; rfl)); intro gb190 hg w5 hbox hb; have n0_ := Aside0.mk (below_step HBW.out hb); have n1_ := Aside0.mk (below_step (by repeat (first | (with_reducible first | exact HB.out | apply below_alloc | apply pw_below_drewN | apply below_drew1) | exact HB.out)) hb); have n2_ := Aside0.mk (hbox); have n3_ := Aside0.mk ((by rw [hg]; exact (below_size (by repeat (first | (with_reducible first | exact HBW.out | apply below_alloc | apply pw_below_drewN | apply below_drew1) | exact HBW.out))) : w.heap.size ≤ gb190)); have n4_ := Aside0.mk ((Nat.le_trans HW0.out (by rw [hg]; exact (below_size (by repeat (first | (with_reducible first | exact HBW.out | apply below_alloc | apply pw_below_drewN | apply below_drew1) | exact HBW.out))) : w.heap.size ≤ gb190) : w0.heap.size ≤ gb190)); clear HBW; clear HB; have HBW := n0_; have HB := n1_; have BK190 := n2_; have GW190 := n3_; have GE190 := n4_; clear n0_ n1_ n2_ n3_ n4_; clear hb hbox hg))
     go_ret
     exact ⟨_, rfl, (show IsS81 w0 _ gb190 (l0.take 2000) 0 from ⟨_, _, by (with_reducible repeat (first | refine blk_drewN ?_ _ | refine blk_drew ?_ | refine blk_alloc ?_ _)); exact BK190.out, GE190.out, HR189.out⟩), by repeat (first | (with_reducible first | exact HB.out | apply below_alloc | apply pw_below_drewN | apply below_drew1 | refine below_set ?_ GE190.out) | exact HB.out), by repeat (first | (with_reducible first | exact HBW.out | apply below_alloc | apply pw_below_drewN | apply below_drew1 | refine below_set ?_ GW190.out) | exact HBW.out)⟩
   · rw [if_neg c3] at H
     exact absurd H (by simp)
 · rw [if_neg c2] at H
   have c2b0 : decide (2000 < (l0.length : Int)) = false := decide_eq_false c2
   have c2b1 : decide (2000 < l0.length) = false := decide_eq_false (by omega)
   clear c2
   simp only [Option.some.injEq, Prod.mk.injEq] at H
   obtain ⟨rfl, rfl⟩ := H
   go_enter Try.func56, Try.ntmps56
   go_wp2_with (first | ((with_reducible refine gate_dst (N := 10) rfl ?_); refine box_event ?hg (N := 10) ?hd (cs := #[.slice A0 l0.length c0, .int .i64 0]) (t := 81) ?hr ?_; (case hd => rfl); (case hg => rfl); (case hr => first | (go_simp; done) | (go_simp; rfl)); intro gb191 hg w6 hbox hb; have n0_ := Aside0.mk (below_step HBW.out hb); have n1_ := Aside0.mk (below_step (by repeat (first | (with_reducible first | exact HB.out | apply below_alloc | apply pw_below_drewN | apply below_drew1) | exact HB.out)) hb); have n2_ := Aside0.mk (hbox); have n3_ := Aside0.mk ((by rw [hg]; exact (below_size (by repeat (first | (with_reducible first | exact HBW.out | apply below_alloc | apply pw_below_drewN | apply below_drew1) | exact HBW.out))) : w.heap.size ≤ gb191)); have n4_ := Aside0.mk ((Nat.le_trans HW0.out (by rw [hg]; exact (below_size (by repeat (first | (with_reducible first | exact HBW.out | apply below_alloc | apply pw_below_drewN | apply below_drew1) | exact HBW.out))) : w.heap.size ≤ gb191) : w0.heap.size ≤ gb191)); clear HBW; clear HB; have HBW := n0_; have HB := n1_; have BK191 := n2_; have GW191 := n3_; have GE191 := n4_; clear n0_ n1_ n2_ n3_ n4_; clear hb hbox hg))
   go_ret
   exact ⟨_, rfl, (show IsS81 w0 _ gb191 l0 0 from ⟨_, _, by (with_reducible repeat (first | refine blk_drewN ?_ _ | refine blk_drew ?_ | refine blk_alloc ?_ _)); exact BK191.out, GE191.out, HR0.out⟩), by repeat (first | (with_reducible first | exact HB.out | apply below_alloc | apply pw_below_drewN | apply below_drew1 | refine below_set ?_ GE191.out) | exact HB.out), by repeat (first | (with_reducible first | exact HBW.out | apply below_alloc | apply pw_below_drewN | apply below_drew1 | refine below_set ?_ GW191.out) | exact HBW.out)⟩

/-! ### spec_DrawFormSame: function 13 -/
def spec_DrawFormSame.f (k : Nat) (l0 : List Int) : Option (List Int × List Int) := (spec_l6Open.f l0).bind fun bt192 => ((spec_l91Two.f k bt192.1 bt192.2).bind fun bt195 => (some (bt195.1, bt195.2.1)))
theorem spec_DrawFormSame.mono : ∀ a0 k, LeO (spec_DrawFormSame.f k a0) (spec_DrawFormSame.f (k + 1) a0) := by
 intro a0 k
 unfold spec_DrawFormSame.f
 repeat' first
  | (with_reducible exact spec_l91Two.mono _ _ _)
  | (with_reducible exact LeO.refl _)
  | (with_reducible exact LeO.none _)
  | (with_reducible refine LeO.ite ?_ ?_)
  | (with_reducible refine LeO.bind ?_ (fun _ => ?_))
  | exact spec_l91Two.mono _ _ _
  | exact LeO.none _
  | refine LeO.ite ?_ ?_
  | refine LeO.bind ?_ (fun _ => ?_)
set_option maxHeartbeats 8000000 in
set_option maxRecDepth 100000 in
theorem spec_DrawFormSame.calls (k : Nat) (A0 : Option Addr) (c0 : Nat) (l0 : List Int) (r1 : List Int) (r2 : List Int) (w : World) (hr0 : Kd.C (Kd.int .u8) w A0 l0.length l0) (hc0 : l0.length ≤ c0) (h : spec_DrawFormSame.f k l0 = some (r1, r2)) :
 Calls Try.prog 13 #[.slice A0 l0.length c0] w fun e w' => ∃ v0_ v1_ : Value, e = .returned (.tuple #[v0_, v1_]) ∧ Kd.R (Kd.int .i64) 3 w' w.heap.size (fun k_ => some k_ ≠ (v1_ : Value).ownBlock) v0_ r1 ∧ Kd.R (Kd.int .i64) 3 w' w.heap.size (fun k_ => some k_ ≠ (v0_ : Value).ownBlock) v1_ r2 ∧ Below w.heap.size w w' := by
 have HR0 := Aside0.mk hr0
 have HC0 := Aside0.mk hc0
 clear hr0 hc0
 have HB := Aside0.mk (Below.refl w.heap.size w)
 have H : ((spec_l6Open.f l0).bind fun bt192 => ((spec_l91Two.f k bt192.1 bt192.2).bind fun bt195 => (some (bt195.1, bt195.2.1)))) = some (r1, r2) := h
 clear h
 replace H := Option.bind_eq_some_iff.mp H
 obtain ⟨⟨t192, t193⟩, A20, H⟩ := H
 replace H : ((spec_l91Two.f k t192 t193).bind fun bt195 => (some (bt195.1, bt195.2.1))) = some (r1, r2) := H
 have A2 := Aside0.mk A20
 clear A20
 replace H := Option.bind_eq_some_iff.mp H
 obtain ⟨⟨t195, t198, t201⟩, A30, H⟩ := H
 replace H : (some (t195, t198)) = some (r1, r2) := H
 have A3 := Aside0.mk A30
 clear A30
 simp only [Option.some.injEq, Prod.mk.injEq] at H
 obtain ⟨rfl, rfl⟩ := H
 go_enter Try.func13, Try.ntmps13
 go_wp2_with (first | ((with_reducible refine gate_callee (f := 56) rfl ?_); refine goesL_ (some 5) rfl rfl Try.func56 (by kernel_rfl) rfl #[.slice A0 l0.length c0] rfl (by (try simp only [List.map_toArray, List.map_cons, List.map_nil]); first | done | rfl | (simp only [List.length_drop, List.length_take]; rfl)) ?_; (with_reducible refine (spec_l6Open.calls _ _ l0 t192 t193 w _ ?side1 ?side2 ?side3 A2.out).mono ?_); (case side1 => repeat (first | (with_reducible first | exact HB.out | apply below_alloc | apply pw_below_drewN | apply below_drew1) | exact HB.out)); (case side2 => exact HR0.out); (case side3 => exact HC0.out); rintro e w4 ⟨g194, rfl, hi, hb, hb2⟩; refine ⟨_, rfl, ?_⟩; have n0_ := Aside0.mk (hb); have n1_ := Aside0.mk (hi); clear HB; have HB := n0_; have HI194 := n1_; clear n0_ n1_; (try clear hb); (try clear hb2); (try clear hk); (try clear hi)) | ((with_reducible refine gate_callee (f := 55) rfl ?_); refine goesL_ (some 6) rfl rfl Try.func55 (by kernel_rfl) rfl #[.pointer (some ⟨g194, 0, none⟩)] rfl (by (try simp only [List.map_toArray, List.map_cons, List.map_nil]); first | done | rfl | (simp only [List.length_drop, List.length_take]; rfl)) ?_; (with_reducible refine (spec_l91Two.calls k g194 t192 t193 t195 t198 t201 w _ ?side1 ?side2 A3.out).mono ?_); (case side1 => repeat (first | (with_reducible first | exact HI194.out | apply IsS81.alloc | apply IsS81.drewN | apply IsS81.drew | apply IsS81.set_1) | exact HI194.out)); (case side2 => repeat (first | (with_reducible first | exact HB.out | apply below_alloc | apply pw_below_drewN | apply below_drew1 | refine below_set ?_ (IsS81.ge HI194.out)) | exact HB.out)); rintro e w5 ⟨v196, v199, rfl, ho0, ho1, hi, hb, hk⟩; refine ⟨_, rfl, ?_⟩; have n0_ := Aside0.mk (Kd.R_lower ho0 (below_size (by repeat (first | (with_reducible first | exact HB.out | apply below_alloc | apply pw_below_drewN | apply below_drew1 | refine below_set ?_ (IsS81.ge HI194.out)) | exact HB.out)))); have n1_ := Aside0.mk (Kd.R_lower ho1 (below_size (by repeat (first | (with_reducible first | exact HB.out | apply below_alloc | apply pw_below_drewN | apply below_drew1 | refine below_set ?_ (IsS81.ge HI194.out)) | exact HB.out)))); have n2_ := Aside0.mk (hb); have n3_ := Aside0.mk (hi); clear HB; clear HI194; have HO197 := n0_; have HO200 := n1_; have HB := n2_; have HI194 := n3_; clear n0_ n1_ n2_ n3_; (try clear hb); (try clear hb2); (try clear hk); (try clear hi); (try clear ho0); (try clear ho1)))
 go_ret2
 exact ⟨_, _, by first | rfl | (simp [errW_none, errW_some] <;> rfl) | (simp [*, errW_none, errW_some] <;> rfl), by (with_reducible repeat (first | apply Kd.R_alloc | apply Kd.R_drewN | apply Kd.R_drew)); exact HO197.out, by (with_reducible repeat (first | apply Kd.R_alloc | apply Kd.R_drewN | apply Kd.R_drew)); exact HO200.out, by repeat (first | (with_reducible first | exact HB.out | apply below_alloc | apply pw_below_drewN | apply below_drew1 | refine below_set ?_ (IsS81.ge HI194.out)) | exact HB.out)⟩

/-! ### impl_size: function 75 -/
def impl_size.f (a0 : Int) : Option (Int) := some (mx a0 (wrap64 (-a0)))
set_option maxHeartbeats 8000000 in
set_option maxRecDepth 100000 in
theorem impl_size.calls (a0 : Int) (r : Int) (w : World) (h : impl_size.f a0 = some r) :
 Calls Try.prog 75 #[.int .i64 a0] w fun e w' => e = .returned (.int .i64 r) ∧ Below w.heap.size w w' := by
 have HB := Aside0.mk (Below.refl w.heap.size w)
 have H : (some (mx a0 (wrap64 (-a0)))) = some r := h
 clear h
 obtain ⟨ji2, hji2⟩ : ∃ j_ : Int, (mx a0 (wrap64 (-a0))) = j_ := ⟨_, rfl⟩
 replace H : (some ji2) = some r := by first | (rw [hji2] at H; exact H) | (simp only [hji2] at H ⊢; exact H)
 have hji2_ : (if a0 < (wrap64 (-a0)) then (wrap64 (-a0)) else a0) = ji2 := hji2
 obtain rfl := Option.some.inj H
 go_enter Try.func75, Try.ntmps75
 go_wp2
 go_ret
 exact ⟨by first | rfl | (simp [errW_none, errW_some] <;> rfl) | (simp only [← hji2]; first | rfl | (simp [errW_none, errW_some] <;> rfl)) | (simp [*, errW_none, errW_some] <;> rfl), by repeat (first | (with_reducible first | exact HB.out | apply below_alloc | apply pw_below_drewN | apply below_drew1) | exact HB.out)⟩

/-! ### impl_FormValid: function 57 -/
def impl_FormValid.l0 : Nat → List Int → List Int → Int → Int → Option (Bool)
 | 0, _, _, _, _ => none
 | k + 1, x0, x5, x6, x7 => if x7 < x6 then (if 0 ≤ x7 then (if x7 < (x5.length : Int) then (if (rd x5 x7) = 0 then (some false) else ((impl_size.f (rd x5 x7)).bind fun t203 => (if t203 > 30 then (some false) else (impl_FormValid.l0 k x0 x5 x6 (wrap64 (x7 + 1)))))) else (none)) else (none)) else (if (x0.length : Int) ≥ 1 then (some (decide ((x0.length : Int) ≤ 4))) else (some false))
def impl_FormValid.f (k : Nat) (l0 : List Int) : Option (Bool) := impl_FormValid.l0 k l0 l0 (l0.length : Int) 0
theorem impl_FormValid.mono_l : ∀ k, (∀ y0 y1 y2 y3, LeO (impl_FormValid.l0 k y0 y1 y2 y3) (impl_FormValid.l0 (k + 1) y0 y1 y2 y3))
 | 0 => fun _ _ _ _ r h => by simp [impl_FormValid.l0] at h
 | k + 1 => by
  have ih0 := impl_FormValid.mono_l k
  · intro y0 y1 y2 y3
    unfold impl_FormValid.l0
    repeat' first
    | (with_reducible exact ih0 _ _ _ _)
    | (with_reducible exact LeO.refl _)
    | (with_reducible exact LeO.none _)
    | (with_reducible refine LeO.ite ?_ ?_)
    | (with_reducible refine LeO.bind ?_ (fun _ => ?_))
    | exact ih0 _ _ _ _
    | exact LeO.none _
    | refine LeO.ite ?_ ?_
    | refine LeO.bind ?_ (fun _ => ?_)
theorem impl_FormValid.mono : ∀ a0 k, LeO (impl_FormValid.f k a0) (impl_FormValid.f (k + 1) a0) := by
 intro a0 k
 have ih0 := impl_FormValid.mono_l k
 unfold impl_FormValid.f
 repeat' first
  | (with_reducible exact ih0 _ _ _ _)
  | (with_reducible exact LeO.refl _)
  | (with_reducible exact LeO.none _)
  | (with_reducible refine LeO.ite ?_ ?_)
  | (with_reducible refine LeO.bind ?_ (fun _ => ?_))
  | exact ih0 _ _ _ _
  | exact LeO.none _
  | refine LeO.ite ?_ ?_
  | refine LeO.bind ?_ (fun _ => ?_)
set_option maxHeartbeats 8000000 in
set_option maxRecDepth 100000 in
theorem impl_FormValid.calls (k : Nat) (A0 : Option Addr) (c0 : Nat) (l0 : List Int) (r : Bool) (w : World) (hr0 : Kd.C (Kd.int .i64) w A0 l0.length l0) (hc0 : l0.length ≤ c0) (h : impl_FormValid.f k l0 = some r) :
 Calls Try.prog 57 #[.slice A0 l0.length c0] w fun e w' => e = .returned (.bool r) ∧ Below w.heap.size w w' := by
 have HR0 := Aside0.mk hr0
 have HC0 := Aside0.mk hc0
 clear hr0 hc0
 have HB := Aside0.mk (Below.refl w.heap.size w)
 have H : (impl_FormValid.l0 k l0 l0 (l0.length : Int) 0) = some r := h
 clear h
 have H' := Aside0.mk H
 clear H
 go_enter Try.func57, Try.ntmps57
 go_wp2
 go_loopg [7] k (fun kq v7 w' => ∃ (x7_1 : Int), v7 = .int .i64 x7_1 ∧ Aside0 (impl_FormValid.l0 kq l0 l0 (l0.length : Int) x7_1 = some r) ∧ Aside0 (kq ≤ k) ∧ Aside0 (Below w.heap.size w w'))
 case atStart => exact ⟨(0), (by first | rfl | (simp; done) | (simp [*]; done)), H', ⟨Nat.le_refl _⟩, ⟨by repeat (first | (with_reducible first | exact HB.out | apply below_alloc | apply pw_below_drewN | apply below_drew1) | exact HB.out)⟩⟩
 case round =>
  clear H'
  obtain ⟨x7_1, rfl, HA, HK1, HB⟩ := hrel
  cases gk with
  | zero => exact absurd HA.out (by simp [impl_FormValid.l0])
  | succ k1 =>
   have H := HA.out
   clear HA
   simp only [impl_FormValid.l0] at H
   by_cases c2 : x7_1 < (l0.length : Int)
   · rw [if_pos c2] at H
     have c2b0 : decide (x7_1 < (l0.length : Int)) = true := decide_eq_true c2
     clear c2
     by_cases c3 : 0 ≤ x7_1
     · rw [if_pos c3] at H
       have c3b0 : decide (0 ≤ x7_1) = true := decide_eq_true c3
       clear c3
       by_cases c4 : x7_1 < (l0.length : Int)
       · rw [if_pos c4] at H
         have c4b0 : decide (x7_1 < (l0.length : Int)) = true := decide_eq_true c4
         clear c4
         by_cases c5 : (rd l0 x7_1) = 0
         · rw [if_pos c5] at H
           have c5b0 : ((rd l0 x7_1) == 0) = true := beq_iff_eq.mpr c5
           have c5b1 : ((rd l0 x7_1) != 0) = false := bne_eq_false_iff_eq.mpr c5
           clear c5
           obtain rfl := Option.some.inj H
           have p202 : 0 ≤ (x7_1 : Int) := of_decide_eq_true (by first | (with_reducible assumption) | assumption)
           have q202 : x7_1 < (l0.length : Int) := of_decide_eq_true (by first | (with_reducible assumption) | assumption)
           obtain ⟨ad202, e202, hx202_0⟩ := Kd.at_int HR0.out x7_1 p202 q202
           cases e202
           replace hx202_0 := (HB.out.cell (World.block_lt_of_cell? w _ hx202_0)).trans hx202_0
           replace p202 := eq_true p202
           replace q202 := eq_true q202
           go_wp2
           go_ret
           exact ⟨by first | rfl | (simp [errW_none, errW_some] <;> rfl) | (simp [*, errW_none, errW_some] <;> rfl), by repeat (first | (with_reducible first | exact HB.out | apply below_alloc | apply pw_below_drewN | apply below_drew1) | exact HB.out)⟩
         · rw [if_neg c5] at H
           have c5b0 : ((rd l0 x7_1) == 0) = false := beq_eq_false_iff_ne.mpr c5
           have c5b1 : ((rd l0 x7_1) != 0) = true := bne_iff_ne.mpr c5
           replace H := Option.bind_eq_some_iff.mp H
           obtain ⟨t203, A60, H⟩ := H
           replace H : (if t203 > 30 then (some false) else (impl_FormValid.l0 k1 l0 l0 (l0.length : Int) (wrap64 (x7_1 + 1)))) = some r := H
           have A6 := Aside0.mk A60
           clear A60
           by_cases c7 : t203 > 30
           · rw [if_pos c7] at H
             have c7b0 : decide (30 < t203) = true := decide_eq_true c7
             clear c7
             obtain rfl := Option.some.inj H
             have p202 : 0 ≤ (x7_1 : Int) := of_decide_eq_true (by first | (with_reducible assumption) | assumption)
             have q202 : x7_1 < (l0.length : Int) := of_decide_eq_true (by first | (with_reducible assumption) | assumption)
             obtain ⟨ad202, e202, hx202_0⟩ := Kd.at_int HR0.out x7_1 p202 q202
             cases e202
             replace hx202_0 := (HB.out.cell (World.block_lt_of_cell? w _ hx202_0)).trans hx202_0
             replace p202 := eq_true p202
             replace q202 := eq_true q202
             go_wp2_with (first | (go_at_call 75; (with_reducible refine (impl_size.calls (rd l0 x7_1) t203 _ A6.out).mono ?_); rintro e w8 ⟨rfl, hb⟩; have n0_ := Aside0.mk (below_step (by repeat (first | (with_reducible first | exact HB.out | apply below_alloc | apply pw_below_drewN | apply below_drew1) | exact HB.out)) hb); clear HB; have HB := n0_; clear n0_; (try clear hb); (try clear hb2); (try clear hk); (try clear hi)))
             go_ret
             exact ⟨by first | rfl | (simp [errW_none, errW_some] <;> rfl) | (simp [*, errW_none, errW_some] <;> rfl), by repeat (first | (with_reducible first | exact HB.out | apply below_alloc | apply pw_below_drewN | apply below_drew1) | exact HB.out)⟩
           · rw [if_neg c7] at H
             have c7b0 : decide (30 < t203) = false := decide_eq_false c7
             clear c7
             have H' := Aside0.mk H
             clear H
             have p202 : 0 ≤ (x7_1 : Int) := of_decide_eq_true (by first | (with_reducible assumption) | assumption)
             have q202 : x7_1 < (l0.length : Int) := of_decide_eq_true (by first | (with_reducible assumption) | assumption)
             obtain ⟨ad202, e202, hx202_0⟩ := Kd.at_int HR0.out x7_1 p202 q202
             cases e202
             replace hx202_0 := (HB.out.cell (World.block_lt_of_cell? w _ hx202_0)).trans hx202_0
             replace p202 := eq_true p202
             replace q202 := eq_true q202
             go_wp2_with (first | (go_at_call 75; (with_reducible refine (impl_size.calls (rd l0 x7_1) t203 _ A6.out).mono ?_); rintro e w9 ⟨rfl, hb⟩; have n0_ := Aside0.mk (below_step (by repeat (first | (with_reducible first | exact HB.out | apply below_alloc | apply pw_below_drewN | apply below_drew1) | exact HB.out)) hb); clear HB; have HB := n0_; clear n0_; (try clear hb); (try clear hb2); (try clear hk); (try clear hi)))
             go_roundg k1
             case measure => have := HK1.out; omega
             case rel => exact ⟨(wrap64 (x7_1 + 1)), (by first | rfl | (simp; done) | (simp [*]; done)), H', ⟨by have := HK1.out; omega⟩, ⟨by repeat (first | (with_reducible first | exact HB.out | apply below_alloc | apply pw_below_drewN | apply below_drew1) | exact HB.out)⟩⟩
       · rw [if_neg c4] at H
         exact absurd H (by simp)
     · rw [if_neg c3] at H
       exact absurd H (by simp)
   · rw [if_neg c2] at H
     have c2b0 : decide (x7_1 < (l0.length : Int)) = false := decide_eq_false c2
     clear c2
     by_cases c10 : (l0.length : Int) ≥ 1
     · rw [if_pos c10] at H
       have c10b0 : decide (1 ≤ (l0.length : Int)) = true := decide_eq_true c10
       have c10b1 : decide (1 ≤ l0.length) = true := decide_eq_true (by omega)
       clear c10
       obtain rfl := Option.some.inj H
       go_wp2
       go_ret
       exact ⟨by first | rfl | (simp [errW_none, errW_some] <;> rfl) | (simp [*, errW_none, errW_some] <;> rfl), by repeat (first | (with_reducible first | exact HB.out | apply below_alloc | apply pw_below_drewN | apply below_drew1) | exact HB.out)⟩
     · rw [if_neg c10] at H
       have c10b0 : decide (1 ≤ (l0.length : Int)) = false := decide_eq_false c10
       have c10b1 : decide (1 ≤ l0.length) = false := decide_eq_false (by omega)
       clear c10
       obtain rfl := Option.some.inj H
       go_wp2
       go_ret
       exact ⟨by first | rfl | (simp [errW_none, errW_some] <;> rfl) | (simp [*, errW_none, errW_some] <;> rfl), by repeat (first | (with_reducible first | exact HB.out | apply below_alloc | apply pw_below_drewN | apply below_drew1) | exact HB.out)⟩

end Go.Proofs.Ytdeahlommlgceaa.PFnCancel

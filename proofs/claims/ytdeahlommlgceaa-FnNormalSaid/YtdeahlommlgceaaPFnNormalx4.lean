-- Written by a program of this repo (wip/gen/gen.py) over the kit's print.
-- (slim)
import Derived.Test.YtdeahlommlgceaaPFnNormalx0
import Derived.Test.YtdeahlommlgceaaPFnNormalx3
namespace Go.Proofs.Ytdeahlommlgceaa.PFnNormal
open Go.RowKit Go.Proofs.YtdeahlommlgceaaW.PrintWords Go.Proofs.YtdeahlommlgceaaW.PrintLast Go.Proofs.YtdeahlommlgceaaW.PrintMore
attribute [local go_sem] max2_int min2_int max_two min_two max_three min_three max_four min_four   -- for this text's walks alone
set_option linter.unusedVariables false
set_option maxHeartbeats 8000000
set_option maxRecDepth 100000
set_option linter.unusedSimpArgs false

/-! ### impl_sharedPrime: function 72 -/
theorem swap_ {P : Program} {md : Region.Mode} {ops : Array Oper} {Q : Exit → Act → World → Prop} {S S' : World → Prop} (hS : ∀ w, S' w → S w) : ∀ (fuel : Nat) (l : Array Bool) (a : Act) (w : World), S' w → wpAnyLast P md ops Q S' [] fuel l a w → wpAnyLast P md ops Q S [] fuel l a w
 | 0, _, _, _, _, h => h
 | fuel + 1, l, a, w, hw, h => ⟨h.1, fun i hi => wpOp_mono (fun a' w' h' => ⟨fun _ _ => hS _ (h'.1 (by simp) hw), swap_ hS fuel _ a' w' (h'.1 (by simp) hw) h'.2⟩) (h.2 i hi)⟩
def impl_sharedPrime.l0 : Nat → List Int → List (S83) → Int → Int → Option (Int × Int × Int)
 | 0, _, _, _, _ => none
 | k + 1, x0, x11, x12, x13 => if x13 < x12 then (if 0 ≤ x13 then (if x13 < (x11.length : Int) then (if 0 ≤ ((rd_T83 x11 x13).f0) then (if ((rd_T83 x11 x13).f0) < (x0.length : Int) then (if 0 ≤ ((rd_T83 x11 x13).f1) then (if ((rd_T83 x11 x13).f1) < (x0.length : Int) then ((impl_gcd.f k (([rd x0 ((rd_T83 x11 x13).f0), rd x0 ((rd_T83 x11 x13).f1)] : List Int))).bind fun t211 => (if t211 > 1 then ((impl_primesOf.f k t211).bind fun t212 => (if 0 < (t212.length : Int) then (some ((rd_T83 x11 x13).f0, (rd_T83 x11 x13).f1, rd t212 0)) else (none))) else (impl_sharedPrime.l0 k x0 x11 x12 (wrap64 (x13 + 1))))) else (none)) else (none)) else (none)) else (none)) else (none)) else (none)) else (some (0, 0, 0))
def impl_sharedPrime.f (k : Nat) (l0 : List Int) : Option (Int × Int × Int) := (some (([(⟨0, 1⟩ : S83), (⟨0, 2⟩ : S83), (⟨1, 2⟩ : S83)] : List (S83)) : List (S83))).bind fun y201 => (impl_sharedPrime.l0 k l0 y201 (y201.length : Int) 0)
theorem impl_sharedPrime.mono_l : ∀ k, (∀ y0 y1 y2 y3, LeO (impl_sharedPrime.l0 k y0 y1 y2 y3) (impl_sharedPrime.l0 (k + 1) y0 y1 y2 y3))
 | 0 => fun _ _ _ _ r h => by simp [impl_sharedPrime.l0] at h
 | k + 1 => by
  have ih0 := impl_sharedPrime.mono_l k
  intro y0 y1 y2 y3
  unfold impl_sharedPrime.l0
  exact mo_
theorem impl_sharedPrime.mono : ∀ a0 k, LeO (impl_sharedPrime.f k a0) (impl_sharedPrime.f (k + 1) a0) := by
 intro a0 k
 have ih0 := impl_sharedPrime.mono_l k
 unfold impl_sharedPrime.f
 exact mo_
def impl_sharedPrime.T4 : Bool × List (List Nat × List Nat) := (true, [([], []), ([], []), ([1], [1]), ([0, 2], [0, 2]), ([3], [3]), ([], []), ([], []), ([6], [6]), ([5, 7], [5, 7]), ([8], [8]), ([4, 9], [4, 9]), ([10], [10]), ([11, 11, 0, 1, 2, 3, 4, 5, 6, 7, 8, 9, 10, 11], [11])])
def impl_sharedPrime.B4 : List Nat := [0, 0, 2, 7, 15, 0, 0, 64, 224, 480, 1023, 2047, 4095]
theorem impl_sharedPrime.tab4 : rtab .any (opsOf Try.f72 4) = impl_sharedPrime.T4 := by kernel_rfl
theorem impl_sharedPrime.bits4 : waitsOk impl_sharedPrime.T4.2 impl_sharedPrime.B4 = true := by kernel_rfl
def impl_sharedPrime.T6 : Bool × List (List Nat × List Nat) := (true, [([], []), ([0], [0]), ([], []), ([2], [2]), ([], []), ([4], [4]), ([5], [5]), ([6], [6]), ([1, 5, 0, 1], [1]), ([3, 8, 0, 1, 2, 3, 8], [3]), ([7, 9, 0, 1, 2, 3, 4, 5, 6, 7, 8, 9], [7])])
def impl_sharedPrime.B6 : List Nat := [0, 1, 0, 4, 0, 16, 48, 112, 51, 319, 1023]
theorem impl_sharedPrime.tab6 : rtab .any (opsOf Try.f72 6) = impl_sharedPrime.T6 := by kernel_rfl
theorem impl_sharedPrime.bits6 : waitsOk impl_sharedPrime.T6.2 impl_sharedPrime.B6 = true := by kernel_rfl
theorem impl_sharedPrime.calls (k : Nat) (A0 : Option Addr) (c0 : Nat) (l0 : List Int) (r1 : Int) (r2 : Int) (r3 : Int) (w : World) (hr0 : Kd.C (Kd.int .i64) w A0 l0.length l0) (hc0 : l0.length ≤ c0) (h : impl_sharedPrime.f k l0 = some (r1, r2, r3)) :
 Calls Try.prog 72 #[.slice A0 l0.length c0] w fun e w' => e = .returned (.tuple #[.int .i64 r1, .int .i64 r2, .int .i64 r3]) ∧ Below w.heap.size w w' := by
 have hu83 := Try.underlying83
 have HR0 := Aside0.mk hr0
 have HC0 := Aside0.mk hc0
 clear hr0 hc0
 have HB := Aside0.mk (Below.refl w.heap.size w)
 have H := h
 clear h
 unfold impl_sharedPrime.f at H
 obtain ⟨y201, Ny201, H⟩ := by_ H
 have H' := Aside0.mk H
 clear H
 go_enter Try.func72, Try.ntmps72
 go_wp2_with (first | ((with_reducible refine gate_dst (N := 11) rfl ?_); refine Kd.R_lit k83 _ 83 ?hg (N := 11) ?hd (xs := ([(⟨0, 1⟩ : S83), (⟨0, 2⟩ : S83), (⟨1, 2⟩ : S83)] : List (S83))) (inner := [.int .i64 0, .int .i64 1, .int .i64 0, .int .i64 2, .int .i64 1, .int .i64 2]) (ok := fun _ => True) (okp := fun _ => True) ?hr ?hp (fun _ hk => hk) trivial (Below.refl _ _) (Nat.le_refl _) (by simp) ?_; (case hd => rfl); (case hg => rfl); (case hr => first | (go_simp; done) | (go_simp; rfl)); (case hp => exact (Reps.c2 (show Kd.M k83 _ _ _ (⟨0, 1⟩ : S83) [.int .i64 0, .int .i64 1] from (k83_mkM _ _ _ (⟨0, 1⟩ : S83) )) (Reps.c2 (show Kd.M k83 _ _ _ (⟨0, 2⟩ : S83) [.int .i64 0, .int .i64 2] from (k83_mkM _ _ _ (⟨0, 2⟩ : S83) )) (Reps.c2 (show Kd.M k83 _ _ _ (⟨1, 2⟩ : S83) [.int .i64 1, .int .i64 2] from (k83_mkM _ _ _ (⟨1, 2⟩ : S83) )) (Reps.none _ _))))); intro v202 w2 ho3 hb hg_ hnew_; clear hg_ hnew_; (first | rw [← Ny201.out] at ho3 | (simp only [Int.reduceToNat] at ho3; rw [← Ny201.out] at ho3)); have HO203:= Aside0.mk (Kd.R_lower ho3 (below_size z16_)); replace HB:= Aside0.mk (below_step z16_ hb); clear hb ho3; obtain ⟨Ao4, co4, eo4⟩ := Kd.R_slice HO203.out; subst eo4))
 go_loopg [13] k (fun kq v13 w' => ∃ (x13_1 : Int), v13 = .int .i64 x13_1 ∧ Aside0 (impl_sharedPrime.l0 kq l0 y201 (y201.length : Int) x13_1 = some (r1, r2, r3)) ∧ Aside0 (kq ≤ k) ∧ Aside0 (Kd.R k83 83 w' w.heap.size (fun _ => True) (.slice Ao4 y201.length co4) y201) ∧ Aside0 (Below w.heap.size w w'))
 case atStart => exact ⟨(0), z32_, H', ⟨Nat.le_refl _⟩, ⟨by (with_reducible repeat (first | apply Kd.R_alloc | apply Kd.R_drewN | apply Kd.R_drew)); exact HO203.out⟩, ⟨z16_⟩⟩
 case round =>
  clear H'
  obtain ⟨x13_1, rfl, HA, HK1, HO_11, HB⟩ := hrel
  cases gk with
  | zero => exact absurd HA.out (by simp [impl_sharedPrime.l0])
  | succ k1 =>
   have H := HA.out
   clear HA
   simp only [impl_sharedPrime.l0] at H
   by_cases c5 : x13_1 < (y201.length : Int)
   rotate_left
   · rw [if_neg c5] at H
     have c5b0 := decide_eq_false c5
     clear c5
     simp only [Option.some.injEq, Prod.mk.injEq] at H
     obtain ⟨rfl, rfl, rfl⟩ := H
     go_wp2
     go_ret3
     exact ⟨z29_, z16_⟩
   rw [if_pos c5] at H
   have c5b0 := decide_eq_true c5
   clear c5
   obtain ⟨c6, H⟩ := in_ H
   have c6b0 := decide_eq_true c6
   clear c6
   obtain ⟨c7, H⟩ := in_ H
   have c7b0 := decide_eq_true c7
   clear c7
   obtain ⟨c8, H⟩ := in_ H
   have c8b0 := decide_eq_true c8
   clear c8
   obtain ⟨c9, H⟩ := in_ H
   have c9b0 := decide_eq_true c9
   clear c9
   obtain ⟨c10, H⟩ := in_ H
   have c10b0 := decide_eq_true c10
   clear c10
   obtain ⟨c11, H⟩ := in_ H
   have c11b0 := decide_eq_true c11
   clear c11
   generalize h_ : (([rd l0 ((rd_T83 y201 x13_1).f0), rd l0 ((rd_T83 y201 x13_1).f1)] : List Int)) = y208 at H
   have Ny208 := Aside0.mk h_.symm
   clear h_
   obtain ⟨t211, A12, H⟩ := bi_ H
   by_cases c13 : t211 > 1
   · rw [if_pos c13] at H
     have c13b0 := decide_eq_true c13
     clear c13
     obtain ⟨t212, A14, H⟩ := bi_ H
     obtain ⟨c15, H⟩ := in_ H
     have c15b0 := decide_eq_true c15
     have c15b1 : decide (0 < t212.length) = true := decide_eq_true (by omega)
     clear c15
     simp only [Option.some.injEq, Prod.mk.injEq] at H
     obtain ⟨rfl, rfl, rfl⟩ := H
     have p204 : 0 ≤ (x13_1 : Int) := of_decide_eq_true z31_
     have q204 : x13_1 < (y201.length : Int) := of_decide_eq_true z31_
     obtain ⟨ad204, e204, hx204_0, hx204_1⟩ := at_T83 (Kd.R_reads' HO_11.out).2.2 x13_1 p204 q204
     cases e204
     replace p204 := eq_true p204
     replace q204 := eq_true q204
     try go_wp2_with (first | ((with_reducible refine gate_dst (N := 6) rfl ?_); refine box_event ?hg (N := 6) ?hd (cs := #[.int .i64 0, .int .i64 0]) (t := 83) ?hr ?_; (case hd => rfl); (case hg => rfl); (case hr => first | (go_simp; done) | (go_simp; rfl)); intro gb205 hg w16 hbox hb; replace HO_11:= Aside0.mk (Kd.R_below (Kd.R_elderB z21_ gb205 (Nat.le_of_eq hg.symm)) hb); have BK205:= Aside0.mk (hbox); have GW205:= Aside0.mk ((by rw [hg]; exact (below_size z16_) : w.heap.size ≤ gb205)); have GE205:= Aside0.mk ((by rw [hg]; exact (below_size z16_) : w.heap.size ≤ gb205)); replace HB:= Aside0.mk (below_step z16_ hb); clear hb hbox hg; have hcz17_0 : w16.cell? ⟨gb205, 0, none⟩ = some (.int .i64 0) := (blk_cell BK205.out 0).trans rfl; have hcz17_1 : w16.cell? ⟨gb205, 1, none⟩ = some (.int .i64 0) := (blk_cell BK205.out 1).trans rfl; have hfz17_0 := blk_frozen BK205.out 0; have hfz17_1 := blk_frozen BK205.out 1))
     have n0_ : Aside0 (Kd.R k83 83 ((w16.setCell ⟨gb205, 0, none⟩ (.int .i64 ((rd_T83 y201 x13_1).f0))).setCell ⟨gb205, 1, none⟩ (.int .i64 ((rd_T83 y201 x13_1).f1))) w.heap.size (fun k_ => k_ ≠ gb205) (.slice (some ad204) y201.length co4) y201) := ⟨by (with_reducible repeat (first | apply Kd.R_alloc | apply Kd.R_drewN | apply Kd.R_drew)); exact Kd.R_mono (Kd.R_far (p := ⟨gb205, 1, none⟩) (Kd.R_far (p := ⟨gb205, 0, none⟩) (Kd.R_mono HO_11.out (fun k_ hk => (⟨hk, hk.2⟩ : _ ∧ k_ ≠ gb205))) (fun _ hk => hk.2) (.int .i64 ((rd_T83 y201 x13_1).f0))) (fun _ hk => hk.2) (.int .i64 ((rd_T83 y201 x13_1).f1))) (fun _ hk => hk.1.2)⟩
     have n1_ : Aside0 (((w16.setCell ⟨gb205, 0, none⟩ (.int .i64 ((rd_T83 y201 x13_1).f0))).setCell ⟨gb205, 1, none⟩ (.int .i64 ((rd_T83 y201 x13_1).f1))).heap[gb205]? = some (.cells #[.int .i64 ((rd_T83 y201 x13_1).f0), .int .i64 ((rd_T83 y201 x13_1).f1)] 83 (0, 0))) := ⟨by (with_reducible repeat (first | refine blk_drewN ?_ _ | refine blk_drew ?_ | refine blk_alloc ?_ _)); refine blk_put (cs := #[.int .i64 ((rd_T83 y201 x13_1).f0), .int .i64 0]) ?_ 1 _ rfl; (with_reducible repeat (first | refine blk_drewN ?_ _ | refine blk_drew ?_ | refine blk_alloc ?_ _)); refine blk_put (cs := #[.int .i64 0, .int .i64 0]) ?_ 0 _ rfl; (with_reducible repeat (first | refine blk_drewN ?_ _ | refine blk_drew ?_ | refine blk_alloc ?_ _)); exact BK205.out⟩
     have n2_ : Aside0 (Below w.heap.size w ((w16.setCell ⟨gb205, 0, none⟩ (.int .i64 ((rd_T83 y201 x13_1).f0))).setCell ⟨gb205, 1, none⟩ (.int .i64 ((rd_T83 y201 x13_1).f1)))) := ⟨z8_⟩
     clear HO_11
     clear BK205
     clear HB
     generalize ((w16.setCell ⟨gb205, 0, none⟩ (.int .i64 ((rd_T83 y201 x13_1).f0))).setCell ⟨gb205, 1, none⟩ (.int .i64 ((rd_T83 y201 x13_1).f1))) = w18 at n0_ n1_ n2_ ⊢
     revert n0_ n1_ n2_
     intro HO_11 BK205 HB
     replace HO_11:= Aside0.mk (Kd.R_drew HO_11.out)
     replace BK205:= Aside0.mk (blk_drew BK205.out)
     replace HB:= Aside0.mk (below_drew1 HB.out)
     have p206 : 0 ≤ (((rd_T83 y201 x13_1).f0) : Int) := of_decide_eq_true z31_
     have q206 : ((rd_T83 y201 x13_1).f0) < (l0.length : Int) := of_decide_eq_true z31_
     obtain ⟨ad206, e206, hx206_0⟩ := Kd.at_int HR0.out ((rd_T83 y201 x13_1).f0) p206 q206
     have hw206_0 := hx206_0
     cases e206
     replace hx206_0 := (HB.out.cell (World.block_lt_of_cell? w _ hx206_0)).trans hx206_0
     replace p206 := eq_true p206
     replace q206 := eq_true q206
     have p207 : 0 ≤ (((rd_T83 y201 x13_1).f1) : Int) := of_decide_eq_true z31_
     have q207 : ((rd_T83 y201 x13_1).f1) < (l0.length : Int) := of_decide_eq_true z31_
     obtain ⟨ad207, e207, hx207_0⟩ := Kd.at_int HR0.out ((rd_T83 y201 x13_1).f1) p207 q207
     have hw207_0 := hx207_0
     obtain rfl : ad206 = ad207 := (by injection e207)
     replace hx207_0 := (HB.out.cell (World.block_lt_of_cell? w _ hx207_0)).trans hx207_0
     replace p207 := eq_true p207
     replace q207 := eq_true q207
     refine start_ (n := 13) (S := fun w' => w'.cell? ⟨gb205, 0, none⟩ = some (.int .i64 ((rd_T83 y201 x13_1).f0)) ∧ w'.cell? ⟨gb205, 1, none⟩ = some (.int .i64 ((rd_T83 y201 x13_1).f1)) ∧ w'.cell? (ad206.add (((rd_T83 y201 x13_1).f0)).toNat) = some (.int .i64 (rd l0 ((rd_T83 y201 x13_1).f0))) ∧ w'.cell? (ad206.add (((rd_T83 y201 x13_1).f1)).toNat) = some (.int .i64 (rd l0 ((rd_T83 y201 x13_1).f1)))) (ds := []) (bs_ 13 0) (by kernel_rfl) rfl rfl ⟨(blk_cell BK205.out 0).trans rfl, (blk_cell BK205.out 1).trans rfl, ((HB.out.cell (World.block_lt_of_cell? w _ hw206_0)).trans hw206_0), ((HB.out.cell (World.block_lt_of_cell? w _ hw207_0)).trans hw207_0)⟩ (fun hHeld => ?_); refine with_tabW impl_sharedPrime.tab4 impl_sharedPrime.bits4 (fun HT_ HW_ => ?_)
     generalize w18.drew = w19 at HO_11 BK205 HB hx206_0 hx207_0 hHeld ⊢
     refine pz_ 0 17 13 1 HT_ ?_
     refine pz_ 1 18 13 3 HT_ ?_
     refine pz_ 5 22 13 35 HT_ ?_
     refine pz_ 6 23 13 99 HT_ ?_
     refine ta_ 2 19 13 103 HT_ HW_ hHeld ?_
     refine pz_ 3 20 13 111 HT_ ?_
     refine ta_ 4 21 13 127 HT_ HW_ hHeld ?_
     refine ta_ 7 24 13 255 HT_ HW_ hHeld ?_
     refine pz_ 8 25 13 511 HT_ ?_
     refine ta_ 9 26 13 1023 HT_ HW_ hHeld ?_
     refine on_ 10 27 13 2047 HT_ (fun K hK => ?_)
     refine Kd.R_lit_step (Kd.int .i64) _ 3 ?hg (N := 27) ?hd (xs := ([rd l0 ((rd_T83 y201 x13_1).f0), rd l0 ((rd_T83 y201 x13_1).f1)] : List Int)) (inner := [.int .i64 (rd l0 ((rd_T83 y201 x13_1).f0)), .int .i64 (rd l0 ((rd_T83 y201 x13_1).f1))]) (ok := fun _ => True) (okp := fun _ => True) ?hr ?hp (fun _ hk => hk) trivial (Below.refl _ _) (Nat.le_refl _) (by simp) ?_; (case hd => rfl); (case hg => rfl); (case hr => first | (go_simp; done) | (go_simp; rfl)); (case hp => exact (Reps.one (show Kd.M (Kd.int .i64) _ _ _ (rd l0 ((rd_T83 y201 x13_1).f0)) [.int .i64 (rd l0 ((rd_T83 y201 x13_1).f0))] from rfl) (Reps.one (show Kd.M (Kd.int .i64) _ _ _ (rd l0 ((rd_T83 y201 x13_1).f1)) [.int .i64 (rd l0 ((rd_T83 y201 x13_1).f1))] from rfl) (Reps.none _ _))))
     intro v209 w20 ho21 hb hg_ hnew_
     clear hg_ hnew_
     (first | rw [← Ny208.out] at ho21 | (simp only [Int.reduceToNat] at ho21; rw [← Ny208.out] at ho21))
     replace HO_11:= Aside0.mk (Kd.R_below z21_ hb)
     have HO210:= Aside0.mk (Kd.R_lower ho21 (below_size z8_))
     replace BK205:= Aside0.mk (blk_below (g := gb205) (o := .cells #[.int .i64 ((rd_T83 y201 x13_1).f0), .int .i64 ((rd_T83 y201 x13_1).f1)] 83 (0, 0)) (by (with_reducible repeat (first | refine blk_drewN ?_ _ | refine blk_drew ?_ | refine blk_alloc ?_ _)); exact BK205.out) hb)
     replace HB:= Aside0.mk (below_step z8_ hb)
     clear hb ho21
     obtain ⟨Ao22, co22, eo22⟩ := Kd.R_slice HO210.out
     (first | subst eo22 | (injection eo22 with f1_ f2_ f3_; have f4_ := f1_.symm; have f5_ := f3_.symm; clear f1_ f2_ f3_; subst f4_; subst f5_))
     refine hK.out _ _ ⟨(blk_cell BK205.out 0).trans rfl, (blk_cell BK205.out 1).trans rfl, ((HB.out.cell (World.block_lt_of_cell? w _ hw206_0)).trans hw206_0), ((HB.out.cell (World.block_lt_of_cell? w _ hw207_0)).trans hw207_0)⟩ (fun hHeld => ?_)
     clear hK K
     refine norm_ (a' := ?_) ?_ ?_
     rotate_left
     · show Act.put _ (some 27) _ = _
       simp only [Act.put, List.setIfInBounds_toArray, List.set_cons_zero, List.set_cons_succ, i64_w, i32_w]
       rfl
     refine on_ 11 28 13 4095 HT_ (fun K hK => ?_)
     refine goes_ Try.func79 (by kernel_rfl) rfl #[.slice Ao22 y208.length co22] (by rfl) rfl rfl z14_ ?_
     with_reducible refine (impl_gcd.calls k1 _ _ y208 t211 _ ?side1 ?side2 A12.out).mono ?_
     (case side1 => repeat (first | exact (Kd.R_reads' HO210.out).2.2 | (with_reducible refine Kd.C_alloc ?_ _) | (with_reducible refine Kd.C_drewN ?_ _) | (with_reducible refine Kd.C_drew ?_)))
     (case side2 => exact (Kd.R_reads' HO210.out).2.1)
     rintro e w23 ⟨rfl, hb⟩
     refine ⟨_, rfl, ?_⟩
     replace HO_11:= Aside0.mk (Kd.R_below z21_ hb)
     replace HO210:= Aside0.mk (Kd.R_below z22_ hb)
     replace BK205:= Aside0.mk (blk_below (g := gb205) (o := .cells #[.int .i64 ((rd_T83 y201 x13_1).f0), .int .i64 ((rd_T83 y201 x13_1).f1)] 83 (0, 0)) (by (with_reducible repeat (first | refine blk_drewN ?_ _ | refine blk_drew ?_ | refine blk_alloc ?_ _)); exact BK205.out) hb)
     replace HB:= Aside0.mk (below_step z8_ hb)
     clear hb
     refine hK.out _ _ ⟨(blk_cell BK205.out 0).trans rfl, (blk_cell BK205.out 1).trans rfl, ((HB.out.cell (World.block_lt_of_cell? w _ hw206_0)).trans hw206_0), ((HB.out.cell (World.block_lt_of_cell? w _ hw207_0)).trans hw207_0)⟩ (fun hHeld => ?_)
     clear hK K
     refine norm_ (a' := ?_) ?_ ?_
     rotate_left
     · show Act.put _ (some 28) _ = _
       simp only [Act.put, List.setIfInBounds_toArray, List.set_cons_zero, List.set_cons_succ, i64_w, i32_w]
       rfl
     refine pz_ 12 7 13 8191 HT_ ?_
     refine dn_ HT_ ?_
     go_wp2
     replace HO_11:= Aside0.mk (Kd.R_drew HO_11.out)
     replace HO210:= Aside0.mk (Kd.R_drew HO210.out)
     replace BK205:= Aside0.mk (blk_drew BK205.out)
     replace HB:= Aside0.mk (below_drew1 HB.out)
     refine start_ (n := 11) (S := fun w' => w'.cell? ⟨gb205, 0, none⟩ = some (.int .i64 ((rd_T83 y201 x13_1).f0)) ∧ w'.cell? ⟨gb205, 1, none⟩ = some (.int .i64 ((rd_T83 y201 x13_1).f1))) (ds := []) (bs_ 11 0) (by kernel_rfl) rfl rfl ⟨(blk_cell BK205.out 0).trans rfl, (blk_cell BK205.out 1).trans rfl⟩ (fun hHeld => ?_); refine with_tabW impl_sharedPrime.tab6 impl_sharedPrime.bits6 (fun HT_ HW_ => ?_)
     generalize w23.drew = w24 at HO_11 HO210 BK205 HB hHeld ⊢
     refine pz_ 0 31 11 1 HT_ ?_
     refine pz_ 2 33 11 5 HT_ ?_
     refine pz_ 4 35 11 21 HT_ ?_
     refine ta_ 1 32 11 23 HT_ HW_ hHeld ?_
     refine ta_ 3 34 11 31 HT_ HW_ hHeld ?_
     refine on_ 5 36 11 63 HT_ (fun K hK => ?_)
     refine goes_ Try.func110 (by kernel_rfl) rfl #[.int .i64 t211] (by rfl) rfl rfl z14_ ?_
     with_reducible refine (impl_primesOf.calls k1 t211 t212 _ A14.out).mono ?_
     rintro e w25 ⟨v213, rfl, ho0, hb⟩
     refine ⟨_, rfl, ?_⟩
     replace HO_11:= Aside0.mk (Kd.R_below z21_ hb)
     have HO214:= Aside0.mk (Kd.R_lower (Kd.R_new' ho0 (Kd.R_lt z22_)) (below_size z8_))
     replace HO210:= Aside0.mk (Kd.R_elder' z22_ (Kd.R_base ho0) hb)
     replace BK205:= Aside0.mk (blk_below (g := gb205) (o := .cells #[.int .i64 ((rd_T83 y201 x13_1).f0), .int .i64 ((rd_T83 y201 x13_1).f1)] 83 (0, 0)) (by (with_reducible repeat (first | refine blk_drewN ?_ _ | refine blk_drew ?_ | refine blk_alloc ?_ _)); exact BK205.out) hb)
     replace HB:= Aside0.mk (below_step z8_ hb)
     clear hb
     clear ho0
     obtain ⟨Ao26, co26, eo26⟩ := Kd.R_slice HO214.out
     (first | subst eo26 | (injection eo26 with f1_ f2_ f3_; have f4_ := f1_.symm; have f5_ := f3_.symm; clear f1_ f2_ f3_; subst f4_; subst f5_))
     have p215 : 0 ≤ (0 : Int) := (by omega)
     have q215 : 0 < (t212.length : Int) := of_decide_eq_true z31_
     obtain ⟨ad215, e215, hx215_0⟩ := Kd.at_int (Kd.R_reads' HO214.out).2.2 0 p215 q215
     cases e215
     have qi215 : (0 < t212.length) = True := eq_true (by omega)
     rw [show ((0 : Int)).toNat = 0 from rfl] at hx215_0
     rw [Addr.add_zero'] at hx215_0
     replace p215 := eq_true p215
     replace q215 := eq_true q215
     refine hK.out _ _ ⟨(blk_cell BK205.out 0).trans rfl, (blk_cell BK205.out 1).trans rfl⟩ (fun hHeld0 => ?_)
     refine swap_ (S' := fun w' => w'.cell? ⟨gb205, 0, none⟩ = some (.int .i64 ((rd_T83 y201 x13_1).f0)) ∧ w'.cell? ⟨gb205, 1, none⟩ = some (.int .i64 ((rd_T83 y201 x13_1).f1)) ∧ w'.cell? ad215 = some (.int .i64 (rd t212 0))) (fun _ h_ => ⟨h_.1, h_.2.1⟩) _ _ _ _ ⟨hHeld0.1, hHeld0.2, hx215_0⟩ ?_
     have hHeld := (⟨hHeld0.1, hHeld0.2, hx215_0⟩ : _ ∧ _ ∧ _)
     clear hK K
     refine norm_ (a' := ?_) ?_ ?_
     rotate_left
     · show Act.put _ (some 36) _ = _
       simp only [Act.put, List.setIfInBounds_toArray, List.set_cons_zero, List.set_cons_succ, i64_w, i32_w]
       rfl
     refine pz_ 6 37 11 127 HT_ ?_
     refine pz_ 8 2 11 383 HT_ ?_
     refine pz_ 9 3 11 895 HT_ ?_
     refine ta_ 7 38 11 1023 HT_ HW_ hHeld ?_
     refine pz_ 10 4 11 2047 HT_ ?_
     refine dn_ HT_ ?_
     go_wp2
     go_ret3
     exact ⟨z29_, z8_⟩
   rw [if_neg c13] at H
   have c13b0 := decide_eq_false c13
   clear c13
   have H' := Aside0.mk H
   clear H
   have p204 : 0 ≤ (x13_1 : Int) := of_decide_eq_true z31_
   have q204 : x13_1 < (y201.length : Int) := of_decide_eq_true z31_
   obtain ⟨ad204, e204, hx204_0, hx204_1⟩ := at_T83 (Kd.R_reads' HO_11.out).2.2 x13_1 p204 q204
   cases e204
   replace p204 := eq_true p204
   replace q204 := eq_true q204
   try go_wp2_with (first | ((with_reducible refine gate_dst (N := 6) rfl ?_); refine box_event ?hg (N := 6) ?hd (cs := #[.int .i64 0, .int .i64 0]) (t := 83) ?hr ?_; (case hd => rfl); (case hg => rfl); (case hr => first | (go_simp; done) | (go_simp; rfl)); intro gb205 hg w27 hbox hb; replace HO_11:= Aside0.mk (Kd.R_below (Kd.R_elderB z21_ gb205 (Nat.le_of_eq hg.symm)) hb); have BK205:= Aside0.mk (hbox); have GW205:= Aside0.mk ((by rw [hg]; exact (below_size z16_) : w.heap.size ≤ gb205)); have GE205:= Aside0.mk ((by rw [hg]; exact (below_size z16_) : w.heap.size ≤ gb205)); replace HB:= Aside0.mk (below_step z16_ hb); clear hb hbox hg; have hcz28_0 : w27.cell? ⟨gb205, 0, none⟩ = some (.int .i64 0) := (blk_cell BK205.out 0).trans rfl; have hcz28_1 : w27.cell? ⟨gb205, 1, none⟩ = some (.int .i64 0) := (blk_cell BK205.out 1).trans rfl; have hfz28_0 := blk_frozen BK205.out 0; have hfz28_1 := blk_frozen BK205.out 1))
   have n0_ : Aside0 (Kd.R k83 83 ((w27.setCell ⟨gb205, 0, none⟩ (.int .i64 ((rd_T83 y201 x13_1).f0))).setCell ⟨gb205, 1, none⟩ (.int .i64 ((rd_T83 y201 x13_1).f1))) w.heap.size (fun k_ => k_ ≠ gb205) (.slice (some ad204) y201.length co4) y201) := ⟨by (with_reducible repeat (first | apply Kd.R_alloc | apply Kd.R_drewN | apply Kd.R_drew)); exact Kd.R_mono (Kd.R_far (p := ⟨gb205, 1, none⟩) (Kd.R_far (p := ⟨gb205, 0, none⟩) (Kd.R_mono HO_11.out (fun k_ hk => (⟨hk, hk.2⟩ : _ ∧ k_ ≠ gb205))) (fun _ hk => hk.2) (.int .i64 ((rd_T83 y201 x13_1).f0))) (fun _ hk => hk.2) (.int .i64 ((rd_T83 y201 x13_1).f1))) (fun _ hk => hk.1.2)⟩
   have n1_ : Aside0 (((w27.setCell ⟨gb205, 0, none⟩ (.int .i64 ((rd_T83 y201 x13_1).f0))).setCell ⟨gb205, 1, none⟩ (.int .i64 ((rd_T83 y201 x13_1).f1))).heap[gb205]? = some (.cells #[.int .i64 ((rd_T83 y201 x13_1).f0), .int .i64 ((rd_T83 y201 x13_1).f1)] 83 (0, 0))) := ⟨by (with_reducible repeat (first | refine blk_drewN ?_ _ | refine blk_drew ?_ | refine blk_alloc ?_ _)); refine blk_put (cs := #[.int .i64 ((rd_T83 y201 x13_1).f0), .int .i64 0]) ?_ 1 _ rfl; (with_reducible repeat (first | refine blk_drewN ?_ _ | refine blk_drew ?_ | refine blk_alloc ?_ _)); refine blk_put (cs := #[.int .i64 0, .int .i64 0]) ?_ 0 _ rfl; (with_reducible repeat (first | refine blk_drewN ?_ _ | refine blk_drew ?_ | refine blk_alloc ?_ _)); exact BK205.out⟩
   have n2_ : Aside0 (Below w.heap.size w ((w27.setCell ⟨gb205, 0, none⟩ (.int .i64 ((rd_T83 y201 x13_1).f0))).setCell ⟨gb205, 1, none⟩ (.int .i64 ((rd_T83 y201 x13_1).f1)))) := ⟨z8_⟩
   clear HO_11
   clear BK205
   clear HB
   generalize ((w27.setCell ⟨gb205, 0, none⟩ (.int .i64 ((rd_T83 y201 x13_1).f0))).setCell ⟨gb205, 1, none⟩ (.int .i64 ((rd_T83 y201 x13_1).f1))) = w29 at n0_ n1_ n2_ ⊢
   revert n0_ n1_ n2_
   intro HO_11 BK205 HB
   replace HO_11:= Aside0.mk (Kd.R_drew HO_11.out)
   replace BK205:= Aside0.mk (blk_drew BK205.out)
   replace HB:= Aside0.mk (below_drew1 HB.out)
   have p206 : 0 ≤ (((rd_T83 y201 x13_1).f0) : Int) := of_decide_eq_true z31_
   have q206 : ((rd_T83 y201 x13_1).f0) < (l0.length : Int) := of_decide_eq_true z31_
   obtain ⟨ad206, e206, hx206_0⟩ := Kd.at_int HR0.out ((rd_T83 y201 x13_1).f0) p206 q206
   have hw206_0 := hx206_0
   cases e206
   replace hx206_0 := (HB.out.cell (World.block_lt_of_cell? w _ hx206_0)).trans hx206_0
   replace p206 := eq_true p206
   replace q206 := eq_true q206
   have p207 : 0 ≤ (((rd_T83 y201 x13_1).f1) : Int) := of_decide_eq_true z31_
   have q207 : ((rd_T83 y201 x13_1).f1) < (l0.length : Int) := of_decide_eq_true z31_
   obtain ⟨ad207, e207, hx207_0⟩ := Kd.at_int HR0.out ((rd_T83 y201 x13_1).f1) p207 q207
   have hw207_0 := hx207_0
   obtain rfl : ad206 = ad207 := (by injection e207)
   replace hx207_0 := (HB.out.cell (World.block_lt_of_cell? w _ hx207_0)).trans hx207_0
   replace p207 := eq_true p207
   replace q207 := eq_true q207
   refine start_ (n := 13) (S := fun w' => w'.cell? ⟨gb205, 0, none⟩ = some (.int .i64 ((rd_T83 y201 x13_1).f0)) ∧ w'.cell? ⟨gb205, 1, none⟩ = some (.int .i64 ((rd_T83 y201 x13_1).f1)) ∧ w'.cell? (ad206.add (((rd_T83 y201 x13_1).f0)).toNat) = some (.int .i64 (rd l0 ((rd_T83 y201 x13_1).f0))) ∧ w'.cell? (ad206.add (((rd_T83 y201 x13_1).f1)).toNat) = some (.int .i64 (rd l0 ((rd_T83 y201 x13_1).f1)))) (ds := []) (bs_ 13 0) (by kernel_rfl) rfl rfl ⟨(blk_cell BK205.out 0).trans rfl, (blk_cell BK205.out 1).trans rfl, ((HB.out.cell (World.block_lt_of_cell? w _ hw206_0)).trans hw206_0), ((HB.out.cell (World.block_lt_of_cell? w _ hw207_0)).trans hw207_0)⟩ (fun hHeld => ?_); refine with_tabW impl_sharedPrime.tab4 impl_sharedPrime.bits4 (fun HT_ HW_ => ?_)
   generalize w29.drew = w30 at HO_11 BK205 HB hx206_0 hx207_0 hHeld ⊢
   refine pz_ 0 17 13 1 HT_ ?_
   refine pz_ 1 18 13 3 HT_ ?_
   refine pz_ 5 22 13 35 HT_ ?_
   refine pz_ 6 23 13 99 HT_ ?_
   refine ta_ 2 19 13 103 HT_ HW_ hHeld ?_
   refine pz_ 3 20 13 111 HT_ ?_
   refine ta_ 4 21 13 127 HT_ HW_ hHeld ?_
   refine ta_ 7 24 13 255 HT_ HW_ hHeld ?_
   refine pz_ 8 25 13 511 HT_ ?_
   refine ta_ 9 26 13 1023 HT_ HW_ hHeld ?_
   refine on_ 10 27 13 2047 HT_ (fun K hK => ?_)
   refine Kd.R_lit_step (Kd.int .i64) _ 3 ?hg (N := 27) ?hd (xs := ([rd l0 ((rd_T83 y201 x13_1).f0), rd l0 ((rd_T83 y201 x13_1).f1)] : List Int)) (inner := [.int .i64 (rd l0 ((rd_T83 y201 x13_1).f0)), .int .i64 (rd l0 ((rd_T83 y201 x13_1).f1))]) (ok := fun _ => True) (okp := fun _ => True) ?hr ?hp (fun _ hk => hk) trivial (Below.refl _ _) (Nat.le_refl _) (by simp) ?_; (case hd => rfl); (case hg => rfl); (case hr => first | (go_simp; done) | (go_simp; rfl)); (case hp => exact (Reps.one (show Kd.M (Kd.int .i64) _ _ _ (rd l0 ((rd_T83 y201 x13_1).f0)) [.int .i64 (rd l0 ((rd_T83 y201 x13_1).f0))] from rfl) (Reps.one (show Kd.M (Kd.int .i64) _ _ _ (rd l0 ((rd_T83 y201 x13_1).f1)) [.int .i64 (rd l0 ((rd_T83 y201 x13_1).f1))] from rfl) (Reps.none _ _))))
   intro v209 w31 ho32 hb hg_ hnew_
   clear hg_ hnew_
   (first | rw [← Ny208.out] at ho32 | (simp only [Int.reduceToNat] at ho32; rw [← Ny208.out] at ho32))
   replace HO_11:= Aside0.mk (Kd.R_below z21_ hb)
   have HO210:= Aside0.mk (Kd.R_lower ho32 (below_size z8_))
   replace BK205:= Aside0.mk (blk_below (g := gb205) (o := .cells #[.int .i64 ((rd_T83 y201 x13_1).f0), .int .i64 ((rd_T83 y201 x13_1).f1)] 83 (0, 0)) (by (with_reducible repeat (first | refine blk_drewN ?_ _ | refine blk_drew ?_ | refine blk_alloc ?_ _)); exact BK205.out) hb)
   replace HB:= Aside0.mk (below_step z8_ hb)
   clear hb ho32
   obtain ⟨Ao33, co33, eo33⟩ := Kd.R_slice HO210.out
   (first | subst eo33 | (injection eo33 with f1_ f2_ f3_; have f4_ := f1_.symm; have f5_ := f3_.symm; clear f1_ f2_ f3_; subst f4_; subst f5_))
   refine hK.out _ _ ⟨(blk_cell BK205.out 0).trans rfl, (blk_cell BK205.out 1).trans rfl, ((HB.out.cell (World.block_lt_of_cell? w _ hw206_0)).trans hw206_0), ((HB.out.cell (World.block_lt_of_cell? w _ hw207_0)).trans hw207_0)⟩ (fun hHeld => ?_)
   clear hK K
   refine norm_ (a' := ?_) ?_ ?_
   rotate_left
   · show Act.put _ (some 27) _ = _
     simp only [Act.put, List.setIfInBounds_toArray, List.set_cons_zero, List.set_cons_succ, i64_w, i32_w]
     rfl
   refine on_ 11 28 13 4095 HT_ (fun K hK => ?_)
   refine goes_ Try.func79 (by kernel_rfl) rfl #[.slice Ao33 y208.length co33] (by rfl) rfl rfl z14_ ?_
   with_reducible refine (impl_gcd.calls k1 _ _ y208 t211 _ ?side1 ?side2 A12.out).mono ?_
   (case side1 => repeat (first | exact (Kd.R_reads' HO210.out).2.2 | (with_reducible refine Kd.C_alloc ?_ _) | (with_reducible refine Kd.C_drewN ?_ _) | (with_reducible refine Kd.C_drew ?_)))
   (case side2 => exact (Kd.R_reads' HO210.out).2.1)
   rintro e w34 ⟨rfl, hb⟩
   refine ⟨_, rfl, ?_⟩
   replace HO_11:= Aside0.mk (Kd.R_below z21_ hb)
   replace HO210:= Aside0.mk (Kd.R_below z22_ hb)
   replace BK205:= Aside0.mk (blk_below (g := gb205) (o := .cells #[.int .i64 ((rd_T83 y201 x13_1).f0), .int .i64 ((rd_T83 y201 x13_1).f1)] 83 (0, 0)) (by (with_reducible repeat (first | refine blk_drewN ?_ _ | refine blk_drew ?_ | refine blk_alloc ?_ _)); exact BK205.out) hb)
   replace HB:= Aside0.mk (below_step z8_ hb)
   clear hb
   refine hK.out _ _ ⟨(blk_cell BK205.out 0).trans rfl, (blk_cell BK205.out 1).trans rfl, ((HB.out.cell (World.block_lt_of_cell? w _ hw206_0)).trans hw206_0), ((HB.out.cell (World.block_lt_of_cell? w _ hw207_0)).trans hw207_0)⟩ (fun hHeld => ?_)
   clear hK K
   refine norm_ (a' := ?_) ?_ ?_
   rotate_left
   · show Act.put _ (some 28) _ = _
     simp only [Act.put, List.setIfInBounds_toArray, List.set_cons_zero, List.set_cons_succ, i64_w, i32_w]
     rfl
   refine pz_ 12 7 13 8191 HT_ ?_
   refine dn_ HT_ ?_
   go_wp2
   go_roundg k1
   case measure => have := HK1.out; omega
   case rel => exact ⟨(wrap64 (x13_1 + 1)), z32_, H', ⟨by have := HK1.out; omega⟩, ⟨by (with_reducible repeat (first | apply Kd.R_alloc | apply Kd.R_drewN | apply Kd.R_drew)); exact Kd.R_mono HO_11.out (fun _ hk => trivial)⟩, ⟨z8_⟩⟩

end Go.Proofs.Ytdeahlommlgceaa.PFnNormal

-- Written by a program of this repo (wip/gen/gen.py) over the kit's print.
-- (slim)
import Derived.Test.YtdeahlommlgceaaPFnSearchx0
import Derived.Test.YtdeahlommlgceaaPFnSearchx1
namespace Go.Proofs.Ytdeahlommlgceaa.PFnSearch
open Go.RowKit Go.Proofs.YtdeahlommlgceaaW.PrintWords Go.Proofs.YtdeahlommlgceaaW.PrintLast Go.Proofs.YtdeahlommlgceaaW.PrintMore
attribute [local go_sem] max2_int min2_int max_two min_two max_three min_three max_four min_four   -- for this text's walks alone
set_option linter.unusedVariables false
set_option maxHeartbeats 8000000
set_option maxRecDepth 100000
set_option linter.unusedSimpArgs false

/-! ### impl_sharedPrime: function 72 -/
theorem swap_ {P : Program} {md : Region.Mode} {ops : Array Oper} {Q : Exit → Act → World → Prop} {S S' : World → Prop} (hS : ∀ w, S' w → S w) : ∀ (fuel : Nat) (l : Array Bool) (a : Act) (w : World), S' w → wpAnyLast P md ops Q S' [] fuel l a w → wpAnyLast P md ops Q S [] fuel l a w
 | 0, _, _, _, _, h => h
 | fuel + 1, l, a, w, hw, h => ⟨h.1, fun i hi => wpOp_mono (fun a' w' h' => ⟨fun _ _ => hS _ (h'.1 (by simp) hw), swap_ hS fuel _ a' w' (h'.1 (by simp) hw) h'.2⟩) (h.2 i hi)⟩
def impl_sharedPrime.l0 : Nat → List Int → List (S83) → Int → Int → Option (Int × Int × Int)
 | 0, _, _, _, _ => none
 | k + 1, x0, x11, x12, x13 => if x13 < x12 then (if 0 ≤ x13 then (if x13 < (x11.length : Int) then (if 0 ≤ ((rd_T83 x11 x13).f0) then (if ((rd_T83 x11 x13).f0) < (x0.length : Int) then (if 0 ≤ ((rd_T83 x11 x13).f1) then (if ((rd_T83 x11 x13).f1) < (x0.length : Int) then ((impl_gcd.f k (([rd x0 ((rd_T83 x11 x13).f0), rd x0 ((rd_T83 x11 x13).f1)] : List Int))).bind fun t131 => (if t131 > 1 then ((impl_primesOf.f k t131).bind fun t132 => (if 0 < (t132.length : Int) then (some ((rd_T83 x11 x13).f0, (rd_T83 x11 x13).f1, rd t132 0)) else (none))) else (impl_sharedPrime.l0 k x0 x11 x12 (wrap64 (x13 + 1))))) else (none)) else (none)) else (none)) else (none)) else (none)) else (none)) else (some (0, 0, 0))
def impl_sharedPrime.f (k : Nat) (l0 : List Int) : Option (Int × Int × Int) := (some (([(⟨0, 1⟩ : S83), (⟨0, 2⟩ : S83), (⟨1, 2⟩ : S83)] : List (S83)) : List (S83))).bind fun y121 => (impl_sharedPrime.l0 k l0 y121 (y121.length : Int) 0)
theorem impl_sharedPrime.mono_l : ∀ k, (∀ y0 y1 y2 y3, LeO (impl_sharedPrime.l0 k y0 y1 y2 y3) (impl_sharedPrime.l0 (k + 1) y0 y1 y2 y3))
 | 0 => fun _ _ _ _ r h => by simp [impl_sharedPrime.l0] at h
 | k + 1 => by
  have ih0 := impl_sharedPrime.mono_l k
  · intro y0 y1 y2 y3
    unfold impl_sharedPrime.l0
    repeat' first
    | (with_reducible exact ih0 _ _ _ _)
    | (with_reducible exact impl_gcd.mono _ _)
    | (with_reducible exact impl_primesOf.mono _ _)
    | (with_reducible exact LeO.refl _)
    | (with_reducible exact LeO.none _)
    | (with_reducible refine LeO.ite ?_ ?_)
    | (with_reducible refine LeO.bind ?_ (fun _ => ?_))
    | exact ih0 _ _ _ _
    | exact impl_gcd.mono _ _
    | exact impl_primesOf.mono _ _
    | exact LeO.none _
    | refine LeO.ite ?_ ?_
    | refine LeO.bind ?_ (fun _ => ?_)
theorem impl_sharedPrime.mono : ∀ a0 k, LeO (impl_sharedPrime.f k a0) (impl_sharedPrime.f (k + 1) a0) := by
 intro a0 k
 have ih0 := impl_sharedPrime.mono_l k
 unfold impl_sharedPrime.f
 repeat' first
  | (with_reducible exact ih0 _ _ _ _)
  | (with_reducible exact impl_gcd.mono _ _)
  | (with_reducible exact impl_primesOf.mono _ _)
  | (with_reducible exact LeO.refl _)
  | (with_reducible exact LeO.none _)
  | (with_reducible refine LeO.ite ?_ ?_)
  | (with_reducible refine LeO.bind ?_ (fun _ => ?_))
  | exact ih0 _ _ _ _
  | exact impl_gcd.mono _ _
  | exact impl_primesOf.mono _ _
  | exact LeO.none _
  | refine LeO.ite ?_ ?_
  | refine LeO.bind ?_ (fun _ => ?_)
def impl_sharedPrime.T4 : Bool × List (List Nat × List Nat) := (true, [([], []), ([], []), ([1], [1]), ([0, 2], [0, 2]), ([3], [3]), ([], []), ([], []), ([6], [6]), ([5, 7], [5, 7]), ([8], [8]), ([4, 9], [4, 9]), ([10], [10]), ([11, 11, 0, 1, 2, 3, 4, 5, 6, 7, 8, 9, 10, 11], [11])])
def impl_sharedPrime.B4 : List Nat := [0, 0, 2, 7, 15, 0, 0, 64, 224, 480, 1023, 2047, 4095]
theorem impl_sharedPrime.tab4 : rtab .any (opsOf Try.f72 4) = impl_sharedPrime.T4 := by kernel_rfl
theorem impl_sharedPrime.bits4 : waitsOk impl_sharedPrime.T4.2 impl_sharedPrime.B4 = true := by kernel_rfl
def impl_sharedPrime.T6 : Bool × List (List Nat × List Nat) := (true, [([], []), ([0], [0]), ([], []), ([2], [2]), ([], []), ([4], [4]), ([5], [5]), ([6], [6]), ([1, 5, 0, 1], [1]), ([3, 8, 0, 1, 2, 3, 8], [3]), ([7, 9, 0, 1, 2, 3, 4, 5, 6, 7, 8, 9], [7])])
def impl_sharedPrime.B6 : List Nat := [0, 1, 0, 4, 0, 16, 48, 112, 51, 319, 1023]
theorem impl_sharedPrime.tab6 : rtab .any (opsOf Try.f72 6) = impl_sharedPrime.T6 := by kernel_rfl
theorem impl_sharedPrime.bits6 : waitsOk impl_sharedPrime.T6.2 impl_sharedPrime.B6 = true := by kernel_rfl
theorem impl_sharedPrime.calls (k : Nat) (A0 : Option Addr) (c0 : Nat) (l0 : List Int) (r1 : Int) (r2 : Int) (r3 : Int) (w : World) (hr0 : Kd.C (Kd.int .i64) w A0 l0.length l0) (hc0 : l0.length ≤ c0) (h : impl_sharedPrime.f k l0 = some (r1, r2, r3)) :
 Calls Try.prog 72 #[.slice A0 l0.length c0] w fun e w' => e = .returned (.tuple #[.int .i64 r1, .int .i64 r2, .int .i64 r3]) ∧ Below w.heap.size w w' := by
 have hu83 := Try.underlying83
 have HR0 := Aside0.mk hr0
 have HC0 := Aside0.mk hc0
 clear hr0 hc0
 have HB := Aside0.mk (Below.refl w.heap.size w)
 have H : ((some (([(⟨0, 1⟩ : S83), (⟨0, 2⟩ : S83), (⟨1, 2⟩ : S83)] : List (S83)) : List (S83))).bind fun y121 => (impl_sharedPrime.l0 k l0 y121 (y121.length : Int) 0)) = some (r1, r2, r3) := h
 clear h
 obtain ⟨y121, hy121⟩ : ∃ y_ : List (S83), y_ = (([(⟨0, 1⟩ : S83), (⟨0, 2⟩ : S83), (⟨1, 2⟩ : S83)] : List (S83))) := ⟨_, rfl⟩
 replace H : (impl_sharedPrime.l0 k l0 y121 (y121.length : Int) 0) = some (r1, r2, r3) := by first | (rw [hy121]; with_reducible exact H) | (have H2_ := (Option.bind_some _ _).symm.trans H; rw [hy121]; with_reducible exact H2_) | (have H2_ := (Option.bind_some _ _).symm.trans H; with_reducible exact H2_) | with_reducible exact H | (rw [hy121]; exact H) | exact H
 have Ny121 := Aside0.mk hy121
 clear hy121
 have H' := Aside0.mk H
 clear H
 go_enter Try.func72, Try.ntmps72
 go_wp2_with (first | ((with_reducible refine gate_dst (N := 11) rfl ?_); refine Kd.R_lit k83 _ 83 ?hg (N := 11) ?hd (xs := ([(⟨0, 1⟩ : S83), (⟨0, 2⟩ : S83), (⟨1, 2⟩ : S83)] : List (S83))) (inner := [.int .i64 0, .int .i64 1, .int .i64 0, .int .i64 2, .int .i64 1, .int .i64 2]) (ok := fun _ => True) (okp := fun _ => True) ?hr ?hp (fun _ hk => hk) trivial (Below.refl _ _) (Nat.le_refl _) (by simp) ?_; (case hd => rfl); (case hg => rfl); (case hr => first | (go_simp; done) | (go_simp; rfl)); (case hp => exact (Reps.c2 (show Kd.M k83 _ _ _ (⟨0, 1⟩ : S83) [.int .i64 0, .int .i64 1] from (k83_mkM _ _ _ (⟨0, 1⟩ : S83) )) (Reps.c2 (show Kd.M k83 _ _ _ (⟨0, 2⟩ : S83) [.int .i64 0, .int .i64 2] from (k83_mkM _ _ _ (⟨0, 2⟩ : S83) )) (Reps.c2 (show Kd.M k83 _ _ _ (⟨1, 2⟩ : S83) [.int .i64 1, .int .i64 2] from (k83_mkM _ _ _ (⟨1, 2⟩ : S83) )) (Reps.none _ _))))); intro v122 w2 ho3 hb hg_ hnew_; clear hg_ hnew_; (first | rw [← Ny121.out] at ho3 | (simp only [Int.reduceToNat] at ho3; rw [← Ny121.out] at ho3)); have n0_ := Aside0.mk (Kd.R_lower ho3 (below_size z10_)); have n1_ := Aside0.mk (below_step z10_ hb); clear HB; have HO123 := n0_; have HB := n1_; clear n0_ n1_; clear hb ho3; obtain ⟨Ao4, co4, eo4⟩ := Kd.R_slice HO123.out; subst eo4))
 go_loopg [13] k (fun kq v13 w' => ∃ (x13_1 : Int), v13 = .int .i64 x13_1 ∧ Aside0 (impl_sharedPrime.l0 kq l0 y121 (y121.length : Int) x13_1 = some (r1, r2, r3)) ∧ Aside0 (kq ≤ k) ∧ Aside0 (Kd.R k83 83 w' w.heap.size (fun _ => True) (.slice Ao4 y121.length co4) y121) ∧ Aside0 (Below w.heap.size w w'))
 case atStart => exact ⟨(0), z22_, H', ⟨Nat.le_refl _⟩, ⟨by (with_reducible repeat (first | apply Kd.R_alloc | apply Kd.R_drewN | apply Kd.R_drew)); exact HO123.out⟩, ⟨z10_⟩⟩
 case round =>
  clear H'
  try clear c2
  try clear p2
  obtain ⟨x13_1, rfl, HA, HK1, HO_11, HB⟩ := hrel
  cases gk with
  | zero => exact absurd HA.out (by simp [impl_sharedPrime.l0])
  | succ k1 =>
   have H := HA.out
   clear HA
   simp only [impl_sharedPrime.l0] at H
   by_cases c5 : x13_1 < (y121.length : Int)
   · rw [if_pos c5] at H
     have c5b0 : decide (x13_1 < (y121.length : Int)) = true := decide_eq_true c5
     clear c5
     by_cases c6 : 0 ≤ x13_1
     · rw [if_pos c6] at H
       have c6b0 : decide (0 ≤ x13_1) = true := decide_eq_true c6
       clear c6
       by_cases c7 : x13_1 < (y121.length : Int)
       · rw [if_pos c7] at H
         have c7b0 : decide (x13_1 < (y121.length : Int)) = true := decide_eq_true c7
         clear c7
         by_cases c8 : 0 ≤ ((rd_T83 y121 x13_1).f0)
         · rw [if_pos c8] at H
           have c8b0 : decide (0 ≤ ((rd_T83 y121 x13_1).f0)) = true := decide_eq_true c8
           clear c8
           by_cases c9 : ((rd_T83 y121 x13_1).f0) < (l0.length : Int)
           · rw [if_pos c9] at H
             have c9b0 : decide (((rd_T83 y121 x13_1).f0) < (l0.length : Int)) = true := decide_eq_true c9
             clear c9
             by_cases c10 : 0 ≤ ((rd_T83 y121 x13_1).f1)
             · rw [if_pos c10] at H
               have c10b0 : decide (0 ≤ ((rd_T83 y121 x13_1).f1)) = true := decide_eq_true c10
               clear c10
               by_cases c11 : ((rd_T83 y121 x13_1).f1) < (l0.length : Int)
               · rw [if_pos c11] at H
                 have c11b0 : decide (((rd_T83 y121 x13_1).f1) < (l0.length : Int)) = true := decide_eq_true c11
                 clear c11
                 obtain ⟨y128, hy128⟩ : ∃ y_ : List Int, y_ = (([rd l0 ((rd_T83 y121 x13_1).f0), rd l0 ((rd_T83 y121 x13_1).f1)] : List Int)) := ⟨_, rfl⟩
                 replace H : ((impl_gcd.f k1 y128).bind fun t131 => (if t131 > 1 then ((impl_primesOf.f k1 t131).bind fun t132 => (if 0 < (t132.length : Int) then (some ((rd_T83 y121 x13_1).f0, (rd_T83 y121 x13_1).f1, rd t132 0)) else (none))) else (impl_sharedPrime.l0 k1 l0 y121 (y121.length : Int) (wrap64 (x13_1 + 1))))) = some (r1, r2, r3) := by first | (rw [hy128]; with_reducible exact H) | (have H2_ := (Option.bind_some _ _).symm.trans H; rw [hy128]; with_reducible exact H2_) | (have H2_ := (Option.bind_some _ _).symm.trans H; with_reducible exact H2_) | with_reducible exact H | (rw [hy128]; exact H) | exact H
                 have Ny128 := Aside0.mk hy128
                 clear hy128
                 replace H := Option.bind_eq_some_iff.mp H
                 obtain ⟨t131, A120, H⟩ := H
                 replace H : (if t131 > 1 then ((impl_primesOf.f k1 t131).bind fun t132 => (if 0 < (t132.length : Int) then (some ((rd_T83 y121 x13_1).f0, (rd_T83 y121 x13_1).f1, rd t132 0)) else (none))) else (impl_sharedPrime.l0 k1 l0 y121 (y121.length : Int) (wrap64 (x13_1 + 1)))) = some (r1, r2, r3) := H
                 have A12 := Aside0.mk A120
                 clear A120
                 by_cases c13 : t131 > 1
                 · rw [if_pos c13] at H
                   have c13b0 : decide (1 < t131) = true := decide_eq_true c13
                   clear c13
                   replace H := Option.bind_eq_some_iff.mp H
                   obtain ⟨t132, A140, H⟩ := H
                   replace H : (if 0 < (t132.length : Int) then (some ((rd_T83 y121 x13_1).f0, (rd_T83 y121 x13_1).f1, rd t132 0)) else (none)) = some (r1, r2, r3) := H
                   have A14 := Aside0.mk A140
                   clear A140
                   by_cases c15 : 0 < (t132.length : Int)
                   · rw [if_pos c15] at H
                     have c15b0 : decide (0 < (t132.length : Int)) = true := decide_eq_true c15
                     have c15b1 : decide (0 < t132.length) = true := decide_eq_true (by omega)
                     clear c15
                     simp only [Option.some.injEq, Prod.mk.injEq] at H
                     obtain ⟨rfl, rfl, rfl⟩ := H
                     have p124 : 0 ≤ (x13_1 : Int) := of_decide_eq_true z21_
                     have q124 : x13_1 < (y121.length : Int) := of_decide_eq_true z21_
                     obtain ⟨ad124, e124, hx124_0, hx124_1⟩ := at_T83 (Kd.R_reads' HO_11.out).2.2 x13_1 p124 q124
                     cases e124
                     replace p124 := eq_true p124
                     replace q124 := eq_true q124
                     try go_wp2_with (first | ((with_reducible refine gate_dst (N := 6) rfl ?_); refine box_event ?hg (N := 6) ?hd (cs := #[.int .i64 0, .int .i64 0]) (t := 83) ?hr ?_; (case hd => rfl); (case hg => rfl); (case hr => first | (go_simp; done) | (go_simp; rfl)); intro gb125 hg w16 hbox hb; have n0_ := Aside0.mk (Kd.R_below (Kd.R_elderB z12_ gb125 (Nat.le_of_eq hg.symm)) hb); have n1_ := Aside0.mk (below_step z10_ hb); have n2_ := Aside0.mk (hbox); have n3_ := Aside0.mk ((by rw [hg]; exact (below_size z10_) : w.heap.size ≤ gb125)); have n4_ := Aside0.mk ((by rw [hg]; exact (below_size z10_) : w.heap.size ≤ gb125)); clear HO_11; clear HB; have HO_11 := n0_; have HB := n1_; have BK125 := n2_; have GW125 := n3_; have GE125 := n4_; clear n0_ n1_ n2_ n3_ n4_; clear hb hbox hg; have hcz17_0 : w16.cell? ⟨gb125, 0, none⟩ = some (.int .i64 0) := (blk_cell BK125.out 0).trans rfl; have hcz17_1 : w16.cell? ⟨gb125, 1, none⟩ = some (.int .i64 0) := (blk_cell BK125.out 1).trans rfl; have hfz17_0 := blk_frozen BK125.out 0; have hfz17_1 := blk_frozen BK125.out 1))
                     have n0_ : Aside0 (Kd.R k83 83 ((w16.setCell ⟨gb125, 0, none⟩ (.int .i64 ((rd_T83 y121 x13_1).f0))).setCell ⟨gb125, 1, none⟩ (.int .i64 ((rd_T83 y121 x13_1).f1))) w.heap.size (fun k_ => k_ ≠ gb125) (.slice (some ad124) y121.length co4) y121) := ⟨by (with_reducible repeat (first | apply Kd.R_alloc | apply Kd.R_drewN | apply Kd.R_drew)); exact Kd.R_mono (Kd.R_far (p := ⟨gb125, 1, none⟩) (Kd.R_far (p := ⟨gb125, 0, none⟩) (Kd.R_mono HO_11.out (fun k_ hk => (⟨hk, hk.2⟩ : _ ∧ k_ ≠ gb125))) (fun _ hk => hk.2) (.int .i64 ((rd_T83 y121 x13_1).f0))) (fun _ hk => hk.2) (.int .i64 ((rd_T83 y121 x13_1).f1))) (fun _ hk => hk.1.2)⟩
                     have n1_ : Aside0 (((w16.setCell ⟨gb125, 0, none⟩ (.int .i64 ((rd_T83 y121 x13_1).f0))).setCell ⟨gb125, 1, none⟩ (.int .i64 ((rd_T83 y121 x13_1).f1))).heap[gb125]? = some (.cells #[.int .i64 ((rd_T83 y121 x13_1).f0), .int .i64 ((rd_T83 y121 x13_1).f1)] 83 (0, 0))) := ⟨by (with_reducible repeat (first | refine blk_drewN ?_ _ | refine blk_drew ?_ | refine blk_alloc ?_ _)); refine blk_put (cs := #[.int .i64 ((rd_T83 y121 x13_1).f0), .int .i64 0]) ?_ 1 _ rfl; (with_reducible repeat (first | refine blk_drewN ?_ _ | refine blk_drew ?_ | refine blk_alloc ?_ _)); refine blk_put (cs := #[.int .i64 0, .int .i64 0]) ?_ 0 _ rfl; (with_reducible repeat (first | refine blk_drewN ?_ _ | refine blk_drew ?_ | refine blk_alloc ?_ _)); exact BK125.out⟩
                     have n2_ : Aside0 (Below w.heap.size w ((w16.setCell ⟨gb125, 0, none⟩ (.int .i64 ((rd_T83 y121 x13_1).f0))).setCell ⟨gb125, 1, none⟩ (.int .i64 ((rd_T83 y121 x13_1).f1)))) := ⟨z3_⟩
                     (try clear HO_11)
                     (try clear BK125)
                     (try clear HB)
                     generalize ((w16.setCell ⟨gb125, 0, none⟩ (.int .i64 ((rd_T83 y121 x13_1).f0))).setCell ⟨gb125, 1, none⟩ (.int .i64 ((rd_T83 y121 x13_1).f1))) = w18 at n0_ n1_ n2_ ⊢
                     have HO_11 := n0_
                     have BK125 := n1_
                     have HB := n2_
                     clear n0_ n1_ n2_
                     have n0_ := Aside0.mk (Kd.R_drew HO_11.out)
                     have n1_ := Aside0.mk (blk_drew BK125.out)
                     have n2_ := Aside0.mk (below_drew1 HB.out)
                     clear HO_11
                     clear BK125
                     clear HB
                     have HO_11 := n0_
                     have BK125 := n1_
                     have HB := n2_
                     clear n0_ n1_ n2_
                     have p126 : 0 ≤ (((rd_T83 y121 x13_1).f0) : Int) := of_decide_eq_true z21_
                     have q126 : ((rd_T83 y121 x13_1).f0) < (l0.length : Int) := of_decide_eq_true z21_
                     obtain ⟨ad126, e126, hx126_0⟩ := Kd.at_int HR0.out ((rd_T83 y121 x13_1).f0) p126 q126
                     have hw126_0 := hx126_0
                     cases e126
                     replace hx126_0 := (HB.out.cell (World.block_lt_of_cell? w _ hx126_0)).trans hx126_0
                     replace p126 := eq_true p126
                     replace q126 := eq_true q126
                     have p127 : 0 ≤ (((rd_T83 y121 x13_1).f1) : Int) := of_decide_eq_true z21_
                     have q127 : ((rd_T83 y121 x13_1).f1) < (l0.length : Int) := of_decide_eq_true z21_
                     obtain ⟨ad127, e127, hx127_0⟩ := Kd.at_int HR0.out ((rd_T83 y121 x13_1).f1) p127 q127
                     have hw127_0 := hx127_0
                     obtain rfl : ad126 = ad127 := (by injection e127)
                     replace hx127_0 := (HB.out.cell (World.block_lt_of_cell? w _ hx127_0)).trans hx127_0
                     replace p127 := eq_true p127
                     replace q127 := eq_true q127
                     refine start_ (n := 13) (S := fun w' => w'.cell? ⟨gb125, 0, none⟩ = some (.int .i64 ((rd_T83 y121 x13_1).f0)) ∧ w'.cell? ⟨gb125, 1, none⟩ = some (.int .i64 ((rd_T83 y121 x13_1).f1)) ∧ w'.cell? (ad126.add (((rd_T83 y121 x13_1).f0)).toNat) = some (.int .i64 (rd l0 ((rd_T83 y121 x13_1).f0))) ∧ w'.cell? (ad126.add (((rd_T83 y121 x13_1).f1)).toNat) = some (.int .i64 (rd l0 ((rd_T83 y121 x13_1).f1)))) (ds := []) #[false, false, false, false, false, false, false, false, false, false, false, false, false] (by kernel_rfl) rfl rfl ⟨(blk_cell BK125.out 0).trans rfl, (blk_cell BK125.out 1).trans rfl, ((HB.out.cell (World.block_lt_of_cell? w _ hw126_0)).trans hw126_0), ((HB.out.cell (World.block_lt_of_cell? w _ hw127_0)).trans hw127_0)⟩ (fun hHeld => ?_); refine with_tabW impl_sharedPrime.tab4 impl_sharedPrime.bits4 (fun HT_ HW_ => ?_)
                     generalize w18.drew = w19 at HO_11 BK125 HB hx126_0 hx127_0 hHeld ⊢
                     refine pure_ (i := 0) (N := some 17) (v := ?_) (a' := ?_) #[true, false, false, false, false, false, false, false, false, false, false, false, false] rfl rfl (any_of HT_.out (by kernel_rfl)) (fun _ _ _ h => h) (Or.inl ⟨by rfl, ?_⟩) ?_ ?_
                     rotate_left
                     · intro w'
                       go_simp
                       with_reducible rfl
                     rotate_left
                     · simp only [Act.put, List.setIfInBounds_toArray, List.set_cons_zero, List.set_cons_succ, i64_w, i32_w]
                       rfl
                     refine pure_ (i := 1) (N := some 18) (v := ?_) (a' := ?_) #[true, true, false, false, false, false, false, false, false, false, false, false, false] rfl rfl (any_of HT_.out (by kernel_rfl)) (fun _ _ _ h => h) (Or.inl ⟨by rfl, ?_⟩) ?_ ?_
                     rotate_left
                     · intro w'
                       go_simp
                       with_reducible rfl
                     rotate_left
                     · simp only [Act.put, List.setIfInBounds_toArray, List.set_cons_zero, List.set_cons_succ, i64_w, i32_w]
                       rfl
                     refine pure_ (i := 5) (N := some 22) (v := ?_) (a' := ?_) #[true, true, false, false, false, true, false, false, false, false, false, false, false] rfl rfl (any_of HT_.out (by kernel_rfl)) (fun _ _ _ h => h) (Or.inl ⟨by rfl, ?_⟩) ?_ ?_
                     rotate_left
                     · intro w'
                       go_simp
                       with_reducible rfl
                     rotate_left
                     · simp only [Act.put, List.setIfInBounds_toArray, List.set_cons_zero, List.set_cons_succ, i64_w, i32_w]
                       rfl
                     refine pure_ (i := 6) (N := some 23) (v := ?_) (a' := ?_) #[true, true, false, false, false, true, true, false, false, false, false, false, false] rfl rfl (any_of HT_.out (by kernel_rfl)) (fun _ _ _ h => h) (Or.inl ⟨by rfl, ?_⟩) ?_ ?_
                     rotate_left
                     · intro w'
                       go_simp
                       with_reducible rfl
                     rotate_left
                     · simp only [Act.put, List.setIfInBounds_toArray, List.set_cons_zero, List.set_cons_succ, i64_w, i32_w]
                       rfl
                     refine take_ (i := 2) (N := some 19) (v := ?_) (a' := ?_) #[true, true, true, false, false, true, true, false, false, false, false, false, false] rfl rfl (take_ofW HT_.out HW_.out (by kernel_rfl)) (fun _ _ _ h => h) (Or.inl ⟨by rfl, ?_⟩) hHeld ?_ ?_
                     rotate_left
                     · rintro w' ⟨s0, s1, s2, s3⟩
                       go_simp
                       with_reducible rfl
                     rotate_left
                     · simp only [Act.put, List.setIfInBounds_toArray, List.set_cons_zero, List.set_cons_succ, i64_w, i32_w]
                       rfl
                     refine pure_ (i := 3) (N := some 20) (v := ?_) (a' := ?_) #[true, true, true, true, false, true, true, false, false, false, false, false, false] rfl rfl (any_of HT_.out (by kernel_rfl)) (fun _ _ _ h => h) (Or.inl ⟨by rfl, ?_⟩) ?_ ?_
                     rotate_left
                     · intro w'
                       go_simp
                       with_reducible rfl
                     rotate_left
                     · simp only [Act.put, List.setIfInBounds_toArray, List.set_cons_zero, List.set_cons_succ, i64_w, i32_w]
                       rfl
                     refine take_ (i := 4) (N := some 21) (v := ?_) (a' := ?_) #[true, true, true, true, true, true, true, false, false, false, false, false, false] rfl rfl (take_ofW HT_.out HW_.out (by kernel_rfl)) (fun _ _ _ h => h) (Or.inl ⟨by rfl, ?_⟩) hHeld ?_ ?_
                     rotate_left
                     · rintro w' ⟨s0, s1, s2, s3⟩
                       go_simp
                       with_reducible rfl
                     rotate_left
                     · simp only [Act.put, List.setIfInBounds_toArray, List.set_cons_zero, List.set_cons_succ, i64_w, i32_w]
                       rfl
                     refine take_ (i := 7) (N := some 24) (v := ?_) (a' := ?_) #[true, true, true, true, true, true, true, true, false, false, false, false, false] rfl rfl (take_ofW HT_.out HW_.out (by kernel_rfl)) (fun _ _ _ h => h) (Or.inl ⟨by rfl, ?_⟩) hHeld ?_ ?_
                     rotate_left
                     · rintro w' ⟨s0, s1, s2, s3⟩
                       go_simp
                       with_reducible rfl
                     rotate_left
                     · simp only [Act.put, List.setIfInBounds_toArray, List.set_cons_zero, List.set_cons_succ, i64_w, i32_w]
                       rfl
                     refine pure_ (i := 8) (N := some 25) (v := ?_) (a' := ?_) #[true, true, true, true, true, true, true, true, true, false, false, false, false] rfl rfl (any_of HT_.out (by kernel_rfl)) (fun _ _ _ h => h) (Or.inl ⟨by rfl, ?_⟩) ?_ ?_
                     rotate_left
                     · intro w'
                       go_simp
                       with_reducible rfl
                     rotate_left
                     · simp only [Act.put, List.setIfInBounds_toArray, List.set_cons_zero, List.set_cons_succ, i64_w, i32_w]
                       rfl
                     refine take_ (i := 9) (N := some 26) (v := ?_) (a' := ?_) #[true, true, true, true, true, true, true, true, true, true, false, false, false] rfl rfl (take_ofW HT_.out HW_.out (by kernel_rfl)) (fun _ _ _ h => h) (Or.inl ⟨by rfl, ?_⟩) hHeld ?_ ?_
                     rotate_left
                     · rintro w' ⟨s0, s1, s2, s3⟩
                       go_simp
                       with_reducible rfl
                     rotate_left
                     · simp only [Act.put, List.setIfInBounds_toArray, List.set_cons_zero, List.set_cons_succ, i64_w, i32_w]
                       rfl
                     refine one_ (i := 10) (N := some 27) #[true, true, true, true, true, true, true, true, true, true, true, false, false] rfl rfl (one_of HT_.out (by kernel_rfl)) (by decide) (fun K hK => ?_)
                     refine Kd.R_lit_step (Kd.int .i64) _ 3 ?hg (N := 27) ?hd (xs := ([rd l0 ((rd_T83 y121 x13_1).f0), rd l0 ((rd_T83 y121 x13_1).f1)] : List Int)) (inner := [.int .i64 (rd l0 ((rd_T83 y121 x13_1).f0)), .int .i64 (rd l0 ((rd_T83 y121 x13_1).f1))]) (ok := fun _ => True) (okp := fun _ => True) ?hr ?hp (fun _ hk => hk) trivial (Below.refl _ _) (Nat.le_refl _) (by simp) ?_; (case hd => rfl); (case hg => rfl); (case hr => first | (go_simp; done) | (go_simp; rfl)); (case hp => exact (Reps.one (show Kd.M (Kd.int .i64) _ _ _ (rd l0 ((rd_T83 y121 x13_1).f0)) [.int .i64 (rd l0 ((rd_T83 y121 x13_1).f0))] from rfl) (Reps.one (show Kd.M (Kd.int .i64) _ _ _ (rd l0 ((rd_T83 y121 x13_1).f1)) [.int .i64 (rd l0 ((rd_T83 y121 x13_1).f1))] from rfl) (Reps.none _ _))))
                     intro v129 w20 ho21 hb hg_ hnew_
                     clear hg_ hnew_
                     (first | rw [← Ny128.out] at ho21 | (simp only [Int.reduceToNat] at ho21; rw [← Ny128.out] at ho21))
                     have n0_ := Aside0.mk (Kd.R_below z12_ hb)
                     have n1_ := Aside0.mk (Kd.R_lower ho21 (below_size z3_))
                     have n2_ := Aside0.mk (blk_below (g := gb125) (o := .cells #[.int .i64 ((rd_T83 y121 x13_1).f0), .int .i64 ((rd_T83 y121 x13_1).f1)] 83 (0, 0)) (by (with_reducible repeat (first | refine blk_drewN ?_ _ | refine blk_drew ?_ | refine blk_alloc ?_ _)); exact BK125.out) hb)
                     have n3_ := Aside0.mk (below_step z3_ hb)
                     clear HO_11
                     clear BK125
                     clear HB
                     have HO_11 := n0_
                     have HO130 := n1_
                     have BK125 := n2_
                     have HB := n3_
                     clear n0_ n1_ n2_ n3_
                     clear hb ho21
                     obtain ⟨Ao22, co22, eo22⟩ := Kd.R_slice HO130.out
                     (first | subst eo22 | (injection eo22 with f1_ f2_ f3_; have f4_ := f1_.symm; have f5_ := f3_.symm; clear f1_ f2_ f3_; subst f4_; subst f5_))
                     refine hK.out _ _ ⟨(blk_cell BK125.out 0).trans rfl, (blk_cell BK125.out 1).trans rfl, ((HB.out.cell (World.block_lt_of_cell? w _ hw126_0)).trans hw126_0), ((HB.out.cell (World.block_lt_of_cell? w _ hw127_0)).trans hw127_0)⟩ (fun hHeld => ?_)
                     clear hK K
                     refine norm_ (a' := ?_) ?_ ?_
                     rotate_left
                     · show Act.put _ (some 27) _ = _
                       simp only [Act.put, List.setIfInBounds_toArray, List.set_cons_zero, List.set_cons_succ, i64_w, i32_w]
                       rfl
                     refine one_ (i := 11) (N := some 28) #[true, true, true, true, true, true, true, true, true, true, true, true, false] rfl rfl (one_of HT_.out (by kernel_rfl)) (by decide) (fun K hK => ?_)
                     refine goes_ Try.func79 (by kernel_rfl) rfl #[.slice Ao22 y128.length co22] (by rfl) rfl rfl z8_ ?_
                     with_reducible refine (impl_gcd.calls k1 _ _ y128 t131 _ ?side1 ?side2 A12.out).mono ?_
                     (case side1 => repeat (first | exact (Kd.R_reads' HO130.out).2.2 | (with_reducible refine Kd.C_alloc ?_ _) | (with_reducible refine Kd.C_drewN ?_ _) | (with_reducible refine Kd.C_drew ?_)))
                     (case side2 => exact (Kd.R_reads' HO130.out).2.1)
                     rintro e w23 ⟨rfl, hb⟩
                     refine ⟨_, rfl, ?_⟩
                     have n0_ := Aside0.mk (Kd.R_below z12_ hb)
                     have n1_ := Aside0.mk (Kd.R_below z13_ hb)
                     have n2_ := Aside0.mk (blk_below (g := gb125) (o := .cells #[.int .i64 ((rd_T83 y121 x13_1).f0), .int .i64 ((rd_T83 y121 x13_1).f1)] 83 (0, 0)) (by (with_reducible repeat (first | refine blk_drewN ?_ _ | refine blk_drew ?_ | refine blk_alloc ?_ _)); exact BK125.out) hb)
                     have n3_ := Aside0.mk (below_step z3_ hb)
                     clear HO_11
                     clear HO130
                     clear BK125
                     clear HB
                     have HO_11 := n0_
                     have HO130 := n1_
                     have BK125 := n2_
                     have HB := n3_
                     clear n0_ n1_ n2_ n3_
                     (try clear hb)
                     (try clear hb2)
                     (try clear hk)
                     (try clear hi)
                     refine hK.out _ _ ⟨(blk_cell BK125.out 0).trans rfl, (blk_cell BK125.out 1).trans rfl, ((HB.out.cell (World.block_lt_of_cell? w _ hw126_0)).trans hw126_0), ((HB.out.cell (World.block_lt_of_cell? w _ hw127_0)).trans hw127_0)⟩ (fun hHeld => ?_)
                     clear hK K
                     refine norm_ (a' := ?_) ?_ ?_
                     rotate_left
                     · show Act.put _ (some 28) _ = _
                       simp only [Act.put, List.setIfInBounds_toArray, List.set_cons_zero, List.set_cons_succ, i64_w, i32_w]
                       rfl
                     refine pure_ (i := 12) (N := some 7) (v := ?_) (a' := ?_) #[true, true, true, true, true, true, true, true, true, true, true, true, true] rfl rfl (any_of HT_.out (by kernel_rfl)) (fun _ _ _ h => h) (Or.inl ⟨by rfl, ?_⟩) ?_ ?_
                     rotate_left
                     · intro w'
                       go_simp
                       with_reducible rfl
                     rotate_left
                     · simp only [Act.put, List.setIfInBounds_toArray, List.set_cons_zero, List.set_cons_succ, i64_w, i32_w]
                       rfl
                     refine done_ (done_of HT_.out (by kernel_rfl)) ?_
                     try go_wp2
                     have n0_ := Aside0.mk (Kd.R_drew HO_11.out)
                     have n1_ := Aside0.mk (Kd.R_drew HO130.out)
                     have n2_ := Aside0.mk (blk_drew BK125.out)
                     have n3_ := Aside0.mk (below_drew1 HB.out)
                     clear HO_11
                     clear HO130
                     clear BK125
                     clear HB
                     have HO_11 := n0_
                     have HO130 := n1_
                     have BK125 := n2_
                     have HB := n3_
                     clear n0_ n1_ n2_ n3_
                     refine start_ (n := 11) (S := fun w' => w'.cell? ⟨gb125, 0, none⟩ = some (.int .i64 ((rd_T83 y121 x13_1).f0)) ∧ w'.cell? ⟨gb125, 1, none⟩ = some (.int .i64 ((rd_T83 y121 x13_1).f1))) (ds := []) #[false, false, false, false, false, false, false, false, false, false, false] (by kernel_rfl) rfl rfl ⟨(blk_cell BK125.out 0).trans rfl, (blk_cell BK125.out 1).trans rfl⟩ (fun hHeld => ?_); refine with_tabW impl_sharedPrime.tab6 impl_sharedPrime.bits6 (fun HT_ HW_ => ?_)
                     generalize w23.drew = w24 at HO_11 HO130 BK125 HB hHeld ⊢
                     refine pure_ (i := 0) (N := some 31) (v := ?_) (a' := ?_) #[true, false, false, false, false, false, false, false, false, false, false] rfl rfl (any_of HT_.out (by kernel_rfl)) (fun _ _ _ h => h) (Or.inl ⟨by rfl, ?_⟩) ?_ ?_
                     rotate_left
                     · intro w'
                       go_simp
                       with_reducible rfl
                     rotate_left
                     · simp only [Act.put, List.setIfInBounds_toArray, List.set_cons_zero, List.set_cons_succ, i64_w, i32_w]
                       rfl
                     refine pure_ (i := 2) (N := some 33) (v := ?_) (a' := ?_) #[true, false, true, false, false, false, false, false, false, false, false] rfl rfl (any_of HT_.out (by kernel_rfl)) (fun _ _ _ h => h) (Or.inl ⟨by rfl, ?_⟩) ?_ ?_
                     rotate_left
                     · intro w'
                       go_simp
                       with_reducible rfl
                     rotate_left
                     · simp only [Act.put, List.setIfInBounds_toArray, List.set_cons_zero, List.set_cons_succ, i64_w, i32_w]
                       rfl
                     refine pure_ (i := 4) (N := some 35) (v := ?_) (a' := ?_) #[true, false, true, false, true, false, false, false, false, false, false] rfl rfl (any_of HT_.out (by kernel_rfl)) (fun _ _ _ h => h) (Or.inl ⟨by rfl, ?_⟩) ?_ ?_
                     rotate_left
                     · intro w'
                       go_simp
                       with_reducible rfl
                     rotate_left
                     · simp only [Act.put, List.setIfInBounds_toArray, List.set_cons_zero, List.set_cons_succ, i64_w, i32_w]
                       rfl
                     refine take_ (i := 1) (N := some 32) (v := ?_) (a' := ?_) #[true, true, true, false, true, false, false, false, false, false, false] rfl rfl (take_ofW HT_.out HW_.out (by kernel_rfl)) (fun _ _ _ h => h) (Or.inl ⟨by rfl, ?_⟩) hHeld ?_ ?_
                     rotate_left
                     · rintro w' ⟨s0, s1⟩
                       go_simp
                       with_reducible rfl
                     rotate_left
                     · simp only [Act.put, List.setIfInBounds_toArray, List.set_cons_zero, List.set_cons_succ, i64_w, i32_w]
                       rfl
                     refine take_ (i := 3) (N := some 34) (v := ?_) (a' := ?_) #[true, true, true, true, true, false, false, false, false, false, false] rfl rfl (take_ofW HT_.out HW_.out (by kernel_rfl)) (fun _ _ _ h => h) (Or.inl ⟨by rfl, ?_⟩) hHeld ?_ ?_
                     rotate_left
                     · rintro w' ⟨s0, s1⟩
                       go_simp
                       with_reducible rfl
                     rotate_left
                     · simp only [Act.put, List.setIfInBounds_toArray, List.set_cons_zero, List.set_cons_succ, i64_w, i32_w]
                       rfl
                     refine one_ (i := 5) (N := some 36) #[true, true, true, true, true, true, false, false, false, false, false] rfl rfl (one_of HT_.out (by kernel_rfl)) (by decide) (fun K hK => ?_)
                     refine goes_ Try.func110 (by kernel_rfl) rfl #[.int .i64 t131] (by rfl) rfl rfl z8_ ?_
                     with_reducible refine (impl_primesOf.calls k1 t131 t132 _ A14.out).mono ?_
                     rintro e w25 ⟨v133, rfl, ho0, hb⟩
                     refine ⟨_, rfl, ?_⟩
                     have n0_ := Aside0.mk (Kd.R_below z12_ hb)
                     have n1_ := Aside0.mk (Kd.R_elder' z13_ (Kd.R_base ho0) hb)
                     have n2_ := Aside0.mk (Kd.R_lower (Kd.R_new' ho0 (Kd.R_lt z13_)) (below_size z3_))
                     have n3_ := Aside0.mk (blk_below (g := gb125) (o := .cells #[.int .i64 ((rd_T83 y121 x13_1).f0), .int .i64 ((rd_T83 y121 x13_1).f1)] 83 (0, 0)) (by (with_reducible repeat (first | refine blk_drewN ?_ _ | refine blk_drew ?_ | refine blk_alloc ?_ _)); exact BK125.out) hb)
                     have n4_ := Aside0.mk (below_step z3_ hb)
                     clear HO_11
                     clear HO130
                     clear BK125
                     clear HB
                     have HO_11 := n0_
                     have HO130 := n1_
                     have HO134 := n2_
                     have BK125 := n3_
                     have HB := n4_
                     clear n0_ n1_ n2_ n3_ n4_
                     (try clear hb)
                     (try clear hb2)
                     (try clear hk)
                     (try clear hi)
                     (try clear ho0)
                     obtain ⟨Ao26, co26, eo26⟩ := Kd.R_slice HO134.out
                     (first | subst eo26 | (injection eo26 with f1_ f2_ f3_; have f4_ := f1_.symm; have f5_ := f3_.symm; clear f1_ f2_ f3_; subst f4_; subst f5_))
                     have p135 : 0 ≤ (0 : Int) := (by omega)
                     have q135 : 0 < (t132.length : Int) := of_decide_eq_true z21_
                     obtain ⟨ad135, e135, hx135_0⟩ := Kd.at_int (Kd.R_reads' HO134.out).2.2 0 p135 q135
                     cases e135
                     have qi135 : (0 < t132.length) = True := eq_true (by omega)
                     (try rw [show ((0 : Int)).toNat = 0 from rfl] at hx135_0)
                     (try rw [Addr.add_zero'] at hx135_0)
                     replace p135 := eq_true p135
                     replace q135 := eq_true q135
                     refine hK.out _ _ ⟨(blk_cell BK125.out 0).trans rfl, (blk_cell BK125.out 1).trans rfl⟩ (fun hHeld0 => ?_)
                     refine swap_ (S' := fun w' => w'.cell? ⟨gb125, 0, none⟩ = some (.int .i64 ((rd_T83 y121 x13_1).f0)) ∧ w'.cell? ⟨gb125, 1, none⟩ = some (.int .i64 ((rd_T83 y121 x13_1).f1)) ∧ w'.cell? ad135 = some (.int .i64 (rd t132 0))) (fun _ h_ => ⟨h_.1, h_.2.1⟩) _ _ _ _ ⟨hHeld0.1, hHeld0.2, hx135_0⟩ ?_
                     have hHeld := (⟨hHeld0.1, hHeld0.2, hx135_0⟩ : _ ∧ _ ∧ _)
                     clear hK K
                     refine norm_ (a' := ?_) ?_ ?_
                     rotate_left
                     · show Act.put _ (some 36) _ = _
                       simp only [Act.put, List.setIfInBounds_toArray, List.set_cons_zero, List.set_cons_succ, i64_w, i32_w]
                       rfl
                     refine pure_ (i := 6) (N := some 37) (v := ?_) (a' := ?_) #[true, true, true, true, true, true, true, false, false, false, false] rfl rfl (any_of HT_.out (by kernel_rfl)) (fun _ _ _ h => h) (Or.inl ⟨by rfl, ?_⟩) ?_ ?_
                     rotate_left
                     · intro w'
                       go_simp
                       with_reducible rfl
                     rotate_left
                     · simp only [Act.put, List.setIfInBounds_toArray, List.set_cons_zero, List.set_cons_succ, i64_w, i32_w]
                       rfl
                     refine pure_ (i := 8) (N := some 2) (v := ?_) (a' := ?_) #[true, true, true, true, true, true, true, false, true, false, false] rfl rfl (any_of HT_.out (by kernel_rfl)) (fun _ _ _ h => h) (Or.inl ⟨by rfl, ?_⟩) ?_ ?_
                     rotate_left
                     · intro w'
                       go_simp
                       with_reducible rfl
                     rotate_left
                     · simp only [Act.put, List.setIfInBounds_toArray, List.set_cons_zero, List.set_cons_succ, i64_w, i32_w]
                       rfl
                     refine pure_ (i := 9) (N := some 3) (v := ?_) (a' := ?_) #[true, true, true, true, true, true, true, false, true, true, false] rfl rfl (any_of HT_.out (by kernel_rfl)) (fun _ _ _ h => h) (Or.inl ⟨by rfl, ?_⟩) ?_ ?_
                     rotate_left
                     · intro w'
                       go_simp
                       with_reducible rfl
                     rotate_left
                     · simp only [Act.put, List.setIfInBounds_toArray, List.set_cons_zero, List.set_cons_succ, i64_w, i32_w]
                       rfl
                     refine take_ (i := 7) (N := some 38) (v := ?_) (a' := ?_) #[true, true, true, true, true, true, true, true, true, true, false] rfl rfl (take_ofW HT_.out HW_.out (by kernel_rfl)) (fun _ _ _ h => h) (Or.inl ⟨by rfl, ?_⟩) hHeld ?_ ?_
                     rotate_left
                     · rintro w' ⟨s0, s1, s2⟩
                       go_simp
                       with_reducible rfl
                     rotate_left
                     · simp only [Act.put, List.setIfInBounds_toArray, List.set_cons_zero, List.set_cons_succ, i64_w, i32_w]
                       rfl
                     refine pure_ (i := 10) (N := some 4) (v := ?_) (a' := ?_) #[true, true, true, true, true, true, true, true, true, true, true] rfl rfl (any_of HT_.out (by kernel_rfl)) (fun _ _ _ h => h) (Or.inl ⟨by rfl, ?_⟩) ?_ ?_
                     rotate_left
                     · intro w'
                       go_simp
                       with_reducible rfl
                     rotate_left
                     · simp only [Act.put, List.setIfInBounds_toArray, List.set_cons_zero, List.set_cons_succ, i64_w, i32_w]
                       rfl
                     refine done_ (done_of HT_.out (by kernel_rfl)) ?_
                     try go_wp2
                     go_ret3
                     exact ⟨z19_, z3_⟩
                   · rw [if_neg c15] at H
                     exact absurd H (by simp)
                 · rw [if_neg c13] at H
                   have c13b0 : decide (1 < t131) = false := decide_eq_false c13
                   clear c13
                   have H' := Aside0.mk H
                   clear H
                   have p124 : 0 ≤ (x13_1 : Int) := of_decide_eq_true z21_
                   have q124 : x13_1 < (y121.length : Int) := of_decide_eq_true z21_
                   obtain ⟨ad124, e124, hx124_0, hx124_1⟩ := at_T83 (Kd.R_reads' HO_11.out).2.2 x13_1 p124 q124
                   cases e124
                   replace p124 := eq_true p124
                   replace q124 := eq_true q124
                   try go_wp2_with (first | ((with_reducible refine gate_dst (N := 6) rfl ?_); refine box_event ?hg (N := 6) ?hd (cs := #[.int .i64 0, .int .i64 0]) (t := 83) ?hr ?_; (case hd => rfl); (case hg => rfl); (case hr => first | (go_simp; done) | (go_simp; rfl)); intro gb125 hg w27 hbox hb; have n0_ := Aside0.mk (Kd.R_below (Kd.R_elderB z12_ gb125 (Nat.le_of_eq hg.symm)) hb); have n1_ := Aside0.mk (below_step z10_ hb); have n2_ := Aside0.mk (hbox); have n3_ := Aside0.mk ((by rw [hg]; exact (below_size z10_) : w.heap.size ≤ gb125)); have n4_ := Aside0.mk ((by rw [hg]; exact (below_size z10_) : w.heap.size ≤ gb125)); clear HO_11; clear HB; have HO_11 := n0_; have HB := n1_; have BK125 := n2_; have GW125 := n3_; have GE125 := n4_; clear n0_ n1_ n2_ n3_ n4_; clear hb hbox hg; have hcz28_0 : w27.cell? ⟨gb125, 0, none⟩ = some (.int .i64 0) := (blk_cell BK125.out 0).trans rfl; have hcz28_1 : w27.cell? ⟨gb125, 1, none⟩ = some (.int .i64 0) := (blk_cell BK125.out 1).trans rfl; have hfz28_0 := blk_frozen BK125.out 0; have hfz28_1 := blk_frozen BK125.out 1))
                   have n0_ : Aside0 (Kd.R k83 83 ((w27.setCell ⟨gb125, 0, none⟩ (.int .i64 ((rd_T83 y121 x13_1).f0))).setCell ⟨gb125, 1, none⟩ (.int .i64 ((rd_T83 y121 x13_1).f1))) w.heap.size (fun k_ => k_ ≠ gb125) (.slice (some ad124) y121.length co4) y121) := ⟨by (with_reducible repeat (first | apply Kd.R_alloc | apply Kd.R_drewN | apply Kd.R_drew)); exact Kd.R_mono (Kd.R_far (p := ⟨gb125, 1, none⟩) (Kd.R_far (p := ⟨gb125, 0, none⟩) (Kd.R_mono HO_11.out (fun k_ hk => (⟨hk, hk.2⟩ : _ ∧ k_ ≠ gb125))) (fun _ hk => hk.2) (.int .i64 ((rd_T83 y121 x13_1).f0))) (fun _ hk => hk.2) (.int .i64 ((rd_T83 y121 x13_1).f1))) (fun _ hk => hk.1.2)⟩
                   have n1_ : Aside0 (((w27.setCell ⟨gb125, 0, none⟩ (.int .i64 ((rd_T83 y121 x13_1).f0))).setCell ⟨gb125, 1, none⟩ (.int .i64 ((rd_T83 y121 x13_1).f1))).heap[gb125]? = some (.cells #[.int .i64 ((rd_T83 y121 x13_1).f0), .int .i64 ((rd_T83 y121 x13_1).f1)] 83 (0, 0))) := ⟨by (with_reducible repeat (first | refine blk_drewN ?_ _ | refine blk_drew ?_ | refine blk_alloc ?_ _)); refine blk_put (cs := #[.int .i64 ((rd_T83 y121 x13_1).f0), .int .i64 0]) ?_ 1 _ rfl; (with_reducible repeat (first | refine blk_drewN ?_ _ | refine blk_drew ?_ | refine blk_alloc ?_ _)); refine blk_put (cs := #[.int .i64 0, .int .i64 0]) ?_ 0 _ rfl; (with_reducible repeat (first | refine blk_drewN ?_ _ | refine blk_drew ?_ | refine blk_alloc ?_ _)); exact BK125.out⟩
                   have n2_ : Aside0 (Below w.heap.size w ((w27.setCell ⟨gb125, 0, none⟩ (.int .i64 ((rd_T83 y121 x13_1).f0))).setCell ⟨gb125, 1, none⟩ (.int .i64 ((rd_T83 y121 x13_1).f1)))) := ⟨z3_⟩
                   (try clear HO_11)
                   (try clear BK125)
                   (try clear HB)
                   generalize ((w27.setCell ⟨gb125, 0, none⟩ (.int .i64 ((rd_T83 y121 x13_1).f0))).setCell ⟨gb125, 1, none⟩ (.int .i64 ((rd_T83 y121 x13_1).f1))) = w29 at n0_ n1_ n2_ ⊢
                   have HO_11 := n0_
                   have BK125 := n1_
                   have HB := n2_
                   clear n0_ n1_ n2_
                   have n0_ := Aside0.mk (Kd.R_drew HO_11.out)
                   have n1_ := Aside0.mk (blk_drew BK125.out)
                   have n2_ := Aside0.mk (below_drew1 HB.out)
                   clear HO_11
                   clear BK125
                   clear HB
                   have HO_11 := n0_
                   have BK125 := n1_
                   have HB := n2_
                   clear n0_ n1_ n2_
                   have p126 : 0 ≤ (((rd_T83 y121 x13_1).f0) : Int) := of_decide_eq_true z21_
                   have q126 : ((rd_T83 y121 x13_1).f0) < (l0.length : Int) := of_decide_eq_true z21_
                   obtain ⟨ad126, e126, hx126_0⟩ := Kd.at_int HR0.out ((rd_T83 y121 x13_1).f0) p126 q126
                   have hw126_0 := hx126_0
                   cases e126
                   replace hx126_0 := (HB.out.cell (World.block_lt_of_cell? w _ hx126_0)).trans hx126_0
                   replace p126 := eq_true p126
                   replace q126 := eq_true q126
                   have p127 : 0 ≤ (((rd_T83 y121 x13_1).f1) : Int) := of_decide_eq_true z21_
                   have q127 : ((rd_T83 y121 x13_1).f1) < (l0.length : Int) := of_decide_eq_true z21_
                   obtain ⟨ad127, e127, hx127_0⟩ := Kd.at_int HR0.out ((rd_T83 y121 x13_1).f1) p127 q127
                   have hw127_0 := hx127_0
                   obtain rfl : ad126 = ad127 := (by injection e127)
                   replace hx127_0 := (HB.out.cell (World.block_lt_of_cell? w _ hx127_0)).trans hx127_0
                   replace p127 := eq_true p127
                   replace q127 := eq_true q127
                   refine start_ (n := 13) (S := fun w' => w'.cell? ⟨gb125, 0, none⟩ = some (.int .i64 ((rd_T83 y121 x13_1).f0)) ∧ w'.cell? ⟨gb125, 1, none⟩ = some (.int .i64 ((rd_T83 y121 x13_1).f1)) ∧ w'.cell? (ad126.add (((rd_T83 y121 x13_1).f0)).toNat) = some (.int .i64 (rd l0 ((rd_T83 y121 x13_1).f0))) ∧ w'.cell? (ad126.add (((rd_T83 y121 x13_1).f1)).toNat) = some (.int .i64 (rd l0 ((rd_T83 y121 x13_1).f1)))) (ds := []) #[false, false, false, false, false, false, false, false, false, false, false, false, false] (by kernel_rfl) rfl rfl ⟨(blk_cell BK125.out 0).trans rfl, (blk_cell BK125.out 1).trans rfl, ((HB.out.cell (World.block_lt_of_cell? w _ hw126_0)).trans hw126_0), ((HB.out.cell (World.block_lt_of_cell? w _ hw127_0)).trans hw127_0)⟩ (fun hHeld => ?_); refine with_tabW impl_sharedPrime.tab4 impl_sharedPrime.bits4 (fun HT_ HW_ => ?_)
                   generalize w29.drew = w30 at HO_11 BK125 HB hx126_0 hx127_0 hHeld ⊢
                   refine pure_ (i := 0) (N := some 17) (v := ?_) (a' := ?_) #[true, false, false, false, false, false, false, false, false, false, false, false, false] rfl rfl (any_of HT_.out (by kernel_rfl)) (fun _ _ _ h => h) (Or.inl ⟨by rfl, ?_⟩) ?_ ?_
                   rotate_left
                   · intro w'
                     go_simp
                     with_reducible rfl
                   rotate_left
                   · simp only [Act.put, List.setIfInBounds_toArray, List.set_cons_zero, List.set_cons_succ, i64_w, i32_w]
                     rfl
                   refine pure_ (i := 1) (N := some 18) (v := ?_) (a' := ?_) #[true, true, false, false, false, false, false, false, false, false, false, false, false] rfl rfl (any_of HT_.out (by kernel_rfl)) (fun _ _ _ h => h) (Or.inl ⟨by rfl, ?_⟩) ?_ ?_
                   rotate_left
                   · intro w'
                     go_simp
                     with_reducible rfl
                   rotate_left
                   · simp only [Act.put, List.setIfInBounds_toArray, List.set_cons_zero, List.set_cons_succ, i64_w, i32_w]
                     rfl
                   refine pure_ (i := 5) (N := some 22) (v := ?_) (a' := ?_) #[true, true, false, false, false, true, false, false, false, false, false, false, false] rfl rfl (any_of HT_.out (by kernel_rfl)) (fun _ _ _ h => h) (Or.inl ⟨by rfl, ?_⟩) ?_ ?_
                   rotate_left
                   · intro w'
                     go_simp
                     with_reducible rfl
                   rotate_left
                   · simp only [Act.put, List.setIfInBounds_toArray, List.set_cons_zero, List.set_cons_succ, i64_w, i32_w]
                     rfl
                   refine pure_ (i := 6) (N := some 23) (v := ?_) (a' := ?_) #[true, true, false, false, false, true, true, false, false, false, false, false, false] rfl rfl (any_of HT_.out (by kernel_rfl)) (fun _ _ _ h => h) (Or.inl ⟨by rfl, ?_⟩) ?_ ?_
                   rotate_left
                   · intro w'
                     go_simp
                     with_reducible rfl
                   rotate_left
                   · simp only [Act.put, List.setIfInBounds_toArray, List.set_cons_zero, List.set_cons_succ, i64_w, i32_w]
                     rfl
                   refine take_ (i := 2) (N := some 19) (v := ?_) (a' := ?_) #[true, true, true, false, false, true, true, false, false, false, false, false, false] rfl rfl (take_ofW HT_.out HW_.out (by kernel_rfl)) (fun _ _ _ h => h) (Or.inl ⟨by rfl, ?_⟩) hHeld ?_ ?_
                   rotate_left
                   · rintro w' ⟨s0, s1, s2, s3⟩
                     go_simp
                     with_reducible rfl
                   rotate_left
                   · simp only [Act.put, List.setIfInBounds_toArray, List.set_cons_zero, List.set_cons_succ, i64_w, i32_w]
                     rfl
                   refine pure_ (i := 3) (N := some 20) (v := ?_) (a' := ?_) #[true, true, true, true, false, true, true, false, false, false, false, false, false] rfl rfl (any_of HT_.out (by kernel_rfl)) (fun _ _ _ h => h) (Or.inl ⟨by rfl, ?_⟩) ?_ ?_
                   rotate_left
                   · intro w'
                     go_simp
                     with_reducible rfl
                   rotate_left
                   · simp only [Act.put, List.setIfInBounds_toArray, List.set_cons_zero, List.set_cons_succ, i64_w, i32_w]
                     rfl
                   refine take_ (i := 4) (N := some 21) (v := ?_) (a' := ?_) #[true, true, true, true, true, true, true, false, false, false, false, false, false] rfl rfl (take_ofW HT_.out HW_.out (by kernel_rfl)) (fun _ _ _ h => h) (Or.inl ⟨by rfl, ?_⟩) hHeld ?_ ?_
                   rotate_left
                   · rintro w' ⟨s0, s1, s2, s3⟩
                     go_simp
                     with_reducible rfl
                   rotate_left
                   · simp only [Act.put, List.setIfInBounds_toArray, List.set_cons_zero, List.set_cons_succ, i64_w, i32_w]
                     rfl
                   refine take_ (i := 7) (N := some 24) (v := ?_) (a' := ?_) #[true, true, true, true, true, true, true, true, false, false, false, false, false] rfl rfl (take_ofW HT_.out HW_.out (by kernel_rfl)) (fun _ _ _ h => h) (Or.inl ⟨by rfl, ?_⟩) hHeld ?_ ?_
                   rotate_left
                   · rintro w' ⟨s0, s1, s2, s3⟩
                     go_simp
                     with_reducible rfl
                   rotate_left
                   · simp only [Act.put, List.setIfInBounds_toArray, List.set_cons_zero, List.set_cons_succ, i64_w, i32_w]
                     rfl
                   refine pure_ (i := 8) (N := some 25) (v := ?_) (a' := ?_) #[true, true, true, true, true, true, true, true, true, false, false, false, false] rfl rfl (any_of HT_.out (by kernel_rfl)) (fun _ _ _ h => h) (Or.inl ⟨by rfl, ?_⟩) ?_ ?_
                   rotate_left
                   · intro w'
                     go_simp
                     with_reducible rfl
                   rotate_left
                   · simp only [Act.put, List.setIfInBounds_toArray, List.set_cons_zero, List.set_cons_succ, i64_w, i32_w]
                     rfl
                   refine take_ (i := 9) (N := some 26) (v := ?_) (a' := ?_) #[true, true, true, true, true, true, true, true, true, true, false, false, false] rfl rfl (take_ofW HT_.out HW_.out (by kernel_rfl)) (fun _ _ _ h => h) (Or.inl ⟨by rfl, ?_⟩) hHeld ?_ ?_
                   rotate_left
                   · rintro w' ⟨s0, s1, s2, s3⟩
                     go_simp
                     with_reducible rfl
                   rotate_left
                   · simp only [Act.put, List.setIfInBounds_toArray, List.set_cons_zero, List.set_cons_succ, i64_w, i32_w]
                     rfl
                   refine one_ (i := 10) (N := some 27) #[true, true, true, true, true, true, true, true, true, true, true, false, false] rfl rfl (one_of HT_.out (by kernel_rfl)) (by decide) (fun K hK => ?_)
                   refine Kd.R_lit_step (Kd.int .i64) _ 3 ?hg (N := 27) ?hd (xs := ([rd l0 ((rd_T83 y121 x13_1).f0), rd l0 ((rd_T83 y121 x13_1).f1)] : List Int)) (inner := [.int .i64 (rd l0 ((rd_T83 y121 x13_1).f0)), .int .i64 (rd l0 ((rd_T83 y121 x13_1).f1))]) (ok := fun _ => True) (okp := fun _ => True) ?hr ?hp (fun _ hk => hk) trivial (Below.refl _ _) (Nat.le_refl _) (by simp) ?_; (case hd => rfl); (case hg => rfl); (case hr => first | (go_simp; done) | (go_simp; rfl)); (case hp => exact (Reps.one (show Kd.M (Kd.int .i64) _ _ _ (rd l0 ((rd_T83 y121 x13_1).f0)) [.int .i64 (rd l0 ((rd_T83 y121 x13_1).f0))] from rfl) (Reps.one (show Kd.M (Kd.int .i64) _ _ _ (rd l0 ((rd_T83 y121 x13_1).f1)) [.int .i64 (rd l0 ((rd_T83 y121 x13_1).f1))] from rfl) (Reps.none _ _))))
                   intro v129 w31 ho32 hb hg_ hnew_
                   clear hg_ hnew_
                   (first | rw [← Ny128.out] at ho32 | (simp only [Int.reduceToNat] at ho32; rw [← Ny128.out] at ho32))
                   have n0_ := Aside0.mk (Kd.R_below z12_ hb)
                   have n1_ := Aside0.mk (Kd.R_lower ho32 (below_size z3_))
                   have n2_ := Aside0.mk (blk_below (g := gb125) (o := .cells #[.int .i64 ((rd_T83 y121 x13_1).f0), .int .i64 ((rd_T83 y121 x13_1).f1)] 83 (0, 0)) (by (with_reducible repeat (first | refine blk_drewN ?_ _ | refine blk_drew ?_ | refine blk_alloc ?_ _)); exact BK125.out) hb)
                   have n3_ := Aside0.mk (below_step z3_ hb)
                   clear HO_11
                   clear BK125
                   clear HB
                   have HO_11 := n0_
                   have HO130 := n1_
                   have BK125 := n2_
                   have HB := n3_
                   clear n0_ n1_ n2_ n3_
                   clear hb ho32
                   obtain ⟨Ao33, co33, eo33⟩ := Kd.R_slice HO130.out
                   (first | subst eo33 | (injection eo33 with f1_ f2_ f3_; have f4_ := f1_.symm; have f5_ := f3_.symm; clear f1_ f2_ f3_; subst f4_; subst f5_))
                   refine hK.out _ _ ⟨(blk_cell BK125.out 0).trans rfl, (blk_cell BK125.out 1).trans rfl, ((HB.out.cell (World.block_lt_of_cell? w _ hw126_0)).trans hw126_0), ((HB.out.cell (World.block_lt_of_cell? w _ hw127_0)).trans hw127_0)⟩ (fun hHeld => ?_)
                   clear hK K
                   refine norm_ (a' := ?_) ?_ ?_
                   rotate_left
                   · show Act.put _ (some 27) _ = _
                     simp only [Act.put, List.setIfInBounds_toArray, List.set_cons_zero, List.set_cons_succ, i64_w, i32_w]
                     rfl
                   refine one_ (i := 11) (N := some 28) #[true, true, true, true, true, true, true, true, true, true, true, true, false] rfl rfl (one_of HT_.out (by kernel_rfl)) (by decide) (fun K hK => ?_)
                   refine goes_ Try.func79 (by kernel_rfl) rfl #[.slice Ao33 y128.length co33] (by rfl) rfl rfl z8_ ?_
                   with_reducible refine (impl_gcd.calls k1 _ _ y128 t131 _ ?side1 ?side2 A12.out).mono ?_
                   (case side1 => repeat (first | exact (Kd.R_reads' HO130.out).2.2 | (with_reducible refine Kd.C_alloc ?_ _) | (with_reducible refine Kd.C_drewN ?_ _) | (with_reducible refine Kd.C_drew ?_)))
                   (case side2 => exact (Kd.R_reads' HO130.out).2.1)
                   rintro e w34 ⟨rfl, hb⟩
                   refine ⟨_, rfl, ?_⟩
                   have n0_ := Aside0.mk (Kd.R_below z12_ hb)
                   have n1_ := Aside0.mk (Kd.R_below z13_ hb)
                   have n2_ := Aside0.mk (blk_below (g := gb125) (o := .cells #[.int .i64 ((rd_T83 y121 x13_1).f0), .int .i64 ((rd_T83 y121 x13_1).f1)] 83 (0, 0)) (by (with_reducible repeat (first | refine blk_drewN ?_ _ | refine blk_drew ?_ | refine blk_alloc ?_ _)); exact BK125.out) hb)
                   have n3_ := Aside0.mk (below_step z3_ hb)
                   clear HO_11
                   clear HO130
                   clear BK125
                   clear HB
                   have HO_11 := n0_
                   have HO130 := n1_
                   have BK125 := n2_
                   have HB := n3_
                   clear n0_ n1_ n2_ n3_
                   (try clear hb)
                   (try clear hb2)
                   (try clear hk)
                   (try clear hi)
                   refine hK.out _ _ ⟨(blk_cell BK125.out 0).trans rfl, (blk_cell BK125.out 1).trans rfl, ((HB.out.cell (World.block_lt_of_cell? w _ hw126_0)).trans hw126_0), ((HB.out.cell (World.block_lt_of_cell? w _ hw127_0)).trans hw127_0)⟩ (fun hHeld => ?_)
                   clear hK K
                   refine norm_ (a' := ?_) ?_ ?_
                   rotate_left
                   · show Act.put _ (some 28) _ = _
                     simp only [Act.put, List.setIfInBounds_toArray, List.set_cons_zero, List.set_cons_succ, i64_w, i32_w]
                     rfl
                   refine pure_ (i := 12) (N := some 7) (v := ?_) (a' := ?_) #[true, true, true, true, true, true, true, true, true, true, true, true, true] rfl rfl (any_of HT_.out (by kernel_rfl)) (fun _ _ _ h => h) (Or.inl ⟨by rfl, ?_⟩) ?_ ?_
                   rotate_left
                   · intro w'
                     go_simp
                     with_reducible rfl
                   rotate_left
                   · simp only [Act.put, List.setIfInBounds_toArray, List.set_cons_zero, List.set_cons_succ, i64_w, i32_w]
                     rfl
                   refine done_ (done_of HT_.out (by kernel_rfl)) ?_
                   try go_wp2
                   go_roundg k1
                   case measure => have := HK1.out; omega
                   case rel => exact ⟨(wrap64 (x13_1 + 1)), z22_, H', ⟨by have := HK1.out; omega⟩, ⟨by (with_reducible repeat (first | apply Kd.R_alloc | apply Kd.R_drewN | apply Kd.R_drew)); exact Kd.R_mono HO_11.out (fun _ hk => trivial)⟩, ⟨z3_⟩⟩
               · rw [if_neg c11] at H
                 exact absurd H (by simp)
             · rw [if_neg c10] at H
               exact absurd H (by simp)
           · rw [if_neg c9] at H
             exact absurd H (by simp)
         · rw [if_neg c8] at H
           exact absurd H (by simp)
       · rw [if_neg c7] at H
         exact absurd H (by simp)
     · rw [if_neg c6] at H
       exact absurd H (by simp)
   · rw [if_neg c5] at H
     have c5b0 : decide (x13_1 < (y121.length : Int)) = false := decide_eq_false c5
     clear c5
     simp only [Option.some.injEq, Prod.mk.injEq] at H
     obtain ⟨rfl, rfl, rfl⟩ := H
     go_wp2
     go_ret3
     exact ⟨z19_, z10_⟩

/-! ### impl_product: function 76 -/
def impl_product.l0 : Nat → Int → List Int → Int → Int → Option (Int)
 | 0, _, _, _, _ => none
 | k + 1, x3, x6, x7, x8 => if x8 < x7 then (if 0 ≤ x8 then (if x8 < (x6.length : Int) then (impl_product.l0 k (wrap64 (x3 * (rd x6 x8))) x6 x7 (wrap64 (x8 + 1))) else (none)) else (none)) else (some x3)
def impl_product.f (k : Nat) (l0 : List Int) : Option (Int) := impl_product.l0 k 1 l0 (l0.length : Int) 0
theorem impl_product.mono_l : ∀ k, (∀ y0 y1 y2 y3, LeO (impl_product.l0 k y0 y1 y2 y3) (impl_product.l0 (k + 1) y0 y1 y2 y3))
 | 0 => fun _ _ _ _ r h => by simp [impl_product.l0] at h
 | k + 1 => by
  have ih0 := impl_product.mono_l k
  · intro y0 y1 y2 y3
    unfold impl_product.l0
    repeat' first
    | (with_reducible exact ih0 _ _ _ _)
    | (with_reducible exact LeO.refl _)
    | (with_reducible exact LeO.none _)
    | (with_reducible refine LeO.ite ?_ ?_)
    | (with_reducible refine LeO.bind ?_ (fun _ => ?_))
    | exact ih0 _ _ _ _
    | exact LeO.none _
    | refine LeO.ite ?_ ?_
    | refine LeO.bind ?_ (fun _ => ?_)
theorem impl_product.mono : ∀ a0 k, LeO (impl_product.f k a0) (impl_product.f (k + 1) a0) := by
 intro a0 k
 have ih0 := impl_product.mono_l k
 unfold impl_product.f
 repeat' first
  | (with_reducible exact ih0 _ _ _ _)
  | (with_reducible exact LeO.refl _)
  | (with_reducible exact LeO.none _)
  | (with_reducible refine LeO.ite ?_ ?_)
  | (with_reducible refine LeO.bind ?_ (fun _ => ?_))
  | exact ih0 _ _ _ _
  | exact LeO.none _
  | refine LeO.ite ?_ ?_
  | refine LeO.bind ?_ (fun _ => ?_)
theorem impl_product.calls (k : Nat) (A0 : Option Addr) (c0 : Nat) (l0 : List Int) (r : Int) (w : World) (hr0 : Kd.C (Kd.int .i64) w A0 l0.length l0) (hc0 : l0.length ≤ c0) (h : impl_product.f k l0 = some r) :
 Calls Try.prog 76 #[.slice A0 l0.length c0] w fun e w' => e = .returned (.int .i64 r) ∧ Drawn0 w w' := by
 have HR0 := Aside0.mk hr0
 have HC0 := Aside0.mk hc0
 clear hr0 hc0
 have H : (impl_product.l0 k 1 l0 (l0.length : Int) 0) = some r := h
 clear h
 have H' := Aside0.mk H
 clear H
 go_enter Try.func76, Try.ntmps76
 go_wp2
 go_loopg [3, 8] k (fun kq v3 v8 w' => ∃ (x3_1 : Int) (x8_1 : Int), v3 = .int .i64 x3_1 ∧ v8 = .int .i64 x8_1 ∧ Aside0 (impl_product.l0 kq x3_1 l0 (l0.length : Int) x8_1 = some r) ∧ Aside0 (kq ≤ k) ∧ Drawn0 w w')
 case atStart => exact ⟨(1), (0), z22_, z22_, H', ⟨Nat.le_refl _⟩, z20_⟩
 case round =>
  clear H'
  obtain ⟨x3_1, x8_1, rfl, rfl, HA, HK1, ⟨m1, rfl⟩⟩ := hrel
  cases gk with
  | zero => exact absurd HA.out (by simp [impl_product.l0])
  | succ k1 =>
   have H := HA.out
   clear HA
   simp only [impl_product.l0] at H
   by_cases c2 : x8_1 < (l0.length : Int)
   · rw [if_pos c2] at H
     have c2b0 : decide (x8_1 < (l0.length : Int)) = true := decide_eq_true c2
     clear c2
     by_cases c3 : 0 ≤ x8_1
     · rw [if_pos c3] at H
       have c3b0 : decide (0 ≤ x8_1) = true := decide_eq_true c3
       clear c3
       by_cases c4 : x8_1 < (l0.length : Int)
       · rw [if_pos c4] at H
         have c4b0 : decide (x8_1 < (l0.length : Int)) = true := decide_eq_true c4
         clear c4
         have H' := Aside0.mk H
         clear H
         have p136 : 0 ≤ (x8_1 : Int) := of_decide_eq_true z21_
         have q136 : x8_1 < (l0.length : Int) := of_decide_eq_true z21_
         obtain ⟨ad136, e136, hx136_0⟩ := Kd.at_int HR0.out x8_1 p136 q136
         cases e136
         replace p136 := eq_true p136
         replace q136 := eq_true q136
         go_wp2
         go_roundg k1
         case measure => have := HK1.out; omega
         case rel => exact ⟨(wrap64 (x3_1 * (rd l0 x8_1))), (wrap64 (x8_1 + 1)), z22_, z22_, H', ⟨by have := HK1.out; omega⟩, z20_⟩
       · rw [if_neg c4] at H
         exact absurd H (by simp)
     · rw [if_neg c3] at H
       exact absurd H (by simp)
   · rw [if_neg c2] at H
     have c2b0 : decide (x8_1 < (l0.length : Int)) = false := decide_eq_false c2
     clear c2
     obtain rfl := Option.some.inj H
     go_wp2
     go_ret
     exact ⟨z22_, z20_⟩

/-! ### impl_squareRoot: function 77 -/
def impl_squareRoot.l0 : Nat → Int → Int → Int → Option (Int × Bool)
 | 0, _, _, _ => none
 | k + 1, x0, x4, x5 => if x5 > 0 then (if (wrap64 ((wrap64 (x4 + x5)) * (wrap64 (x4 + x5)))) ≤ x0 then (impl_squareRoot.l0 k x0 (wrap64 (x4 + x5)) (wrap64 (Int.tdiv x5 2))) else (impl_squareRoot.l0 k x0 x4 (wrap64 (Int.tdiv x5 2)))) else (some (x4, ((wrap64 (x4 * x4)) == x0)))
def impl_squareRoot.f (k : Nat) (a0 : Int) : Option (Int × Bool) := if a0 < 0 then (some (0, false)) else (impl_squareRoot.l0 k a0 0 1073741824)
theorem impl_squareRoot.mono_l : ∀ k, (∀ y0 y1 y2, LeO (impl_squareRoot.l0 k y0 y1 y2) (impl_squareRoot.l0 (k + 1) y0 y1 y2))
 | 0 => fun _ _ _ r h => by simp [impl_squareRoot.l0] at h
 | k + 1 => by
  have ih0 := impl_squareRoot.mono_l k
  · intro y0 y1 y2
    unfold impl_squareRoot.l0
    repeat' first
    | (with_reducible exact ih0 _ _ _)
    | (with_reducible exact LeO.refl _)
    | (with_reducible exact LeO.none _)
    | (with_reducible refine LeO.ite ?_ ?_)
    | (with_reducible refine LeO.bind ?_ (fun _ => ?_))
    | exact ih0 _ _ _
    | exact LeO.none _
    | refine LeO.ite ?_ ?_
    | refine LeO.bind ?_ (fun _ => ?_)
theorem impl_squareRoot.mono : ∀ a0 k, LeO (impl_squareRoot.f k a0) (impl_squareRoot.f (k + 1) a0) := by
 intro a0 k
 have ih0 := impl_squareRoot.mono_l k
 unfold impl_squareRoot.f
 repeat' first
  | (with_reducible exact ih0 _ _ _)
  | (with_reducible exact LeO.refl _)
  | (with_reducible exact LeO.none _)
  | (with_reducible refine LeO.ite ?_ ?_)
  | (with_reducible refine LeO.bind ?_ (fun _ => ?_))
  | exact ih0 _ _ _
  | exact LeO.none _
  | refine LeO.ite ?_ ?_
  | refine LeO.bind ?_ (fun _ => ?_)
theorem impl_squareRoot.calls (k : Nat) (a0 : Int) (r1 : Int) (r2 : Bool) (w : World) (h : impl_squareRoot.f k a0 = some (r1, r2)) :
 Calls Try.prog 77 #[.int .i64 a0] w fun e w' => e = .returned (.tuple #[.int .i64 r1, .bool r2]) ∧ Drawn0 w w' := by
 have H : (if a0 < 0 then (some (0, false)) else (impl_squareRoot.l0 k a0 0 1073741824)) = some (r1, r2) := h
 clear h
 by_cases c2 : a0 < 0
 · rw [if_pos c2] at H
   have c2b0 : decide (a0 < 0) = true := decide_eq_true c2
   clear c2
   simp only [Option.some.injEq, Prod.mk.injEq] at H
   obtain ⟨rfl, rfl⟩ := H
   go_enter Try.func77, Try.ntmps77
   go_wp2
   go_ret2
   exact ⟨z22_, z20_⟩
 · rw [if_neg c2] at H
   have c2b0 : decide (a0 < 0) = false := decide_eq_false c2
   clear c2
   have H' := Aside0.mk H
   clear H
   go_enter Try.func77, Try.ntmps77
   go_wp2
   go_loopg [4, 5] k (fun kq v4 v5 w' => ∃ (x4_1 : Int) (x5_1 : Int), v4 = .int .i64 x4_1 ∧ v5 = .int .i64 x5_1 ∧ Aside0 (impl_squareRoot.l0 kq a0 x4_1 x5_1 = some (r1, r2)) ∧ Aside0 (kq ≤ k) ∧ Drawn0 w w')
   case atStart => exact ⟨(0), (1073741824), z22_, z22_, H', ⟨Nat.le_refl _⟩, z20_⟩
   case round =>
    clear H'
    try clear c2
    try clear c2b0
    try clear p2
    obtain ⟨x4_1, x5_1, rfl, rfl, HA, HK1, ⟨m1, rfl⟩⟩ := hrel
    cases gk with
    | zero => exact absurd HA.out (by simp [impl_squareRoot.l0])
    | succ k1 =>
     have H := HA.out
     clear HA
     simp only [impl_squareRoot.l0] at H
     by_cases c3 : x5_1 > 0
     · rw [if_pos c3] at H
       have c3b0 : decide (0 < x5_1) = true := decide_eq_true c3
       clear c3
       by_cases c4 : (wrap64 ((wrap64 (x4_1 + x5_1)) * (wrap64 (x4_1 + x5_1)))) ≤ a0
       · rw [if_pos c4] at H
         have c4b0 : decide ((wrap64 ((wrap64 (x4_1 + x5_1)) * (wrap64 (x4_1 + x5_1)))) ≤ a0) = true := decide_eq_true c4
         clear c4
         have H' := Aside0.mk H
         clear H
         go_wp2
         go_roundg k1
         case measure => have := HK1.out; omega
         case rel => exact ⟨(wrap64 (x4_1 + x5_1)), (wrap64 (Int.tdiv x5_1 2)), z22_, z22_, H', ⟨by have := HK1.out; omega⟩, z20_⟩
       · rw [if_neg c4] at H
         have c4b0 : decide ((wrap64 ((wrap64 (x4_1 + x5_1)) * (wrap64 (x4_1 + x5_1)))) ≤ a0) = false := decide_eq_false c4
         clear c4
         have H' := Aside0.mk H
         clear H
         go_wp2
         go_roundg k1
         case measure => have := HK1.out; omega
         case rel => exact ⟨(x4_1), (wrap64 (Int.tdiv x5_1 2)), z22_, z22_, H', ⟨by have := HK1.out; omega⟩, z20_⟩
     · rw [if_neg c3] at H
       have c3b0 : decide (0 < x5_1) = false := decide_eq_false c3
       clear c3
       simp only [Option.some.injEq, Prod.mk.injEq] at H
       obtain ⟨rfl, rfl⟩ := H
       go_wp2
       go_ret2
       exact ⟨z22_, z20_⟩

end Go.Proofs.Ytdeahlommlgceaa.PFnSearch

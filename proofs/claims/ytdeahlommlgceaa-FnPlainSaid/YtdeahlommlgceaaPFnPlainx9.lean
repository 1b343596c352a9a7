-- Written by a program of this repo (wip/gen/gen.py) over the kit's print.
-- (slim)
import Derived.Test.YtdeahlommlgceaaPFnPlainx0
import Derived.Test.YtdeahlommlgceaaPFnPlainx3
import Derived.Test.YtdeahlommlgceaaPFnPlainx5
import Derived.Test.YtdeahlommlgceaaPFnPlainx8
namespace Go.Proofs.Ytdeahlommlgceaa.PFnPlain
open Go.RowKit Go.Proofs.YtdeahlommlgceaaW.PrintWords Go.Proofs.YtdeahlommlgceaaW.PrintLast Go.Proofs.YtdeahlommlgceaaW.PrintMore
attribute [local go_sem] max2_int min2_int max_two min_two max_three min_three max_four min_four   -- for this text's walks alone
set_option linter.unusedVariables false
set_option maxHeartbeats 8000000
set_option maxRecDepth 100000
set_option linter.unusedSimpArgs false

/-! ### spec_l5Four: function 140 -/
mutual
def spec_l5Four.l0 : Nat → List Int → Int → Option (List Int × Bool)
 | 0, _, _ => none
 | k + 1, x0, x4 => if x4 ≤ 3 then (spec_l5Four.l1 k x0 x4 0) else (some ((([] : List Int)), false))
def spec_l5Four.l1 : Nat → List Int → Int → Int → Option (List Int × Bool)
 | 0, _, _, _ => none
 | k + 1, x0, x4, x5 => if x5 ≤ 3 then (if x4 = 0 then (spec_l5Four.j2 k x0 x4 x5 (x5 == 0)) else (spec_l5Four.j2 k x0 x4 x5 false)) else (spec_l5Four.l0 k x0 (wrap64 (x4 + 1)))
def spec_l5Four.j2 : Nat → List Int → Int → Int → Bool → Option (List Int × Bool)
 | 0, _, _, _, _ => none
 | k + 1, x0, x4, x5, x24 => if x24 = true then (spec_l5Four.l1 k x0 x4 (wrap64 (x5 + 1))) else (if 0 < (x0.length : Int) then (if 1 < (x0.length : Int) then (if (wrap64 ((wrap64 ((wrap64 ((rd x0 0) * x4)) * x4)) + (wrap64 ((wrap64 ((rd x0 1) * x5)) * x5)))) = 0 then ((spec_l5Plain.f k (([x4, x5, 0, 0] : List Int))).bind fun t301 => (some (t301, true))) else ((spec_l1Core.f k (wrap64 ((wrap64 ((wrap64 ((rd x0 0) * x4)) * x4)) + (wrap64 ((wrap64 ((rd x0 1) * x5)) * x5))))).bind fun bt304 => ((spec_l1Size.f bt304.1).bind fun t306 => (if t306 > 30 then (spec_l5Four.l1 k x0 x4 (wrap64 (x5 + 1))) else (if 2 < (x0.length : Int) then (if 3 < (x0.length : Int) then ((spec_l5Three.f k (([rd x0 2, rd x0 3, bt304.1] : List Int))).bind fun bt312 => (if bt312.2 = true then (if 2 < (bt312.1.length : Int) then (if 0 < (bt312.1.length : Int) then (if 1 < (bt312.1.length : Int) then ((spec_l5Plain.f k (([wrap64 (x4 * (rd bt312.1 2)), wrap64 (x5 * (rd bt312.1 2)), wrap64 (bt304.2 * (rd bt312.1 0)), wrap64 (bt304.2 * (rd bt312.1 1))] : List Int))).bind fun t323 => (some (t323, true))) else (none)) else (none)) else (none)) else (spec_l5Four.l1 k x0 x4 (wrap64 (x5 + 1))))) else (none)) else (none)))))) else (none)) else (none))
end
def spec_l5Four.f (k : Nat) (l0 : List Int) : Option (List Int × Bool) := spec_l5Four.l0 k l0 0
theorem spec_l5Four.mono_l : ∀ k, (∀ y0 y1, LeO (spec_l5Four.l0 k y0 y1) (spec_l5Four.l0 (k + 1) y0 y1)) ∧ (∀ y0 y1 y2, LeO (spec_l5Four.l1 k y0 y1 y2) (spec_l5Four.l1 (k + 1) y0 y1 y2)) ∧ (∀ y0 y1 y2 y3, LeO (spec_l5Four.j2 k y0 y1 y2 y3) (spec_l5Four.j2 (k + 1) y0 y1 y2 y3))
 | 0 => ⟨fun _ _ r h => by simp [spec_l5Four.l0] at h, fun _ _ _ r h => by simp [spec_l5Four.l1] at h, fun _ _ _ _ r h => by simp [spec_l5Four.j2] at h⟩
 | k + 1 => by
  obtain ⟨ih0, ih1, ih2⟩ := spec_l5Four.mono_l k
  refine ⟨?_, ?_, ?_⟩
  · intro y0 y1
    unfold spec_l5Four.l0
    repeat' first
    | (with_reducible exact ih0 _ _)
    | (with_reducible exact ih1 _ _ _)
    | (with_reducible exact ih2 _ _ _ _)
    | (with_reducible exact spec_l1Core.mono _ _)
    | (with_reducible exact spec_l5Plain.mono _ _)
    | (with_reducible exact spec_l5Three.mono _ _)
    | (with_reducible exact LeO.refl _)
    | (with_reducible exact LeO.none _)
    | (with_reducible refine LeO.ite ?_ ?_)
    | (with_reducible refine LeO.bind ?_ (fun _ => ?_))
    | exact ih0 _ _
    | exact ih1 _ _ _
    | exact ih2 _ _ _ _
    | exact spec_l1Core.mono _ _
    | exact spec_l5Plain.mono _ _
    | exact spec_l5Three.mono _ _
    | exact LeO.none _
    | refine LeO.ite ?_ ?_
    | refine LeO.bind ?_ (fun _ => ?_)
  · intro y0 y1 y2
    unfold spec_l5Four.l1
    repeat' first
    | (with_reducible exact ih0 _ _)
    | (with_reducible exact ih1 _ _ _)
    | (with_reducible exact ih2 _ _ _ _)
    | (with_reducible exact spec_l1Core.mono _ _)
    | (with_reducible exact spec_l5Plain.mono _ _)
    | (with_reducible exact spec_l5Three.mono _ _)
    | (with_reducible exact LeO.refl _)
    | (with_reducible exact LeO.none _)
    | (with_reducible refine LeO.ite ?_ ?_)
    | (with_reducible refine LeO.bind ?_ (fun _ => ?_))
    | exact ih0 _ _
    | exact ih1 _ _ _
    | exact ih2 _ _ _ _
    | exact spec_l1Core.mono _ _
    | exact spec_l5Plain.mono _ _
    | exact spec_l5Three.mono _ _
    | exact LeO.none _
    | refine LeO.ite ?_ ?_
    | refine LeO.bind ?_ (fun _ => ?_)
  · intro y0 y1 y2 y3
    unfold spec_l5Four.j2
    repeat' first
    | (with_reducible exact ih0 _ _)
    | (with_reducible exact ih1 _ _ _)
    | (with_reducible exact ih2 _ _ _ _)
    | (with_reducible exact spec_l1Core.mono _ _)
    | (with_reducible exact spec_l5Plain.mono _ _)
    | (with_reducible exact spec_l5Three.mono _ _)
    | (with_reducible exact LeO.refl _)
    | (with_reducible exact LeO.none _)
    | (with_reducible refine LeO.ite ?_ ?_)
    | (with_reducible refine LeO.bind ?_ (fun _ => ?_))
    | exact ih0 _ _
    | exact ih1 _ _ _
    | exact ih2 _ _ _ _
    | exact spec_l1Core.mono _ _
    | exact spec_l5Plain.mono _ _
    | exact spec_l5Three.mono _ _
    | exact LeO.none _
    | refine LeO.ite ?_ ?_
    | refine LeO.bind ?_ (fun _ => ?_)
theorem spec_l5Four.mono : ∀ a0 k, LeO (spec_l5Four.f k a0) (spec_l5Four.f (k + 1) a0) := by
 intro a0 k
 obtain ⟨ih0, ih1, ih2⟩ := spec_l5Four.mono_l k
 unfold spec_l5Four.f
 repeat' first
  | (with_reducible exact ih0 _ _)
  | (with_reducible exact ih1 _ _ _)
  | (with_reducible exact ih2 _ _ _ _)
  | (with_reducible exact spec_l1Core.mono _ _)
  | (with_reducible exact spec_l5Plain.mono _ _)
  | (with_reducible exact spec_l5Three.mono _ _)
  | (with_reducible exact LeO.refl _)
  | (with_reducible exact LeO.none _)
  | (with_reducible refine LeO.ite ?_ ?_)
  | (with_reducible refine LeO.bind ?_ (fun _ => ?_))
  | exact ih0 _ _
  | exact ih1 _ _ _
  | exact ih2 _ _ _ _
  | exact spec_l1Core.mono _ _
  | exact spec_l5Plain.mono _ _
  | exact spec_l5Three.mono _ _
  | exact LeO.none _
  | refine LeO.ite ?_ ?_
  | refine LeO.bind ?_ (fun _ => ?_)
def spec_l5Four.T8 : Bool × List (List Nat × List Nat) := (true, [([], []), ([0], [0]), ([1], [1]), ([], []), ([2, 3], [2, 3]), ([], []), ([4, 5], [4, 5]), ([], []), ([7], [7]), ([8], [8]), ([], []), ([9, 10], [9, 10]), ([], []), ([11, 12], [11, 12]), ([6, 13], [6, 13]), ([14, 0, 1, 2, 3, 4, 5, 6, 7, 8, 9, 10, 11, 12, 13, 14], [14])])
def spec_l5Four.B8 : List Nat := [0, 1, 3, 0, 15, 0, 63, 0, 128, 384, 0, 1920, 0, 8064, 16383, 32767]
theorem spec_l5Four.tab8 : rtab .any (opsOf Try.f140 8) = spec_l5Four.T8 := by kernel_rfl
theorem spec_l5Four.bits8 : waitsOk spec_l5Four.T8.2 spec_l5Four.B8 = true := by kernel_rfl
def spec_l5Four.T13 : Bool × List (List Nat × List Nat) := (true, [([], []), ([0], [0]), ([1], [1]), ([], []), ([3], [3]), ([4], [4]), ([], []), ([2, 5, 6], [2, 5, 6]), ([7], [7]), ([8], [8]), ([9], [9]), ([9], [9]), ([10, 8, 0, 1, 2, 3, 4, 5, 6, 7, 8, 9, 10], [10]), ([11, 12, 0, 1, 2, 3, 4, 5, 6, 7, 8, 9, 10, 11, 12], [11])])
def spec_l5Four.B13 : List Nat := [0, 1, 3, 0, 8, 24, 0, 127, 255, 511, 1023, 1023, 2047, 8191]
theorem spec_l5Four.tab13 : rtab .any (opsOf Try.f140 13) = spec_l5Four.T13 := by kernel_rfl
theorem spec_l5Four.bits13 : waitsOk spec_l5Four.T13.2 spec_l5Four.B13 = true := by kernel_rfl
def spec_l5Four.T15 : Bool × List (List Nat × List Nat) := (true, [([], []), ([], []), ([1], [1]), ([2], [2]), ([0, 3], [0, 3]), ([], []), ([], []), ([6], [6]), ([7], [7]), ([5, 8], [5, 8]), ([], []), ([], []), ([11], [11]), ([12], [12]), ([10, 13], [10, 13]), ([], []), ([], []), ([16], [16]), ([17], [17]), ([15, 18], [15, 18]), ([4, 9, 14, 19], [4, 9, 14, 19]), ([20], [20]), ([21, 21, 0, 1, 2, 3, 4, 5, 6, 7, 8, 9, 10, 11, 12, 13, 14, 15, 16, 17, 18, 19, 20, 21], [21]), ([22, 0, 1, 2, 3, 4, 5, 6, 7, 8, 9, 10, 11, 12, 13, 14, 15, 16, 17, 18, 19, 20, 21, 22], [])])
def spec_l5Four.B15 : List Nat := [0, 0, 2, 6, 15, 0, 0, 64, 192, 480, 0, 0, 2048, 6144, 15360, 0, 0, 65536, 196608, 491520, 1048575, 2097151, 4194303, 8388607]
theorem spec_l5Four.tab15 : rtab .any (opsOf Try.f140 15) = spec_l5Four.T15 := by kernel_rfl
theorem spec_l5Four.bits15 : waitsOk spec_l5Four.T15.2 spec_l5Four.B15 = true := by kernel_rfl
theorem spec_l5Four.calls (k : Nat) (A0 : Option Addr) (c0 : Nat) (l0 : List Int) (r1 : List Int) (r2 : Bool) (w : World) (hr0 : Kd.C (Kd.int .i64) w A0 l0.length l0) (hc0 : l0.length ≤ c0) (h : spec_l5Four.f k l0 = some (r1, r2)) :
 Calls Try.prog 140 #[.slice A0 l0.length c0] w fun e w' => ∃ v0_ : Value, e = .returned (.tuple #[v0_, .bool r2]) ∧ Kd.R (Kd.int .i64) 3 w' w.heap.size (fun _ => True) v0_ r1 ∧ Below w.heap.size w w' := by
 have HR0 := Aside0.mk hr0
 have HC0 := Aside0.mk hc0
 clear hr0 hc0
 have HB := Aside0.mk (Below.refl w.heap.size w)
 have H : (spec_l5Four.l0 k l0 0) = some (r1, r2) := h
 clear h
 have H' := Aside0.mk H
 clear H
 go_enter Try.func140, Try.ntmps140
 go_wp2
 go_loopg [4] k (fun kq v4 w' => ∃ (x4_1 : Int), v4 = .int .i64 x4_1 ∧ Aside0 (spec_l5Four.l0 kq l0 x4_1 = some (r1, r2)) ∧ Aside0 (kq ≤ k) ∧ Aside0 (Below w.heap.size w w'))
 case atStart => exact ⟨(0), z26_, H', ⟨Nat.le_refl _⟩, ⟨z7_⟩⟩
 case round =>
  clear H'
  try clear c1
  obtain ⟨x4_1, rfl, HA, HK1, HB⟩ := hrel
  cases gk with
  | zero => exact absurd HA.out (by simp [spec_l5Four.l0])
  | succ k1 =>
   have H := HA.out
   clear HA
   simp only [spec_l5Four.l0] at H
   by_cases c2 : x4_1 ≤ 3
   · rw [if_pos c2] at H
     have c2b0 : decide (x4_1 ≤ 3) = true := decide_eq_true c2
     clear c2
     have H' := Aside0.mk H
     clear H
     go_wp2
     go_loopg [5] k1 (fun kq v5 w' => ∃ (x5_2 : Int), v5 = .int .i64 x5_2 ∧ Aside0 (spec_l5Four.l1 kq l0 x4_1 x5_2 = some (r1, r2)) ∧ Aside0 (kq ≤ k1) ∧ Aside0 (Below w.heap.size w w'))
     case atStart => exact ⟨(0), z26_, H', ⟨Nat.le_refl _⟩, ⟨z7_⟩⟩
     case round =>
      clear H'
      try clear c1
      try clear c2
      try clear c2b0
      try clear p2
      obtain ⟨x5_2, rfl, HA, HK2, HB⟩ := hrel
      cases gk with
      | zero => exact absurd HA.out (by simp [spec_l5Four.l1])
      | succ k2 =>
       have H := HA.out
       clear HA
       simp only [spec_l5Four.l1] at H
       by_cases c3 : x5_2 ≤ 3
       · rw [if_pos c3] at H
         have c3b0 : decide (x5_2 ≤ 3) = true := decide_eq_true c3
         clear c3
         have HC4 := Aside0.mk H
         clear H
         go_upto_region 7 with (fail)
         go_cut [24] (fun v24 wc => ∃ (kq : Nat) (x24_3 : Bool), v24 = .bool x24_3 ∧ Aside0 (spec_l5Four.j2 kq l0 x4_1 x5_2 x24_3 = some (r1, r2)) ∧ Aside0 (kq ≤ k2) ∧ Aside0 (Below w.heap.size w wc))
         case first =>
          have H := HC4.out
          clear HC4
          by_cases c5 : x4_1 = 0
          · rw [if_pos c5] at H
            have c5b0 : (x4_1 == 0) = true := beq_iff_eq.mpr c5
            have c5b1 : (x4_1 != 0) = false := bne_eq_false_iff_eq.mpr c5
            clear c5
            (first | rw [c5b0] | (simp only [i64_w, i32_w]; rw [c5b0]) | skip)
            have H' := Aside0.mk H
            clear H
            go_wp2
            go_meet
            case rel => exact ⟨_, ((x5_2 == 0)), z26_, H', ⟨by have := HK1.out; have := HK2.out; first | omega | exact Nat.le_refl _⟩, ⟨z7_⟩⟩
          · rw [if_neg c5] at H
            have c5b0 : (x4_1 == 0) = false := beq_eq_false_iff_ne.mpr c5
            have c5b1 : (x4_1 != 0) = true := bne_iff_ne.mpr c5
            (first | rw [c5b0] | (simp only [i64_w, i32_w]; rw [c5b0]) | skip)
            have H' := Aside0.mk H
            clear H
            go_wp2
            go_meet
            case rel => exact ⟨_, (false), z26_, H', ⟨by have := HK1.out; have := HK2.out; first | omega | exact Nat.le_refl _⟩, ⟨z7_⟩⟩
         case rest =>
          clear HC4
          try clear c1
          try clear c2
          try clear c2b0
          try clear p2
          try clear c3
          try clear c3b0
          try clear c5
          try clear c5b0
          try clear c5b1
          try clear p2
          obtain ⟨kq, x24_3, rfl, HA, HJ3, HB⟩ := hcut
          cases kq with
          | zero => exact absurd HA.out (by simp [spec_l5Four.j2])
          | succ kj3 =>
           have H := HA.out
           clear HA
           simp only [spec_l5Four.j2] at H
           by_cases c6 : x24_3 = true
           · subst c6
             have H1 : (spec_l5Four.l1 kj3 l0 x4_1 (wrap64 (x5_2 + 1))) = some (r1, r2) := by rw [if_pos rfl] at H; exact H
             clear H
             have H := H1
             clear H1
             have H' := Aside0.mk H
             clear H
             go_wp2
             go_roundg kj3
             case measure => have := HK1.out; have := HK2.out; have := HJ3.out; omega
             case rel => exact ⟨(wrap64 (x5_2 + 1)), z26_, H', ⟨by have := HK1.out; have := HK2.out; have := HJ3.out; omega⟩, ⟨z7_⟩⟩
           · replace c6 := Bool.eq_false_iff.mpr c6
             subst c6
             have H1 : (if 0 < (l0.length : Int) then (if 1 < (l0.length : Int) then (if (wrap64 ((wrap64 ((wrap64 ((rd l0 0) * x4_1)) * x4_1)) + (wrap64 ((wrap64 ((rd l0 1) * x5_2)) * x5_2)))) = 0 then ((spec_l5Plain.f kj3 (([x4_1, x5_2, 0, 0] : List Int))).bind fun t301 => (some (t301, true))) else ((spec_l1Core.f kj3 (wrap64 ((wrap64 ((wrap64 ((rd l0 0) * x4_1)) * x4_1)) + (wrap64 ((wrap64 ((rd l0 1) * x5_2)) * x5_2))))).bind fun bt304 => ((spec_l1Size.f bt304.1).bind fun t306 => (if t306 > 30 then (spec_l5Four.l1 kj3 l0 x4_1 (wrap64 (x5_2 + 1))) else (if 2 < (l0.length : Int) then (if 3 < (l0.length : Int) then ((spec_l5Three.f kj3 (([rd l0 2, rd l0 3, bt304.1] : List Int))).bind fun bt312 => (if bt312.2 = true then (if 2 < (bt312.1.length : Int) then (if 0 < (bt312.1.length : Int) then (if 1 < (bt312.1.length : Int) then ((spec_l5Plain.f kj3 (([wrap64 (x4_1 * (rd bt312.1 2)), wrap64 (x5_2 * (rd bt312.1 2)), wrap64 (bt304.2 * (rd bt312.1 0)), wrap64 (bt304.2 * (rd bt312.1 1))] : List Int))).bind fun t323 => (some (t323, true))) else (none)) else (none)) else (none)) else (spec_l5Four.l1 kj3 l0 x4_1 (wrap64 (x5_2 + 1))))) else (none)) else (none)))))) else (none)) else (none)) = some (r1, r2) := by rw [if_neg (show ¬ (false = true) by decide)] at H; exact H
             clear H
             have H := H1
             clear H1
             by_cases c7 : 0 < (l0.length : Int)
             · rw [if_pos c7] at H
               have c7b0 : decide (0 < (l0.length : Int)) = true := decide_eq_true c7
               have c7b1 : decide (0 < l0.length) = true := decide_eq_true (by omega)
               clear c7
               by_cases c8 : 1 < (l0.length : Int)
               · rw [if_pos c8] at H
                 have c8b0 : decide (1 < (l0.length : Int)) = true := decide_eq_true c8
                 have c8b1 : decide (1 < l0.length) = true := decide_eq_true (by omega)
                 clear c8
                 by_cases c9 : (wrap64 ((wrap64 ((wrap64 ((rd l0 0) * x4_1)) * x4_1)) + (wrap64 ((wrap64 ((rd l0 1) * x5_2)) * x5_2)))) = 0
                 · rw [if_pos c9] at H
                   have c9b0 : ((wrap64 ((wrap64 ((wrap64 ((rd l0 0) * x4_1)) * x4_1)) + (wrap64 ((wrap64 ((rd l0 1) * x5_2)) * x5_2)))) == 0) = true := beq_iff_eq.mpr c9
                   have c9b1 : ((wrap64 ((wrap64 ((wrap64 ((rd l0 0) * x4_1)) * x4_1)) + (wrap64 ((wrap64 ((rd l0 1) * x5_2)) * x5_2)))) != 0) = false := bne_eq_false_iff_eq.mpr c9
                   clear c9
                   obtain ⟨y298, hy298⟩ : ∃ y_ : List Int, y_ = (([x4_1, x5_2, 0, 0] : List Int)) := ⟨_, rfl⟩
                   replace H : ((spec_l5Plain.f kj3 y298).bind fun t301 => (some (t301, true))) = some (r1, r2) := by first | (rw [hy298]; with_reducible exact H) | (have H2_ := (Option.bind_some _ _).symm.trans H; rw [hy298]; with_reducible exact H2_) | (have H2_ := (Option.bind_some _ _).symm.trans H; with_reducible exact H2_) | with_reducible exact H | (rw [hy298]; exact H) | exact H
                   have Ny298 := Aside0.mk hy298
                   clear hy298
                   replace H := Option.bind_eq_some_iff.mp H
                   obtain ⟨t301, A100, H⟩ := H
                   replace H : (some (t301, true)) = some (r1, r2) := H
                   have A10 := Aside0.mk A100
                   clear A100
                   simp only [Option.some.injEq, Prod.mk.injEq] at H
                   obtain ⟨rfl, rfl⟩ := H
                   try go_wp2
                   have n0_ := Aside0.mk (below_drew1 HB.out)
                   clear HB
                   have HB := n0_
                   clear n0_
                   have p296 : 0 ≤ (0 : Int) := (by omega)
                   have q296 : 0 < (l0.length : Int) := of_decide_eq_true z25_
                   obtain ⟨ad296, e296, hx296_0⟩ := Kd.at_int HR0.out 0 p296 q296
                   have hw296_0 := hx296_0
                   (try rw [show ((0 : Int)).toNat = 0 from rfl] at hw296_0)
                   (try rw [show 0 * 1 = 0 from rfl] at hw296_0)
                   (try rw [Addr.add_zero'] at hw296_0)
                   cases e296
                   have qi296 : (0 < l0.length) = True := eq_true (by omega)
                   (try rw [show ((0 : Int)).toNat = 0 from rfl] at hx296_0)
                   (try rw [Addr.add_zero'] at hx296_0)
                   replace hx296_0 := (HB.out.cell (World.block_lt_of_cell? w _ hx296_0)).trans hx296_0
                   replace p296 := eq_true p296
                   replace q296 := eq_true q296
                   have p297 : 0 ≤ (1 : Int) := (by omega)
                   have q297 : 1 < (l0.length : Int) := of_decide_eq_true z25_
                   obtain ⟨ad297, e297, hx297_0⟩ := Kd.at_int HR0.out 1 p297 q297
                   have hw297_0 := hx297_0
                   (try rw [show ((1 : Int)).toNat = 1 from rfl] at hw297_0)
                   (try rw [show 1 * 1 = 1 from rfl] at hw297_0)
                   (try simp only [Nat.reduceMul, Nat.reduceEqDiff, Go.Addr.add, ↓reduceIte] at hw297_0)
                   obtain rfl : ad296 = ad297 := (by injection e297)
                   (try simp only [show (1 : Int).toNat = 1 from rfl, Nat.reduceMul, Nat.reduceEqDiff, Go.Addr.add, ↓reduceIte] at hx297_0)
                   have qi297 : (1 < l0.length) = True := eq_true (by omega)
                   (try rw [show ((1 : Int)).toNat = 1 from rfl] at hx297_0)
                   replace hx297_0 := (HB.out.cell (World.block_lt_of_cell? w _ hx297_0)).trans hx297_0
                   replace p297 := eq_true p297
                   replace q297 := eq_true q297
                   refine start_ (n := 16) (S := fun w' => w'.cell? ad296 = some (.int .i64 (rd l0 0)) ∧ w'.cell? ⟨ad296.block, ad296.off + 1, none⟩ = some (.int .i64 (rd l0 1))) (ds := []) #[false, false, false, false, false, false, false, false, false, false, false, false, false, false, false, false] (by kernel_rfl) rfl rfl ⟨((HB.out.cell (World.block_lt_of_cell? w _ hw296_0)).trans hw296_0), ((HB.out.cell (World.block_lt_of_cell? w _ hw297_0)).trans hw297_0)⟩ (fun hHeld => ?_); refine with_tabW spec_l5Four.tab8 spec_l5Four.bits8 (fun HT_ HW_ => ?_)
                   generalize wc.drew = w11 at HB hx296_0 hx297_0 hHeld ⊢
                   refine pure_ (i := 0) (N := some 25) (v := ?_) (a' := ?_) #[true, false, false, false, false, false, false, false, false, false, false, false, false, false, false, false] rfl rfl (any_of HT_.out (by kernel_rfl)) (fun _ _ _ h => h) (Or.inl ⟨by rfl, ?_⟩) ?_ ?_
                   rotate_left
                   · intro w'
                     go_simp
                     with_reducible rfl
                   rotate_left
                   · simp only [Act.put, List.setIfInBounds_toArray, List.set_cons_zero, List.set_cons_succ, i64_w, i32_w]
                     rfl
                   refine pure_ (i := 1) (N := some 26) (v := ?_) (a' := ?_) #[true, true, false, false, false, false, false, false, false, false, false, false, false, false, false, false] rfl rfl (any_of HT_.out (by kernel_rfl)) (fun _ _ _ h => h) (Or.inl ⟨by rfl, ?_⟩) ?_ ?_
                   rotate_left
                   · intro w'
                     go_simp
                     with_reducible rfl
                   rotate_left
                   · simp only [Act.put, List.setIfInBounds_toArray, List.set_cons_zero, List.set_cons_succ, i64_w, i32_w]
                     rfl
                   refine pure_ (i := 3) (N := some 28) (v := ?_) (a' := ?_) #[true, true, false, true, false, false, false, false, false, false, false, false, false, false, false, false] rfl rfl (any_of HT_.out (by kernel_rfl)) (fun _ _ _ h => h) (Or.inl ⟨by rfl, ?_⟩) ?_ ?_
                   rotate_left
                   · intro w'
                     go_simp
                     with_reducible rfl
                   rotate_left
                   · simp only [Act.put, List.setIfInBounds_toArray, List.set_cons_zero, List.set_cons_succ, i64_w, i32_w]
                     rfl
                   refine pure_ (i := 5) (N := some 30) (v := ?_) (a' := ?_) #[true, true, false, true, false, true, false, false, false, false, false, false, false, false, false, false] rfl rfl (any_of HT_.out (by kernel_rfl)) (fun _ _ _ h => h) (Or.inl ⟨by rfl, ?_⟩) ?_ ?_
                   rotate_left
                   · intro w'
                     go_simp
                     with_reducible rfl
                   rotate_left
                   · simp only [Act.put, List.setIfInBounds_toArray, List.set_cons_zero, List.set_cons_succ, i64_w, i32_w]
                     rfl
                   refine pure_ (i := 7) (N := some 32) (v := ?_) (a' := ?_) #[true, true, false, true, false, true, false, true, false, false, false, false, false, false, false, false] rfl rfl (any_of HT_.out (by kernel_rfl)) (fun _ _ _ h => h) (Or.inl ⟨by rfl, ?_⟩) ?_ ?_
                   rotate_left
                   · intro w'
                     go_simp
                     with_reducible rfl
                   rotate_left
                   · simp only [Act.put, List.setIfInBounds_toArray, List.set_cons_zero, List.set_cons_succ, i64_w, i32_w]
                     rfl
                   refine pure_ (i := 8) (N := some 33) (v := ?_) (a' := ?_) #[true, true, false, true, false, true, false, true, true, false, false, false, false, false, false, false] rfl rfl (any_of HT_.out (by kernel_rfl)) (fun _ _ _ h => h) (Or.inl ⟨by rfl, ?_⟩) ?_ ?_
                   rotate_left
                   · intro w'
                     go_simp
                     with_reducible rfl
                   rotate_left
                   · simp only [Act.put, List.setIfInBounds_toArray, List.set_cons_zero, List.set_cons_succ, i64_w, i32_w]
                     rfl
                   refine pure_ (i := 10) (N := some 35) (v := ?_) (a' := ?_) #[true, true, false, true, false, true, false, true, true, false, true, false, false, false, false, false] rfl rfl (any_of HT_.out (by kernel_rfl)) (fun _ _ _ h => h) (Or.inl ⟨by rfl, ?_⟩) ?_ ?_
                   rotate_left
                   · intro w'
                     go_simp
                     with_reducible rfl
                   rotate_left
                   · simp only [Act.put, List.setIfInBounds_toArray, List.set_cons_zero, List.set_cons_succ, i64_w, i32_w]
                     rfl
                   refine pure_ (i := 12) (N := some 37) (v := ?_) (a' := ?_) #[true, true, false, true, false, true, false, true, true, false, true, false, true, false, false, false] rfl rfl (any_of HT_.out (by kernel_rfl)) (fun _ _ _ h => h) (Or.inl ⟨by rfl, ?_⟩) ?_ ?_
                   rotate_left
                   · intro w'
                     go_simp
                     with_reducible rfl
                   rotate_left
                   · simp only [Act.put, List.setIfInBounds_toArray, List.set_cons_zero, List.set_cons_succ, i64_w, i32_w]
                     rfl
                   refine take_ (i := 2) (N := some 27) (v := ?_) (a' := ?_) #[true, true, true, true, false, true, false, true, true, false, true, false, true, false, false, false] rfl rfl (take_ofW HT_.out HW_.out (by kernel_rfl)) (fun _ _ _ h => h) (Or.inl ⟨by rfl, ?_⟩) hHeld ?_ ?_
                   rotate_left
                   · rintro w' ⟨s0, s1⟩
                     go_simp
                     with_reducible rfl
                   rotate_left
                   · simp only [Act.put, List.setIfInBounds_toArray, List.set_cons_zero, List.set_cons_succ, i64_w, i32_w]
                     rfl
                   refine pure_ (i := 4) (N := some 29) (v := ?_) (a' := ?_) #[true, true, true, true, true, true, false, true, true, false, true, false, true, false, false, false] rfl rfl (any_of HT_.out (by kernel_rfl)) (fun _ _ _ h => h) (Or.inl ⟨by rfl, ?_⟩) ?_ ?_
                   rotate_left
                   · intro w'
                     go_simp
                     with_reducible rfl
                   rotate_left
                   · simp only [Act.put, List.setIfInBounds_toArray, List.set_cons_zero, List.set_cons_succ, i64_w, i32_w]
                     rfl
                   refine pure_ (i := 6) (N := some 31) (v := ?_) (a' := ?_) #[true, true, true, true, true, true, true, true, true, false, true, false, true, false, false, false] rfl rfl (any_of HT_.out (by kernel_rfl)) (fun _ _ _ h => h) (Or.inl ⟨by rfl, ?_⟩) ?_ ?_
                   rotate_left
                   · intro w'
                     go_simp
                     with_reducible rfl
                   rotate_left
                   · simp only [Act.put, List.setIfInBounds_toArray, List.set_cons_zero, List.set_cons_succ, i64_w, i32_w]
                     rfl
                   refine take_ (i := 9) (N := some 34) (v := ?_) (a' := ?_) #[true, true, true, true, true, true, true, true, true, true, true, false, true, false, false, false] rfl rfl (take_ofW HT_.out HW_.out (by kernel_rfl)) (fun _ _ _ h => h) (Or.inl ⟨by rfl, ?_⟩) hHeld ?_ ?_
                   rotate_left
                   · rintro w' ⟨s0, s1⟩
                     go_simp
                     with_reducible rfl
                   rotate_left
                   · simp only [Act.put, List.setIfInBounds_toArray, List.set_cons_zero, List.set_cons_succ, i64_w, i32_w]
                     rfl
                   refine pure_ (i := 11) (N := some 36) (v := ?_) (a' := ?_) #[true, true, true, true, true, true, true, true, true, true, true, true, true, false, false, false] rfl rfl (any_of HT_.out (by kernel_rfl)) (fun _ _ _ h => h) (Or.inl ⟨by rfl, ?_⟩) ?_ ?_
                   rotate_left
                   · intro w'
                     go_simp
                     with_reducible rfl
                   rotate_left
                   · simp only [Act.put, List.setIfInBounds_toArray, List.set_cons_zero, List.set_cons_succ, i64_w, i32_w]
                     rfl
                   refine pure_ (i := 13) (N := some 38) (v := ?_) (a' := ?_) #[true, true, true, true, true, true, true, true, true, true, true, true, true, true, false, false] rfl rfl (any_of HT_.out (by kernel_rfl)) (fun _ _ _ h => h) (Or.inl ⟨by rfl, ?_⟩) ?_ ?_
                   rotate_left
                   · intro w'
                     go_simp
                     with_reducible rfl
                   rotate_left
                   · simp only [Act.put, List.setIfInBounds_toArray, List.set_cons_zero, List.set_cons_succ, i64_w, i32_w]
                     rfl
                   refine pure_ (i := 14) (N := some 39) (v := ?_) (a' := ?_) #[true, true, true, true, true, true, true, true, true, true, true, true, true, true, true, false] rfl rfl (any_of HT_.out (by kernel_rfl)) (fun _ _ _ h => h) (Or.inl ⟨by rfl, ?_⟩) ?_ ?_
                   rotate_left
                   · intro w'
                     go_simp
                     with_reducible rfl
                   rotate_left
                   · simp only [Act.put, List.setIfInBounds_toArray, List.set_cons_zero, List.set_cons_succ, i64_w, i32_w]
                     rfl
                   refine pure_ (i := 15) (N := some 6) (v := ?_) (a' := ?_) #[true, true, true, true, true, true, true, true, true, true, true, true, true, true, true, true] rfl rfl (any_of HT_.out (by kernel_rfl)) (fun _ _ _ h => h) (Or.inl ⟨by rfl, ?_⟩) ?_ ?_
                   rotate_left
                   · intro w'
                     go_simp
                     with_reducible rfl
                   rotate_left
                   · simp only [Act.put, List.setIfInBounds_toArray, List.set_cons_zero, List.set_cons_succ, i64_w, i32_w]
                     rfl
                   refine done_ (done_of HT_.out (by kernel_rfl)) ?_
                   try go_wp2_with (first | ((with_reducible refine gate_dst (N := 44) rfl ?_); refine Kd.R_lit (Kd.int .i64) _ 3 ?hg (N := 44) ?hd (xs := ([x4_1, x5_2, 0, 0] : List Int)) (inner := [.int .i64 x4_1, .int .i64 x5_2, .int .i64 0, .int .i64 0]) (ok := fun _ => True) (okp := fun _ => True) ?hr ?hp (fun _ hk => hk) trivial (Below.refl _ _) (Nat.le_refl _) (by simp) ?_; (case hd => rfl); (case hg => rfl); (case hr => first | (go_simp; done) | (go_simp; rfl)); (case hp => exact (Reps.one (show Kd.M (Kd.int .i64) _ _ _ x4_1 [.int .i64 x4_1] from rfl) (Reps.one (show Kd.M (Kd.int .i64) _ _ _ x5_2 [.int .i64 x5_2] from rfl) (Reps.one (show Kd.M (Kd.int .i64) _ _ _ 0 [.int .i64 0] from rfl) (Reps.one (show Kd.M (Kd.int .i64) _ _ _ 0 [.int .i64 0] from rfl) (Reps.none _ _)))))); intro v299 w12 ho13 hb hg_ hnew_; clear hg_ hnew_; (first | rw [← Ny298.out] at ho13 | (simp only [Int.reduceToNat] at ho13; rw [← Ny298.out] at ho13)); have n0_ := Aside0.mk (Kd.R_lower ho13 (below_size z7_)); have n1_ := Aside0.mk (below_step z7_ hb); clear HB; have HO300 := n0_; have HB := n1_; clear n0_ n1_; clear hb ho13; obtain ⟨Ao14, co14, eo14⟩ := Kd.R_slice HO300.out; subst eo14) | ((with_reducible refine gate_callee (f := 106) rfl ?_); refine goesL_ (some 45) rfl rfl Try.func106 (by kernel_rfl) rfl #[.slice Ao14 y298.length co14] rfl z5_ ?_; (with_reducible refine (spec_l5Plain.calls kj3 _ _ y298 t301 _ ?side1 ?side2 A10.out).mono ?_); (case side1 => repeat (first | exact (Kd.R_reads' HO300.out).2.2 | (with_reducible refine Kd.C_alloc ?_ _) | (with_reducible refine Kd.C_drewN ?_ _) | (with_reducible refine Kd.C_drew ?_))); (case side2 => exact (Kd.R_reads' HO300.out).2.1); rintro e w15 ⟨v302, rfl, ho0, hb⟩; refine ⟨_, rfl, ?_⟩; have n0_ := Aside0.mk (Kd.R_elder' (by (with_reducible repeat (first | apply Kd.R_alloc | apply Kd.R_drewN | apply Kd.R_drew)); exact HO300.out) (Kd.R_base ho0) hb); have n1_ := Aside0.mk (Kd.R_lower (Kd.R_new' ho0 (Kd.R_lt (by (with_reducible repeat (first | apply Kd.R_alloc | apply Kd.R_drewN | apply Kd.R_drew)); exact HO300.out))) (below_size z7_)); have n2_ := Aside0.mk (below_step z7_ hb); clear HO300; clear HB; have HO300 := n0_; have HO303 := n1_; have HB := n2_; clear n0_ n1_ n2_; (try clear hb); (try clear hb2); (try clear hk); (try clear hi); (try clear ho0)))
                   go_ret2
                   exact ⟨_, z23_, by (with_reducible repeat (first | apply Kd.R_alloc | apply Kd.R_drewN | apply Kd.R_drew)); exact Kd.R_mono HO303.out (fun _ hk => trivial), z7_⟩
                 · rw [if_neg c9] at H
                   have c9b0 : ((wrap64 ((wrap64 ((wrap64 ((rd l0 0) * x4_1)) * x4_1)) + (wrap64 ((wrap64 ((rd l0 1) * x5_2)) * x5_2)))) == 0) = false := beq_eq_false_iff_ne.mpr c9
                   have c9b1 : ((wrap64 ((wrap64 ((wrap64 ((rd l0 0) * x4_1)) * x4_1)) + (wrap64 ((wrap64 ((rd l0 1) * x5_2)) * x5_2)))) != 0) = true := bne_iff_ne.mpr c9
                   replace H := Option.bind_eq_some_iff.mp H
                   obtain ⟨⟨t304, t305⟩, A160, H⟩ := H
                   replace H : ((spec_l1Size.f t304).bind fun t306 => (if t306 > 30 then (spec_l5Four.l1 kj3 l0 x4_1 (wrap64 (x5_2 + 1))) else (if 2 < (l0.length : Int) then (if 3 < (l0.length : Int) then ((spec_l5Three.f kj3 (([rd l0 2, rd l0 3, t304] : List Int))).bind fun bt312 => (if bt312.2 = true then (if 2 < (bt312.1.length : Int) then (if 0 < (bt312.1.length : Int) then (if 1 < (bt312.1.length : Int) then ((spec_l5Plain.f kj3 (([wrap64 (x4_1 * (rd bt312.1 2)), wrap64 (x5_2 * (rd bt312.1 2)), wrap64 (t305 * (rd bt312.1 0)), wrap64 (t305 * (rd bt312.1 1))] : List Int))).bind fun t323 => (some (t323, true))) else (none)) else (none)) else (none)) else (spec_l5Four.l1 kj3 l0 x4_1 (wrap64 (x5_2 + 1))))) else (none)) else (none)))) = some (r1, r2) := H
                   have A16 := Aside0.mk A160
                   clear A160
                   replace H := Option.bind_eq_some_iff.mp H
                   obtain ⟨t306, A170, H⟩ := H
                   replace H : (if t306 > 30 then (spec_l5Four.l1 kj3 l0 x4_1 (wrap64 (x5_2 + 1))) else (if 2 < (l0.length : Int) then (if 3 < (l0.length : Int) then ((spec_l5Three.f kj3 (([rd l0 2, rd l0 3, t304] : List Int))).bind fun bt312 => (if bt312.2 = true then (if 2 < (bt312.1.length : Int) then (if 0 < (bt312.1.length : Int) then (if 1 < (bt312.1.length : Int) then ((spec_l5Plain.f kj3 (([wrap64 (x4_1 * (rd bt312.1 2)), wrap64 (x5_2 * (rd bt312.1 2)), wrap64 (t305 * (rd bt312.1 0)), wrap64 (t305 * (rd bt312.1 1))] : List Int))).bind fun t323 => (some (t323, true))) else (none)) else (none)) else (none)) else (spec_l5Four.l1 kj3 l0 x4_1 (wrap64 (x5_2 + 1))))) else (none)) else (none))) = some (r1, r2) := H
                   have A17 := Aside0.mk A170
                   clear A170
                   by_cases c18 : t306 > 30
                   · rw [if_pos c18] at H
                     have c18b0 : decide (30 < t306) = true := decide_eq_true c18
                     clear c18
                     have H' := Aside0.mk H
                     clear H
                     try go_wp2
                     have n0_ := Aside0.mk (below_drew1 HB.out)
                     clear HB
                     have HB := n0_
                     clear n0_
                     have p296 : 0 ≤ (0 : Int) := (by omega)
                     have q296 : 0 < (l0.length : Int) := of_decide_eq_true z25_
                     obtain ⟨ad296, e296, hx296_0⟩ := Kd.at_int HR0.out 0 p296 q296
                     have hw296_0 := hx296_0
                     (try rw [show ((0 : Int)).toNat = 0 from rfl] at hw296_0)
                     (try rw [show 0 * 1 = 0 from rfl] at hw296_0)
                     (try rw [Addr.add_zero'] at hw296_0)
                     cases e296
                     have qi296 : (0 < l0.length) = True := eq_true (by omega)
                     (try rw [show ((0 : Int)).toNat = 0 from rfl] at hx296_0)
                     (try rw [Addr.add_zero'] at hx296_0)
                     replace hx296_0 := (HB.out.cell (World.block_lt_of_cell? w _ hx296_0)).trans hx296_0
                     replace p296 := eq_true p296
                     replace q296 := eq_true q296
                     have p297 : 0 ≤ (1 : Int) := (by omega)
                     have q297 : 1 < (l0.length : Int) := of_decide_eq_true z25_
                     obtain ⟨ad297, e297, hx297_0⟩ := Kd.at_int HR0.out 1 p297 q297
                     have hw297_0 := hx297_0
                     (try rw [show ((1 : Int)).toNat = 1 from rfl] at hw297_0)
                     (try rw [show 1 * 1 = 1 from rfl] at hw297_0)
                     (try simp only [Nat.reduceMul, Nat.reduceEqDiff, Go.Addr.add, ↓reduceIte] at hw297_0)
                     obtain rfl : ad296 = ad297 := (by injection e297)
                     (try simp only [show (1 : Int).toNat = 1 from rfl, Nat.reduceMul, Nat.reduceEqDiff, Go.Addr.add, ↓reduceIte] at hx297_0)
                     have qi297 : (1 < l0.length) = True := eq_true (by omega)
                     (try rw [show ((1 : Int)).toNat = 1 from rfl] at hx297_0)
                     replace hx297_0 := (HB.out.cell (World.block_lt_of_cell? w _ hx297_0)).trans hx297_0
                     replace p297 := eq_true p297
                     replace q297 := eq_true q297
                     refine start_ (n := 16) (S := fun w' => w'.cell? ad296 = some (.int .i64 (rd l0 0)) ∧ w'.cell? ⟨ad296.block, ad296.off + 1, none⟩ = some (.int .i64 (rd l0 1))) (ds := []) #[false, false, false, false, false, false, false, false, false, false, false, false, false, false, false, false] (by kernel_rfl) rfl rfl ⟨((HB.out.cell (World.block_lt_of_cell? w _ hw296_0)).trans hw296_0), ((HB.out.cell (World.block_lt_of_cell? w _ hw297_0)).trans hw297_0)⟩ (fun hHeld => ?_); refine with_tabW spec_l5Four.tab8 spec_l5Four.bits8 (fun HT_ HW_ => ?_)
                     generalize wc.drew = w19 at HB hx296_0 hx297_0 hHeld ⊢
                     refine pure_ (i := 0) (N := some 25) (v := ?_) (a' := ?_) #[true, false, false, false, false, false, false, false, false, false, false, false, false, false, false, false] rfl rfl (any_of HT_.out (by kernel_rfl)) (fun _ _ _ h => h) (Or.inl ⟨by rfl, ?_⟩) ?_ ?_
                     rotate_left
                     · intro w'
                       go_simp
                       with_reducible rfl
                     rotate_left
                     · simp only [Act.put, List.setIfInBounds_toArray, List.set_cons_zero, List.set_cons_succ, i64_w, i32_w]
                       rfl
                     refine pure_ (i := 1) (N := some 26) (v := ?_) (a' := ?_) #[true, true, false, false, false, false, false, false, false, false, false, false, false, false, false, false] rfl rfl (any_of HT_.out (by kernel_rfl)) (fun _ _ _ h => h) (Or.inl ⟨by rfl, ?_⟩) ?_ ?_
                     rotate_left
                     · intro w'
                       go_simp
                       with_reducible rfl
                     rotate_left
                     · simp only [Act.put, List.setIfInBounds_toArray, List.set_cons_zero, List.set_cons_succ, i64_w, i32_w]
                       rfl
                     refine pure_ (i := 3) (N := some 28) (v := ?_) (a' := ?_) #[true, true, false, true, false, false, false, false, false, false, false, false, false, false, false, false] rfl rfl (any_of HT_.out (by kernel_rfl)) (fun _ _ _ h => h) (Or.inl ⟨by rfl, ?_⟩) ?_ ?_
                     rotate_left
                     · intro w'
                       go_simp
                       with_reducible rfl
                     rotate_left
                     · simp only [Act.put, List.setIfInBounds_toArray, List.set_cons_zero, List.set_cons_succ, i64_w, i32_w]
                       rfl
                     refine pure_ (i := 5) (N := some 30) (v := ?_) (a' := ?_) #[true, true, false, true, false, true, false, false, false, false, false, false, false, false, false, false] rfl rfl (any_of HT_.out (by kernel_rfl)) (fun _ _ _ h => h) (Or.inl ⟨by rfl, ?_⟩) ?_ ?_
                     rotate_left
                     · intro w'
                       go_simp
                       with_reducible rfl
                     rotate_left
                     · simp only [Act.put, List.setIfInBounds_toArray, List.set_cons_zero, List.set_cons_succ, i64_w, i32_w]
                       rfl
                     refine pure_ (i := 7) (N := some 32) (v := ?_) (a' := ?_) #[true, true, false, true, false, true, false, true, false, false, false, false, false, false, false, false] rfl rfl (any_of HT_.out (by kernel_rfl)) (fun _ _ _ h => h) (Or.inl ⟨by rfl, ?_⟩) ?_ ?_
                     rotate_left
                     · intro w'
                       go_simp
                       with_reducible rfl
                     rotate_left
                     · simp only [Act.put, List.setIfInBounds_toArray, List.set_cons_zero, List.set_cons_succ, i64_w, i32_w]
                       rfl
                     refine pure_ (i := 8) (N := some 33) (v := ?_) (a' := ?_) #[true, true, false, true, false, true, false, true, true, false, false, false, false, false, false, false] rfl rfl (any_of HT_.out (by kernel_rfl)) (fun _ _ _ h => h) (Or.inl ⟨by rfl, ?_⟩) ?_ ?_
                     rotate_left
                     · intro w'
                       go_simp
                       with_reducible rfl
                     rotate_left
                     · simp only [Act.put, List.setIfInBounds_toArray, List.set_cons_zero, List.set_cons_succ, i64_w, i32_w]
                       rfl
                     refine pure_ (i := 10) (N := some 35) (v := ?_) (a' := ?_) #[true, true, false, true, false, true, false, true, true, false, true, false, false, false, false, false] rfl rfl (any_of HT_.out (by kernel_rfl)) (fun _ _ _ h => h) (Or.inl ⟨by rfl, ?_⟩) ?_ ?_
                     rotate_left
                     · intro w'
                       go_simp
                       with_reducible rfl
                     rotate_left
                     · simp only [Act.put, List.setIfInBounds_toArray, List.set_cons_zero, List.set_cons_succ, i64_w, i32_w]
                       rfl
                     refine pure_ (i := 12) (N := some 37) (v := ?_) (a' := ?_) #[true, true, false, true, false, true, false, true, true, false, true, false, true, false, false, false] rfl rfl (any_of HT_.out (by kernel_rfl)) (fun _ _ _ h => h) (Or.inl ⟨by rfl, ?_⟩) ?_ ?_
                     rotate_left
                     · intro w'
                       go_simp
                       with_reducible rfl
                     rotate_left
                     · simp only [Act.put, List.setIfInBounds_toArray, List.set_cons_zero, List.set_cons_succ, i64_w, i32_w]
                       rfl
                     refine take_ (i := 2) (N := some 27) (v := ?_) (a' := ?_) #[true, true, true, true, false, true, false, true, true, false, true, false, true, false, false, false] rfl rfl (take_ofW HT_.out HW_.out (by kernel_rfl)) (fun _ _ _ h => h) (Or.inl ⟨by rfl, ?_⟩) hHeld ?_ ?_
                     rotate_left
                     · rintro w' ⟨s0, s1⟩
                       go_simp
                       with_reducible rfl
                     rotate_left
                     · simp only [Act.put, List.setIfInBounds_toArray, List.set_cons_zero, List.set_cons_succ, i64_w, i32_w]
                       rfl
                     refine pure_ (i := 4) (N := some 29) (v := ?_) (a' := ?_) #[true, true, true, true, true, true, false, true, true, false, true, false, true, false, false, false] rfl rfl (any_of HT_.out (by kernel_rfl)) (fun _ _ _ h => h) (Or.inl ⟨by rfl, ?_⟩) ?_ ?_
                     rotate_left
                     · intro w'
                       go_simp
                       with_reducible rfl
                     rotate_left
                     · simp only [Act.put, List.setIfInBounds_toArray, List.set_cons_zero, List.set_cons_succ, i64_w, i32_w]
                       rfl
                     refine pure_ (i := 6) (N := some 31) (v := ?_) (a' := ?_) #[true, true, true, true, true, true, true, true, true, false, true, false, true, false, false, false] rfl rfl (any_of HT_.out (by kernel_rfl)) (fun _ _ _ h => h) (Or.inl ⟨by rfl, ?_⟩) ?_ ?_
                     rotate_left
                     · intro w'
                       go_simp
                       with_reducible rfl
                     rotate_left
                     · simp only [Act.put, List.setIfInBounds_toArray, List.set_cons_zero, List.set_cons_succ, i64_w, i32_w]
                       rfl
                     refine take_ (i := 9) (N := some 34) (v := ?_) (a' := ?_) #[true, true, true, true, true, true, true, true, true, true, true, false, true, false, false, false] rfl rfl (take_ofW HT_.out HW_.out (by kernel_rfl)) (fun _ _ _ h => h) (Or.inl ⟨by rfl, ?_⟩) hHeld ?_ ?_
                     rotate_left
                     · rintro w' ⟨s0, s1⟩
                       go_simp
                       with_reducible rfl
                     rotate_left
                     · simp only [Act.put, List.setIfInBounds_toArray, List.set_cons_zero, List.set_cons_succ, i64_w, i32_w]
                       rfl
                     refine pure_ (i := 11) (N := some 36) (v := ?_) (a' := ?_) #[true, true, true, true, true, true, true, true, true, true, true, true, true, false, false, false] rfl rfl (any_of HT_.out (by kernel_rfl)) (fun _ _ _ h => h) (Or.inl ⟨by rfl, ?_⟩) ?_ ?_
                     rotate_left
                     · intro w'
                       go_simp
                       with_reducible rfl
                     rotate_left
                     · simp only [Act.put, List.setIfInBounds_toArray, List.set_cons_zero, List.set_cons_succ, i64_w, i32_w]
                       rfl
                     refine pure_ (i := 13) (N := some 38) (v := ?_) (a' := ?_) #[true, true, true, true, true, true, true, true, true, true, true, true, true, true, false, false] rfl rfl (any_of HT_.out (by kernel_rfl)) (fun _ _ _ h => h) (Or.inl ⟨by rfl, ?_⟩) ?_ ?_
                     rotate_left
                     · intro w'
                       go_simp
                       with_reducible rfl
                     rotate_left
                     · simp only [Act.put, List.setIfInBounds_toArray, List.set_cons_zero, List.set_cons_succ, i64_w, i32_w]
                       rfl
                     refine pure_ (i := 14) (N := some 39) (v := ?_) (a' := ?_) #[true, true, true, true, true, true, true, true, true, true, true, true, true, true, true, false] rfl rfl (any_of HT_.out (by kernel_rfl)) (fun _ _ _ h => h) (Or.inl ⟨by rfl, ?_⟩) ?_ ?_
                     rotate_left
                     · intro w'
                       go_simp
                       with_reducible rfl
                     rotate_left
                     · simp only [Act.put, List.setIfInBounds_toArray, List.set_cons_zero, List.set_cons_succ, i64_w, i32_w]
                       rfl
                     refine pure_ (i := 15) (N := some 6) (v := ?_) (a' := ?_) #[true, true, true, true, true, true, true, true, true, true, true, true, true, true, true, true] rfl rfl (any_of HT_.out (by kernel_rfl)) (fun _ _ _ h => h) (Or.inl ⟨by rfl, ?_⟩) ?_ ?_
                     rotate_left
                     · intro w'
                       go_simp
                       with_reducible rfl
                     rotate_left
                     · simp only [Act.put, List.setIfInBounds_toArray, List.set_cons_zero, List.set_cons_succ, i64_w, i32_w]
                       rfl
                     refine done_ (done_of HT_.out (by kernel_rfl)) ?_
                     try go_wp2_with (first | ((with_reducible refine gate_callee (f := 113) rfl ?_); refine goesL_ (some 48) rfl rfl Try.func113 (by kernel_rfl) rfl #[.int .i64 (wrap64 ((wrap64 ((wrap64 ((rd l0 0) * x4_1)) * x4_1)) + (wrap64 ((wrap64 ((rd l0 1) * x5_2)) * x5_2))))] rfl z5_ ?_; (with_reducible refine (spec_l1Core.calls kj3 (wrap64 ((wrap64 ((wrap64 ((rd l0 0) * x4_1)) * x4_1)) + (wrap64 ((wrap64 ((rd l0 1) * x5_2)) * x5_2)))) t304 t305 _ A16.out).mono ?_); rintro e w20 ⟨rfl, hb⟩; refine ⟨_, rfl, ?_⟩; have n0_ := Aside0.mk (below_step z7_ hb); clear HB; have HB := n0_; clear n0_; (try clear hb); (try clear hb2); (try clear hk); (try clear hi)) | ((with_reducible refine gate_callee (f := 104) rfl ?_); refine goesL_ (some 52) rfl rfl Try.func104 (by kernel_rfl) rfl #[.int .i64 t304] rfl z5_ ?_; (with_reducible refine (spec_l1Size.calls t304 t306 _ A17.out).mono ?_); rintro e w21 ⟨rfl, hb⟩; refine ⟨_, rfl, ?_⟩; have n0_ := Aside0.mk (below_step z7_ hb); clear HB; have HB := n0_; clear n0_; (try clear hb); (try clear hb2); (try clear hk); (try clear hi)))
                     go_roundg kj3
                     case measure => have := HK1.out; have := HK2.out; have := HJ3.out; omega
                     case rel => exact ⟨(wrap64 (x5_2 + 1)), z26_, H', ⟨by have := HK1.out; have := HK2.out; have := HJ3.out; omega⟩, ⟨z7_⟩⟩
                   · rw [if_neg c18] at H
                     have c18b0 : decide (30 < t306) = false := decide_eq_false c18
                     clear c18
                     by_cases c22 : 2 < (l0.length : Int)
                     · rw [if_pos c22] at H
                       have c22b0 : decide (2 < (l0.length : Int)) = true := decide_eq_true c22
                       have c22b1 : decide (2 < l0.length) = true := decide_eq_true (by omega)
                       clear c22
                       by_cases c23 : 3 < (l0.length : Int)
                       · rw [if_pos c23] at H
                         have c23b0 : decide (3 < (l0.length : Int)) = true := decide_eq_true c23
                         have c23b1 : decide (3 < l0.length) = true := decide_eq_true (by omega)
                         clear c23
                         obtain ⟨y309, hy309⟩ : ∃ y_ : List Int, y_ = (([rd l0 2, rd l0 3, t304] : List Int)) := ⟨_, rfl⟩
                         replace H : ((spec_l5Three.f kj3 y309).bind fun bt312 => (if bt312.2 = true then (if 2 < (bt312.1.length : Int) then (if 0 < (bt312.1.length : Int) then (if 1 < (bt312.1.length : Int) then ((spec_l5Plain.f kj3 (([wrap64 (x4_1 * (rd bt312.1 2)), wrap64 (x5_2 * (rd bt312.1 2)), wrap64 (t305 * (rd bt312.1 0)), wrap64 (t305 * (rd bt312.1 1))] : List Int))).bind fun t323 => (some (t323, true))) else (none)) else (none)) else (none)) else (spec_l5Four.l1 kj3 l0 x4_1 (wrap64 (x5_2 + 1))))) = some (r1, r2) := by first | (rw [hy309]; with_reducible exact H) | (have H2_ := (Option.bind_some _ _).symm.trans H; rw [hy309]; with_reducible exact H2_) | (have H2_ := (Option.bind_some _ _).symm.trans H; with_reducible exact H2_) | with_reducible exact H | (rw [hy309]; exact H) | exact H
                         have Ny309 := Aside0.mk hy309
                         clear hy309
                         replace H := Option.bind_eq_some_iff.mp H
                         obtain ⟨⟨t312, t313⟩, A240, H⟩ := H
                         replace H : (if t313 = true then (if 2 < (t312.length : Int) then (if 0 < (t312.length : Int) then (if 1 < (t312.length : Int) then ((spec_l5Plain.f kj3 (([wrap64 (x4_1 * (rd t312 2)), wrap64 (x5_2 * (rd t312 2)), wrap64 (t305 * (rd t312 0)), wrap64 (t305 * (rd t312 1))] : List Int))).bind fun t323 => (some (t323, true))) else (none)) else (none)) else (none)) else (spec_l5Four.l1 kj3 l0 x4_1 (wrap64 (x5_2 + 1)))) = some (r1, r2) := H
                         have A24 := Aside0.mk A240
                         clear A240
                         by_cases c25 : t313 = true
                         · subst c25
                           have H1 : (if 2 < (t312.length : Int) then (if 0 < (t312.length : Int) then (if 1 < (t312.length : Int) then ((spec_l5Plain.f kj3 (([wrap64 (x4_1 * (rd t312 2)), wrap64 (x5_2 * (rd t312 2)), wrap64 (t305 * (rd t312 0)), wrap64 (t305 * (rd t312 1))] : List Int))).bind fun t323 => (some (t323, true))) else (none)) else (none)) else (none)) = some (r1, r2) := by rw [if_pos rfl] at H; exact H
                           clear H
                           have H := H1
                           clear H1
                           by_cases c26 : 2 < (t312.length : Int)
                           · rw [if_pos c26] at H
                             have c26b0 : decide (2 < (t312.length : Int)) = true := decide_eq_true c26
                             have c26b1 : decide (2 < t312.length) = true := decide_eq_true (by omega)
                             clear c26
                             by_cases c27 : 0 < (t312.length : Int)
                             · rw [if_pos c27] at H
                               have c27b0 : decide (0 < (t312.length : Int)) = true := decide_eq_true c27
                               have c27b1 : decide (0 < t312.length) = true := decide_eq_true (by omega)
                               clear c27
                               by_cases c28 : 1 < (t312.length : Int)
                               · rw [if_pos c28] at H
                                 have c28b0 : decide (1 < (t312.length : Int)) = true := decide_eq_true c28
                                 have c28b1 : decide (1 < t312.length) = true := decide_eq_true (by omega)
                                 clear c28
                                 obtain ⟨y320, hy320⟩ : ∃ y_ : List Int, y_ = (([wrap64 (x4_1 * (rd t312 2)), wrap64 (x5_2 * (rd t312 2)), wrap64 (t305 * (rd t312 0)), wrap64 (t305 * (rd t312 1))] : List Int)) := ⟨_, rfl⟩
                                 replace H : ((spec_l5Plain.f kj3 y320).bind fun t323 => (some (t323, true))) = some (r1, r2) := by first | (rw [hy320]; with_reducible exact H) | (have H2_ := (Option.bind_some _ _).symm.trans H; rw [hy320]; with_reducible exact H2_) | (have H2_ := (Option.bind_some _ _).symm.trans H; with_reducible exact H2_) | with_reducible exact H | (rw [hy320]; exact H) | exact H
                                 have Ny320 := Aside0.mk hy320
                                 clear hy320
                                 replace H := Option.bind_eq_some_iff.mp H
                                 obtain ⟨t323, A290, H⟩ := H
                                 replace H : (some (t323, true)) = some (r1, r2) := H
                                 have A29 := Aside0.mk A290
                                 clear A290
                                 simp only [Option.some.injEq, Prod.mk.injEq] at H
                                 obtain ⟨rfl, rfl⟩ := H
                                 try go_wp2
                                 have n0_ := Aside0.mk (below_drew1 HB.out)
                                 clear HB
                                 have HB := n0_
                                 clear n0_
                                 have p296 : 0 ≤ (0 : Int) := (by omega)
                                 have q296 : 0 < (l0.length : Int) := of_decide_eq_true z25_
                                 obtain ⟨ad296, e296, hx296_0⟩ := Kd.at_int HR0.out 0 p296 q296
                                 have hw296_0 := hx296_0
                                 (try rw [show ((0 : Int)).toNat = 0 from rfl] at hw296_0)
                                 (try rw [show 0 * 1 = 0 from rfl] at hw296_0)
                                 (try rw [Addr.add_zero'] at hw296_0)
                                 cases e296
                                 have qi296 : (0 < l0.length) = True := eq_true (by omega)
                                 (try rw [show ((0 : Int)).toNat = 0 from rfl] at hx296_0)
                                 (try rw [Addr.add_zero'] at hx296_0)
                                 replace hx296_0 := (HB.out.cell (World.block_lt_of_cell? w _ hx296_0)).trans hx296_0
                                 replace p296 := eq_true p296
                                 replace q296 := eq_true q296
                                 have p297 : 0 ≤ (1 : Int) := (by omega)
                                 have q297 : 1 < (l0.length : Int) := of_decide_eq_true z25_
                                 obtain ⟨ad297, e297, hx297_0⟩ := Kd.at_int HR0.out 1 p297 q297
                                 have hw297_0 := hx297_0
                                 (try rw [show ((1 : Int)).toNat = 1 from rfl] at hw297_0)
                                 (try rw [show 1 * 1 = 1 from rfl] at hw297_0)
                                 (try simp only [Nat.reduceMul, Nat.reduceEqDiff, Go.Addr.add, ↓reduceIte] at hw297_0)
                                 obtain rfl : ad296 = ad297 := (by injection e297)
                                 (try simp only [show (1 : Int).toNat = 1 from rfl, Nat.reduceMul, Nat.reduceEqDiff, Go.Addr.add, ↓reduceIte] at hx297_0)
                                 have qi297 : (1 < l0.length) = True := eq_true (by omega)
                                 (try rw [show ((1 : Int)).toNat = 1 from rfl] at hx297_0)
                                 replace hx297_0 := (HB.out.cell (World.block_lt_of_cell? w _ hx297_0)).trans hx297_0
                                 replace p297 := eq_true p297
                                 replace q297 := eq_true q297
                                 refine start_ (n := 16) (S := fun w' => w'.cell? ad296 = some (.int .i64 (rd l0 0)) ∧ w'.cell? ⟨ad296.block, ad296.off + 1, none⟩ = some (.int .i64 (rd l0 1))) (ds := []) #[false, false, false, false, false, false, false, false, false, false, false, false, false, false, false, false] (by kernel_rfl) rfl rfl ⟨((HB.out.cell (World.block_lt_of_cell? w _ hw296_0)).trans hw296_0), ((HB.out.cell (World.block_lt_of_cell? w _ hw297_0)).trans hw297_0)⟩ (fun hHeld => ?_); refine with_tabW spec_l5Four.tab8 spec_l5Four.bits8 (fun HT_ HW_ => ?_)
                                 generalize wc.drew = w30 at HB hx296_0 hx297_0 hHeld ⊢
                                 refine pure_ (i := 0) (N := some 25) (v := ?_) (a' := ?_) #[true, false, false, false, false, false, false, false, false, false, false, false, false, false, false, false] rfl rfl (any_of HT_.out (by kernel_rfl)) (fun _ _ _ h => h) (Or.inl ⟨by rfl, ?_⟩) ?_ ?_
                                 rotate_left
                                 · intro w'
                                   go_simp
                                   with_reducible rfl
                                 rotate_left
                                 · simp only [Act.put, List.setIfInBounds_toArray, List.set_cons_zero, List.set_cons_succ, i64_w, i32_w]
                                   rfl
                                 refine pure_ (i := 1) (N := some 26) (v := ?_) (a' := ?_) #[true, true, false, false, false, false, false, false, false, false, false, false, false, false, false, false] rfl rfl (any_of HT_.out (by kernel_rfl)) (fun _ _ _ h => h) (Or.inl ⟨by rfl, ?_⟩) ?_ ?_
                                 rotate_left
                                 · intro w'
                                   go_simp
                                   with_reducible rfl
                                 rotate_left
                                 · simp only [Act.put, List.setIfInBounds_toArray, List.set_cons_zero, List.set_cons_succ, i64_w, i32_w]
                                   rfl
                                 refine pure_ (i := 3) (N := some 28) (v := ?_) (a' := ?_) #[true, true, false, true, false, false, false, false, false, false, false, false, false, false, false, false] rfl rfl (any_of HT_.out (by kernel_rfl)) (fun _ _ _ h => h) (Or.inl ⟨by rfl, ?_⟩) ?_ ?_
                                 rotate_left
                                 · intro w'
                                   go_simp
                                   with_reducible rfl
                                 rotate_left
                                 · simp only [Act.put, List.setIfInBounds_toArray, List.set_cons_zero, List.set_cons_succ, i64_w, i32_w]
                                   rfl
                                 refine pure_ (i := 5) (N := some 30) (v := ?_) (a' := ?_) #[true, true, false, true, false, true, false, false, false, false, false, false, false, false, false, false] rfl rfl (any_of HT_.out (by kernel_rfl)) (fun _ _ _ h => h) (Or.inl ⟨by rfl, ?_⟩) ?_ ?_
                                 rotate_left
                                 · intro w'
                                   go_simp
                                   with_reducible rfl
                                 rotate_left
                                 · simp only [Act.put, List.setIfInBounds_toArray, List.set_cons_zero, List.set_cons_succ, i64_w, i32_w]
                                   rfl
                                 refine pure_ (i := 7) (N := some 32) (v := ?_) (a' := ?_) #[true, true, false, true, false, true, false, true, false, false, false, false, false, false, false, false] rfl rfl (any_of HT_.out (by kernel_rfl)) (fun _ _ _ h => h) (Or.inl ⟨by rfl, ?_⟩) ?_ ?_
                                 rotate_left
                                 · intro w'
                                   go_simp
                                   with_reducible rfl
                                 rotate_left
                                 · simp only [Act.put, List.setIfInBounds_toArray, List.set_cons_zero, List.set_cons_succ, i64_w, i32_w]
                                   rfl
                                 refine pure_ (i := 8) (N := some 33) (v := ?_) (a' := ?_) #[true, true, false, true, false, true, false, true, true, false, false, false, false, false, false, false] rfl rfl (any_of HT_.out (by kernel_rfl)) (fun _ _ _ h => h) (Or.inl ⟨by rfl, ?_⟩) ?_ ?_
                                 rotate_left
                                 · intro w'
                                   go_simp
                                   with_reducible rfl
                                 rotate_left
                                 · simp only [Act.put, List.setIfInBounds_toArray, List.set_cons_zero, List.set_cons_succ, i64_w, i32_w]
                                   rfl
                                 refine pure_ (i := 10) (N := some 35) (v := ?_) (a' := ?_) #[true, true, false, true, false, true, false, true, true, false, true, false, false, false, false, false] rfl rfl (any_of HT_.out (by kernel_rfl)) (fun _ _ _ h => h) (Or.inl ⟨by rfl, ?_⟩) ?_ ?_
                                 rotate_left
                                 · intro w'
                                   go_simp
                                   with_reducible rfl
                                 rotate_left
                                 · simp only [Act.put, List.setIfInBounds_toArray, List.set_cons_zero, List.set_cons_succ, i64_w, i32_w]
                                   rfl
                                 refine pure_ (i := 12) (N := some 37) (v := ?_) (a' := ?_) #[true, true, false, true, false, true, false, true, true, false, true, false, true, false, false, false] rfl rfl (any_of HT_.out (by kernel_rfl)) (fun _ _ _ h => h) (Or.inl ⟨by rfl, ?_⟩) ?_ ?_
                                 rotate_left
                                 · intro w'
                                   go_simp
                                   with_reducible rfl
                                 rotate_left
                                 · simp only [Act.put, List.setIfInBounds_toArray, List.set_cons_zero, List.set_cons_succ, i64_w, i32_w]
                                   rfl
                                 refine take_ (i := 2) (N := some 27) (v := ?_) (a' := ?_) #[true, true, true, true, false, true, false, true, true, false, true, false, true, false, false, false] rfl rfl (take_ofW HT_.out HW_.out (by kernel_rfl)) (fun _ _ _ h => h) (Or.inl ⟨by rfl, ?_⟩) hHeld ?_ ?_
                                 rotate_left
                                 · rintro w' ⟨s0, s1⟩
                                   go_simp
                                   with_reducible rfl
                                 rotate_left
                                 · simp only [Act.put, List.setIfInBounds_toArray, List.set_cons_zero, List.set_cons_succ, i64_w, i32_w]
                                   rfl
                                 refine pure_ (i := 4) (N := some 29) (v := ?_) (a' := ?_) #[true, true, true, true, true, true, false, true, true, false, true, false, true, false, false, false] rfl rfl (any_of HT_.out (by kernel_rfl)) (fun _ _ _ h => h) (Or.inl ⟨by rfl, ?_⟩) ?_ ?_
                                 rotate_left
                                 · intro w'
                                   go_simp
                                   with_reducible rfl
                                 rotate_left
                                 · simp only [Act.put, List.setIfInBounds_toArray, List.set_cons_zero, List.set_cons_succ, i64_w, i32_w]
                                   rfl
                                 refine pure_ (i := 6) (N := some 31) (v := ?_) (a' := ?_) #[true, true, true, true, true, true, true, true, true, false, true, false, true, false, false, false] rfl rfl (any_of HT_.out (by kernel_rfl)) (fun _ _ _ h => h) (Or.inl ⟨by rfl, ?_⟩) ?_ ?_
                                 rotate_left
                                 · intro w'
                                   go_simp
                                   with_reducible rfl
                                 rotate_left
                                 · simp only [Act.put, List.setIfInBounds_toArray, List.set_cons_zero, List.set_cons_succ, i64_w, i32_w]
                                   rfl
                                 refine take_ (i := 9) (N := some 34) (v := ?_) (a' := ?_) #[true, true, true, true, true, true, true, true, true, true, true, false, true, false, false, false] rfl rfl (take_ofW HT_.out HW_.out (by kernel_rfl)) (fun _ _ _ h => h) (Or.inl ⟨by rfl, ?_⟩) hHeld ?_ ?_
                                 rotate_left
                                 · rintro w' ⟨s0, s1⟩
                                   go_simp
                                   with_reducible rfl
                                 rotate_left
                                 · simp only [Act.put, List.setIfInBounds_toArray, List.set_cons_zero, List.set_cons_succ, i64_w, i32_w]
                                   rfl
                                 refine pure_ (i := 11) (N := some 36) (v := ?_) (a' := ?_) #[true, true, true, true, true, true, true, true, true, true, true, true, true, false, false, false] rfl rfl (any_of HT_.out (by kernel_rfl)) (fun _ _ _ h => h) (Or.inl ⟨by rfl, ?_⟩) ?_ ?_
                                 rotate_left
                                 · intro w'
                                   go_simp
                                   with_reducible rfl
                                 rotate_left
                                 · simp only [Act.put, List.setIfInBounds_toArray, List.set_cons_zero, List.set_cons_succ, i64_w, i32_w]
                                   rfl
                                 refine pure_ (i := 13) (N := some 38) (v := ?_) (a' := ?_) #[true, true, true, true, true, true, true, true, true, true, true, true, true, true, false, false] rfl rfl (any_of HT_.out (by kernel_rfl)) (fun _ _ _ h => h) (Or.inl ⟨by rfl, ?_⟩) ?_ ?_
                                 rotate_left
                                 · intro w'
                                   go_simp
                                   with_reducible rfl
                                 rotate_left
                                 · simp only [Act.put, List.setIfInBounds_toArray, List.set_cons_zero, List.set_cons_succ, i64_w, i32_w]
                                   rfl
                                 refine pure_ (i := 14) (N := some 39) (v := ?_) (a' := ?_) #[true, true, true, true, true, true, true, true, true, true, true, true, true, true, true, false] rfl rfl (any_of HT_.out (by kernel_rfl)) (fun _ _ _ h => h) (Or.inl ⟨by rfl, ?_⟩) ?_ ?_
                                 rotate_left
                                 · intro w'
                                   go_simp
                                   with_reducible rfl
                                 rotate_left
                                 · simp only [Act.put, List.setIfInBounds_toArray, List.set_cons_zero, List.set_cons_succ, i64_w, i32_w]
                                   rfl
                                 refine pure_ (i := 15) (N := some 6) (v := ?_) (a' := ?_) #[true, true, true, true, true, true, true, true, true, true, true, true, true, true, true, true] rfl rfl (any_of HT_.out (by kernel_rfl)) (fun _ _ _ h => h) (Or.inl ⟨by rfl, ?_⟩) ?_ ?_
                                 rotate_left
                                 · intro w'
                                   go_simp
                                   with_reducible rfl
                                 rotate_left
                                 · simp only [Act.put, List.setIfInBounds_toArray, List.set_cons_zero, List.set_cons_succ, i64_w, i32_w]
                                   rfl
                                 refine done_ (done_of HT_.out (by kernel_rfl)) ?_
                                 try go_wp2_with (first | ((with_reducible refine gate_callee (f := 113) rfl ?_); refine goesL_ (some 48) rfl rfl Try.func113 (by kernel_rfl) rfl #[.int .i64 (wrap64 ((wrap64 ((wrap64 ((rd l0 0) * x4_1)) * x4_1)) + (wrap64 ((wrap64 ((rd l0 1) * x5_2)) * x5_2))))] rfl z5_ ?_; (with_reducible refine (spec_l1Core.calls kj3 (wrap64 ((wrap64 ((wrap64 ((rd l0 0) * x4_1)) * x4_1)) + (wrap64 ((wrap64 ((rd l0 1) * x5_2)) * x5_2)))) t304 t305 _ A16.out).mono ?_); rintro e w31 ⟨rfl, hb⟩; refine ⟨_, rfl, ?_⟩; have n0_ := Aside0.mk (below_step z7_ hb); clear HB; have HB := n0_; clear n0_; (try clear hb); (try clear hb2); (try clear hk); (try clear hi)) | ((with_reducible refine gate_callee (f := 104) rfl ?_); refine goesL_ (some 52) rfl rfl Try.func104 (by kernel_rfl) rfl #[.int .i64 t304] rfl z5_ ?_; (with_reducible refine (spec_l1Size.calls t304 t306 _ A17.out).mono ?_); rintro e w32 ⟨rfl, hb⟩; refine ⟨_, rfl, ?_⟩; have n0_ := Aside0.mk (below_step z7_ hb); clear HB; have HB := n0_; clear n0_; (try clear hb); (try clear hb2); (try clear hk); (try clear hi)))
                                 have n0_ := Aside0.mk (below_drew1 HB.out)
                                 clear HB
                                 have HB := n0_
                                 clear n0_
                                 have p307 : 0 ≤ (2 : Int) := (by omega)
                                 have q307 : 2 < (l0.length : Int) := of_decide_eq_true z25_
                                 obtain ⟨ad307, e307, hx307_0⟩ := Kd.at_int HR0.out 2 p307 q307
                                 have hw307_0 := hx307_0
                                 (try rw [show ((2 : Int)).toNat = 2 from rfl] at hw307_0)
                                 (try rw [show 2 * 1 = 2 from rfl] at hw307_0)
                                 (try simp only [Nat.reduceMul, Nat.reduceEqDiff, Go.Addr.add, ↓reduceIte] at hw307_0)
                                 obtain rfl : ad296 = ad307 := (by injection e307)
                                 (try simp only [show (2 : Int).toNat = 2 from rfl, Nat.reduceMul, Nat.reduceEqDiff, Go.Addr.add, ↓reduceIte] at hx307_0)
                                 have qi307 : (2 < l0.length) = True := eq_true (by omega)
                                 (try rw [show ((2 : Int)).toNat = 2 from rfl] at hx307_0)
                                 replace hx307_0 := (HB.out.cell (World.block_lt_of_cell? w _ hx307_0)).trans hx307_0
                                 replace p307 := eq_true p307
                                 replace q307 := eq_true q307
                                 have p308 : 0 ≤ (3 : Int) := (by omega)
                                 have q308 : 3 < (l0.length : Int) := of_decide_eq_true z25_
                                 obtain ⟨ad308, e308, hx308_0⟩ := Kd.at_int HR0.out 3 p308 q308
                                 have hw308_0 := hx308_0
                                 (try rw [show ((3 : Int)).toNat = 3 from rfl] at hw308_0)
                                 (try rw [show 3 * 1 = 3 from rfl] at hw308_0)
                                 (try simp only [Nat.reduceMul, Nat.reduceEqDiff, Go.Addr.add, ↓reduceIte] at hw308_0)
                                 obtain rfl : ad296 = ad308 := (by injection e308)
                                 (try simp only [show (3 : Int).toNat = 3 from rfl, Nat.reduceMul, Nat.reduceEqDiff, Go.Addr.add, ↓reduceIte] at hx308_0)
                                 have qi308 : (3 < l0.length) = True := eq_true (by omega)
                                 (try rw [show ((3 : Int)).toNat = 3 from rfl] at hx308_0)
                                 replace hx308_0 := (HB.out.cell (World.block_lt_of_cell? w _ hx308_0)).trans hx308_0
                                 replace p308 := eq_true p308
                                 replace q308 := eq_true q308
                                 refine start_ (n := 14) (S := fun w' => w'.cell? ⟨ad296.block, ad296.off + 2, none⟩ = some (.int .i64 (rd l0 2)) ∧ w'.cell? ⟨ad296.block, ad296.off + 3, none⟩ = some (.int .i64 (rd l0 3))) (ds := []) #[false, false, false, false, false, false, false, false, false, false, false, false, false, false] (by kernel_rfl) rfl rfl ⟨((HB.out.cell (World.block_lt_of_cell? w _ hw307_0)).trans hw307_0), ((HB.out.cell (World.block_lt_of_cell? w _ hw308_0)).trans hw308_0)⟩ (fun hHeld => ?_); refine with_tabW spec_l5Four.tab13 spec_l5Four.bits13 (fun HT_ HW_ => ?_)
                                 generalize w32.drew = w33 at HB hx307_0 hx308_0 hHeld ⊢
                                 refine pure_ (i := 0) (N := some 55) (v := ?_) (a' := ?_) #[true, false, false, false, false, false, false, false, false, false, false, false, false, false] rfl rfl (any_of HT_.out (by kernel_rfl)) (fun _ _ _ h => h) (Or.inl ⟨by rfl, ?_⟩) ?_ ?_
                                 rotate_left
                                 · intro w'
                                   go_simp
                                   with_reducible rfl
                                 rotate_left
                                 · simp only [Act.put, List.setIfInBounds_toArray, List.set_cons_zero, List.set_cons_succ, i64_w, i32_w]
                                   rfl
                                 refine pure_ (i := 1) (N := some 56) (v := ?_) (a' := ?_) #[true, true, false, false, false, false, false, false, false, false, false, false, false, false] rfl rfl (any_of HT_.out (by kernel_rfl)) (fun _ _ _ h => h) (Or.inl ⟨by rfl, ?_⟩) ?_ ?_
                                 rotate_left
                                 · intro w'
                                   go_simp
                                   with_reducible rfl
                                 rotate_left
                                 · simp only [Act.put, List.setIfInBounds_toArray, List.set_cons_zero, List.set_cons_succ, i64_w, i32_w]
                                   rfl
                                 refine pure_ (i := 3) (N := some 58) (v := ?_) (a' := ?_) #[true, true, false, true, false, false, false, false, false, false, false, false, false, false] rfl rfl (any_of HT_.out (by kernel_rfl)) (fun _ _ _ h => h) (Or.inl ⟨by rfl, ?_⟩) ?_ ?_
                                 rotate_left
                                 · intro w'
                                   go_simp
                                   with_reducible rfl
                                 rotate_left
                                 · simp only [Act.put, List.setIfInBounds_toArray, List.set_cons_zero, List.set_cons_succ, i64_w, i32_w]
                                   rfl
                                 refine pure_ (i := 4) (N := some 59) (v := ?_) (a' := ?_) #[true, true, false, true, true, false, false, false, false, false, false, false, false, false] rfl rfl (any_of HT_.out (by kernel_rfl)) (fun _ _ _ h => h) (Or.inl ⟨by rfl, ?_⟩) ?_ ?_
                                 rotate_left
                                 · intro w'
                                   go_simp
                                   with_reducible rfl
                                 rotate_left
                                 · simp only [Act.put, List.setIfInBounds_toArray, List.set_cons_zero, List.set_cons_succ, i64_w, i32_w]
                                   rfl
                                 refine pure_ (i := 6) (N := some 61) (v := ?_) (a' := ?_) #[true, true, false, true, true, false, true, false, false, false, false, false, false, false] rfl rfl (any_of HT_.out (by kernel_rfl)) (fun _ _ _ h => h) (Or.inl ⟨by rfl, ?_⟩) ?_ ?_
                                 rotate_left
                                 · intro w'
                                   go_simp
                                   with_reducible rfl
                                 rotate_left
                                 · simp only [Act.put, List.setIfInBounds_toArray, List.set_cons_zero, List.set_cons_succ, i64_w, i32_w]
                                   rfl
                                 refine take_ (i := 2) (N := some 57) (v := ?_) (a' := ?_) #[true, true, true, true, true, false, true, false, false, false, false, false, false, false] rfl rfl (take_ofW HT_.out HW_.out (by kernel_rfl)) (fun _ _ _ h => h) (Or.inl ⟨by rfl, ?_⟩) hHeld ?_ ?_
                                 rotate_left
                                 · rintro w' ⟨s0, s1⟩
                                   go_simp
                                   with_reducible rfl
                                 rotate_left
                                 · simp only [Act.put, List.setIfInBounds_toArray, List.set_cons_zero, List.set_cons_succ, i64_w, i32_w]
                                   rfl
                                 refine take_ (i := 5) (N := some 60) (v := ?_) (a' := ?_) #[true, true, true, true, true, true, true, false, false, false, false, false, false, false] rfl rfl (take_ofW HT_.out HW_.out (by kernel_rfl)) (fun _ _ _ h => h) (Or.inl ⟨by rfl, ?_⟩) hHeld ?_ ?_
                                 rotate_left
                                 · rintro w' ⟨s0, s1⟩
                                   go_simp
                                   with_reducible rfl
                                 rotate_left
                                 · simp only [Act.put, List.setIfInBounds_toArray, List.set_cons_zero, List.set_cons_succ, i64_w, i32_w]
                                   rfl
                                 refine one_ (i := 7) (N := some 62) #[true, true, true, true, true, true, true, true, false, false, false, false, false, false] rfl rfl (one_of HT_.out (by kernel_rfl)) (by decide) (fun K hK => ?_)
                                 refine Kd.R_lit_step (Kd.int .i64) _ 3 ?hg (N := 62) ?hd (xs := ([rd l0 2, rd l0 3, t304] : List Int)) (inner := [.int .i64 (rd l0 2), .int .i64 (rd l0 3), .int .i64 t304]) (ok := fun _ => True) (okp := fun _ => True) ?hr ?hp (fun _ hk => hk) trivial (Below.refl _ _) (Nat.le_refl _) (by simp) ?_; (case hd => rfl); (case hg => rfl); (case hr => first | (go_simp; done) | (go_simp; rfl)); (case hp => exact (Reps.one (show Kd.M (Kd.int .i64) _ _ _ (rd l0 2) [.int .i64 (rd l0 2)] from rfl) (Reps.one (show Kd.M (Kd.int .i64) _ _ _ (rd l0 3) [.int .i64 (rd l0 3)] from rfl) (Reps.one (show Kd.M (Kd.int .i64) _ _ _ t304 [.int .i64 t304] from rfl) (Reps.none _ _)))))
                                 intro v310 w34 ho35 hb hg_ hnew_
                                 clear hg_ hnew_
                                 (first | rw [← Ny309.out] at ho35 | (simp only [Int.reduceToNat] at ho35; rw [← Ny309.out] at ho35))
                                 have n0_ := Aside0.mk (Kd.R_lower ho35 (below_size z7_))
                                 have n1_ := Aside0.mk (below_step z7_ hb)
                                 clear HB
                                 have HO311 := n0_
                                 have HB := n1_
                                 clear n0_ n1_
                                 clear hb ho35
                                 obtain ⟨Ao36, co36, eo36⟩ := Kd.R_slice HO311.out
                                 (first | subst eo36 | (injection eo36 with f1_ f2_ f3_; have f4_ := f1_.symm; have f5_ := f3_.symm; clear f1_ f2_ f3_; subst f4_; subst f5_))
                                 refine hK.out _ _ ⟨((HB.out.cell (World.block_lt_of_cell? w _ hw307_0)).trans hw307_0), ((HB.out.cell (World.block_lt_of_cell? w _ hw308_0)).trans hw308_0)⟩ (fun hHeld => ?_)
                                 clear hK K
                                 refine norm_ (a' := ?_) ?_ ?_
                                 rotate_left
                                 · show Act.put _ (some 62) _ = _
                                   simp only [Act.put, List.setIfInBounds_toArray, List.set_cons_zero, List.set_cons_succ, i64_w, i32_w]
                                   rfl
                                 refine one_ (i := 8) (N := some 63) #[true, true, true, true, true, true, true, true, true, false, false, false, false, false] rfl rfl (one_of HT_.out (by kernel_rfl)) (by decide) (fun K hK => ?_)
                                 refine goes_ Try.func139 (by kernel_rfl) rfl #[.slice Ao36 y309.length co36] (by rfl) rfl rfl z5_ ?_
                                 with_reducible refine (spec_l5Three.calls kj3 _ _ y309 t312 true _ ?side1 ?side2 A24.out).mono ?_
                                 (case side1 => repeat (first | exact (Kd.R_reads' HO311.out).2.2 | (with_reducible refine Kd.C_alloc ?_ _) | (with_reducible refine Kd.C_drewN ?_ _) | (with_reducible refine Kd.C_drew ?_)))
                                 (case side2 => exact (Kd.R_reads' HO311.out).2.1)
                                 rintro e w37 ⟨v314, rfl, ho0, hb⟩
                                 refine ⟨_, rfl, ?_⟩
                                 have n0_ := Aside0.mk (Kd.R_elder' z17_ (Kd.R_base ho0) hb)
                                 have n1_ := Aside0.mk (Kd.R_lower (Kd.R_new' ho0 (Kd.R_lt z17_)) (below_size z7_))
                                 have n2_ := Aside0.mk (below_step z7_ hb)
                                 clear HO311
                                 clear HB
                                 have HO311 := n0_
                                 have HO315 := n1_
                                 have HB := n2_
                                 clear n0_ n1_ n2_
                                 (try clear hb)
                                 (try clear hb2)
                                 (try clear hk)
                                 (try clear hi)
                                 (try clear ho0)
                                 refine hK.out _ _ ⟨((HB.out.cell (World.block_lt_of_cell? w _ hw307_0)).trans hw307_0), ((HB.out.cell (World.block_lt_of_cell? w _ hw308_0)).trans hw308_0)⟩ (fun hHeld => ?_)
                                 clear hK K
                                 refine norm_ (a' := ?_) ?_ ?_
                                 rotate_left
                                 · show Act.put _ (some 63) _ = _
                                   simp only [Act.put, List.setIfInBounds_toArray, List.set_cons_zero, List.set_cons_succ, i64_w, i32_w]
                                   rfl
                                 refine pure_ (i := 9) (N := some 54) (v := ?_) (a' := ?_) #[true, true, true, true, true, true, true, true, true, true, false, false, false, false] rfl rfl (any_of HT_.out (by kernel_rfl)) (fun _ _ _ h => h) (Or.inl ⟨by rfl, ?_⟩) ?_ ?_
                                 rotate_left
                                 · intro w'
                                   go_simp
                                   with_reducible rfl
                                 rotate_left
                                 · simp only [Act.put, List.setIfInBounds_toArray, List.set_cons_zero, List.set_cons_succ, i64_w, i32_w]
                                   rfl
                                 refine pure_ (i := 10) (N := some 64) (v := ?_) (a' := ?_) #[true, true, true, true, true, true, true, true, true, true, true, false, false, false] rfl rfl (any_of HT_.out (by kernel_rfl)) (fun _ _ _ h => h) (Or.inl ⟨by rfl, ?_⟩) ?_ ?_
                                 rotate_left
                                 · intro w'
                                   go_simp
                                   with_reducible rfl
                                 rotate_left
                                 · simp only [Act.put, List.setIfInBounds_toArray, List.set_cons_zero, List.set_cons_succ, i64_w, i32_w]
                                   rfl
                                 refine pure_ (i := 11) (N := some 65) (v := ?_) (a' := ?_) #[true, true, true, true, true, true, true, true, true, true, true, true, false, false] rfl rfl (any_of HT_.out (by kernel_rfl)) (fun _ _ _ h => h) (Or.inl ⟨by rfl, ?_⟩) ?_ ?_
                                 rotate_left
                                 · intro w'
                                   go_simp
                                   with_reducible rfl
                                 rotate_left
                                 · simp only [Act.put, List.setIfInBounds_toArray, List.set_cons_zero, List.set_cons_succ, i64_w, i32_w]
                                   rfl
                                 refine pure_ (i := 12) (N := some 9) (v := ?_) (a' := ?_) #[true, true, true, true, true, true, true, true, true, true, true, true, true, false] rfl rfl (any_of HT_.out (by kernel_rfl)) (fun _ _ _ h => h) (Or.inl ⟨by rfl, ?_⟩) ?_ ?_
                                 rotate_left
                                 · intro w'
                                   go_simp
                                   with_reducible rfl
                                 rotate_left
                                 · simp only [Act.put, List.setIfInBounds_toArray, List.set_cons_zero, List.set_cons_succ, i64_w, i32_w]
                                   rfl
                                 refine pure_ (i := 13) (N := some 10) (v := ?_) (a' := ?_) #[true, true, true, true, true, true, true, true, true, true, true, true, true, true] rfl rfl (any_of HT_.out (by kernel_rfl)) (fun _ _ _ h => h) (Or.inl ⟨by rfl, ?_⟩) ?_ ?_
                                 rotate_left
                                 · intro w'
                                   go_simp
                                   with_reducible rfl
                                 rotate_left
                                 · simp only [Act.put, List.setIfInBounds_toArray, List.set_cons_zero, List.set_cons_succ, i64_w, i32_w]
                                   rfl
                                 refine done_ (done_of HT_.out (by kernel_rfl)) ?_
                                 try go_wp2
                                 have n0_ := Aside0.mk (Kd.R_drew HO311.out)
                                 have n1_ := Aside0.mk (Kd.R_drew HO315.out)
                                 have n2_ := Aside0.mk (below_drew1 HB.out)
                                 clear HO311
                                 clear HO315
                                 clear HB
                                 have HO311 := n0_
                                 have HO315 := n1_
                                 have HB := n2_
                                 clear n0_ n1_ n2_
                                 obtain ⟨Ao39, co39, eo39⟩ := Kd.R_slice HO315.out
                                 (first | subst eo39 | (injection eo39 with f1_ f2_ f3_; have f4_ := f1_.symm; have f5_ := f3_.symm; clear f1_ f2_ f3_; subst f4_; subst f5_))
                                 have p316 : 0 ≤ (2 : Int) := (by omega)
                                 have q316 : 2 < (t312.length : Int) := of_decide_eq_true z25_
                                 obtain ⟨ad316, e316, hx316_0⟩ := Kd.at_int (Kd.R_reads' HO315.out).2.2 2 p316 q316
                                 cases e316
                                 (try simp only [show (2 : Int).toNat = 2 from rfl, Nat.reduceMul, Nat.reduceEqDiff, Go.Addr.add, ↓reduceIte] at hx316_0)
                                 have qi316 : (2 < t312.length) = True := eq_true (by omega)
                                 (try rw [show ((2 : Int)).toNat = 2 from rfl] at hx316_0)
                                 replace p316 := eq_true p316
                                 replace q316 := eq_true q316
                                 have p317 : 0 ≤ (2 : Int) := (by omega)
                                 have q317 : 2 < (t312.length : Int) := of_decide_eq_true z25_
                                 obtain ⟨ad317, e317, hx317_0⟩ := Kd.at_int (Kd.R_reads' HO315.out).2.2 2 p317 q317
                                 obtain rfl : ad316 = ad317 := (by injection e317)
                                 (try simp only [show (2 : Int).toNat = 2 from rfl, Nat.reduceMul, Nat.reduceEqDiff, Go.Addr.add, ↓reduceIte] at hx317_0)
                                 have qi317 : (2 < t312.length) = True := eq_true (by omega)
                                 (try rw [show ((2 : Int)).toNat = 2 from rfl] at hx317_0)
                                 replace p317 := eq_true p317
                                 replace q317 := eq_true q317
                                 have p318 : 0 ≤ (0 : Int) := (by omega)
                                 have q318 : 0 < (t312.length : Int) := of_decide_eq_true z25_
                                 obtain ⟨ad318, e318, hx318_0⟩ := Kd.at_int (Kd.R_reads' HO315.out).2.2 0 p318 q318
                                 obtain rfl : ad316 = ad318 := (by injection e318)
                                 have qi318 : (0 < t312.length) = True := eq_true (by omega)
                                 (try rw [show ((0 : Int)).toNat = 0 from rfl] at hx318_0)
                                 (try rw [Addr.add_zero'] at hx318_0)
                                 replace p318 := eq_true p318
                                 replace q318 := eq_true q318
                                 have p319 : 0 ≤ (1 : Int) := (by omega)
                                 have q319 : 1 < (t312.length : Int) := of_decide_eq_true z25_
                                 obtain ⟨ad319, e319, hx319_0⟩ := Kd.at_int (Kd.R_reads' HO315.out).2.2 1 p319 q319
                                 obtain rfl : ad316 = ad319 := (by injection e319)
                                 (try simp only [show (1 : Int).toNat = 1 from rfl, Nat.reduceMul, Nat.reduceEqDiff, Go.Addr.add, ↓reduceIte] at hx319_0)
                                 have qi319 : (1 < t312.length) = True := eq_true (by omega)
                                 (try rw [show ((1 : Int)).toNat = 1 from rfl] at hx319_0)
                                 replace p319 := eq_true p319
                                 replace q319 := eq_true q319
                                 refine start_ (n := 24) (S := fun w' => w'.cell? ⟨ad316.block, ad316.off + 2, none⟩ = some (.int .i64 (rd t312 2)) ∧ w'.cell? ⟨ad316.block, ad316.off + 2, none⟩ = some (.int .i64 (rd t312 2)) ∧ w'.cell? ad316 = some (.int .i64 (rd t312 0)) ∧ w'.cell? ⟨ad316.block, ad316.off + 1, none⟩ = some (.int .i64 (rd t312 1))) (ds := []) #[false, false, false, false, false, false, false, false, false, false, false, false, false, false, false, false, false, false, false, false, false, false, false, false] (by kernel_rfl) rfl rfl ⟨hx316_0, hx317_0, hx318_0, hx319_0⟩ (fun hHeld => ?_); refine with_tabW spec_l5Four.tab15 spec_l5Four.bits15 (fun HT_ HW_ => ?_)
                                 generalize w37.drew = w38 at HO311 HO315 HB hx316_0 hx317_0 hx318_0 hx319_0 hHeld ⊢
                                 refine pure_ (i := 0) (N := some 67) (v := ?_) (a' := ?_) #[true, false, false, false, false, false, false, false, false, false, false, false, false, false, false, false, false, false, false, false, false, false, false, false] rfl rfl (any_of HT_.out (by kernel_rfl)) (fun _ _ _ h => h) (Or.inl ⟨by rfl, ?_⟩) ?_ ?_
                                 rotate_left
                                 · intro w'
                                   go_simp
                                   with_reducible rfl
                                 rotate_left
                                 · simp only [Act.put, List.setIfInBounds_toArray, List.set_cons_zero, List.set_cons_succ, i64_w, i32_w]
                                   rfl
                                 refine pure_ (i := 1) (N := some 68) (v := ?_) (a' := ?_) #[true, true, false, false, false, false, false, false, false, false, false, false, false, false, false, false, false, false, false, false, false, false, false, false] rfl rfl (any_of HT_.out (by kernel_rfl)) (fun _ _ _ h => h) (Or.inl ⟨by rfl, ?_⟩) ?_ ?_
                                 rotate_left
                                 · intro w'
                                   go_simp
                                   with_reducible rfl
                                 rotate_left
                                 · simp only [Act.put, List.setIfInBounds_toArray, List.set_cons_zero, List.set_cons_succ, i64_w, i32_w]
                                   rfl
                                 refine pure_ (i := 2) (N := some 69) (v := ?_) (a' := ?_) #[true, true, true, false, false, false, false, false, false, false, false, false, false, false, false, false, false, false, false, false, false, false, false, false] rfl rfl (any_of HT_.out (by kernel_rfl)) (fun _ _ _ h => h) (Or.inl ⟨by rfl, ?_⟩) ?_ ?_
                                 rotate_left
                                 · intro w'
                                   go_simp
                                   with_reducible rfl
                                 rotate_left
                                 · simp only [Act.put, List.setIfInBounds_toArray, List.set_cons_zero, List.set_cons_succ, i64_w, i32_w]
                                   rfl
                                 refine pure_ (i := 5) (N := some 72) (v := ?_) (a' := ?_) #[true, true, true, false, false, true, false, false, false, false, false, false, false, false, false, false, false, false, false, false, false, false, false, false] rfl rfl (any_of HT_.out (by kernel_rfl)) (fun _ _ _ h => h) (Or.inl ⟨by rfl, ?_⟩) ?_ ?_
                                 rotate_left
                                 · intro w'
                                   go_simp
                                   with_reducible rfl
                                 rotate_left
                                 · simp only [Act.put, List.setIfInBounds_toArray, List.set_cons_zero, List.set_cons_succ, i64_w, i32_w]
                                   rfl
                                 refine pure_ (i := 6) (N := some 73) (v := ?_) (a' := ?_) #[true, true, true, false, false, true, true, false, false, false, false, false, false, false, false, false, false, false, false, false, false, false, false, false] rfl rfl (any_of HT_.out (by kernel_rfl)) (fun _ _ _ h => h) (Or.inl ⟨by rfl, ?_⟩) ?_ ?_
                                 rotate_left
                                 · intro w'
                                   go_simp
                                   with_reducible rfl
                                 rotate_left
                                 · simp only [Act.put, List.setIfInBounds_toArray, List.set_cons_zero, List.set_cons_succ, i64_w, i32_w]
                                   rfl
                                 refine pure_ (i := 7) (N := some 74) (v := ?_) (a' := ?_) #[true, true, true, false, false, true, true, true, false, false, false, false, false, false, false, false, false, false, false, false, false, false, false, false] rfl rfl (any_of HT_.out (by kernel_rfl)) (fun _ _ _ h => h) (Or.inl ⟨by rfl, ?_⟩) ?_ ?_
                                 rotate_left
                                 · intro w'
                                   go_simp
                                   with_reducible rfl
                                 rotate_left
                                 · simp only [Act.put, List.setIfInBounds_toArray, List.set_cons_zero, List.set_cons_succ, i64_w, i32_w]
                                   rfl
                                 refine pure_ (i := 10) (N := some 77) (v := ?_) (a' := ?_) #[true, true, true, false, false, true, true, true, false, false, true, false, false, false, false, false, false, false, false, false, false, false, false, false] rfl rfl (any_of HT_.out (by kernel_rfl)) (fun _ _ _ h => h) (Or.inl ⟨by rfl, ?_⟩) ?_ ?_
                                 rotate_left
                                 · intro w'
                                   go_simp
                                   with_reducible rfl
                                 rotate_left
                                 · simp only [Act.put, List.setIfInBounds_toArray, List.set_cons_zero, List.set_cons_succ, i64_w, i32_w]
                                   rfl
                                 refine pure_ (i := 11) (N := some 78) (v := ?_) (a' := ?_) #[true, true, true, false, false, true, true, true, false, false, true, true, false, false, false, false, false, false, false, false, false, false, false, false] rfl rfl (any_of HT_.out (by kernel_rfl)) (fun _ _ _ h => h) (Or.inl ⟨by rfl, ?_⟩) ?_ ?_
                                 rotate_left
                                 · intro w'
                                   go_simp
                                   with_reducible rfl
                                 rotate_left
                                 · simp only [Act.put, List.setIfInBounds_toArray, List.set_cons_zero, List.set_cons_succ, i64_w, i32_w]
                                   rfl
                                 refine pure_ (i := 12) (N := some 79) (v := ?_) (a' := ?_) #[true, true, true, false, false, true, true, true, false, false, true, true, true, false, false, false, false, false, false, false, false, false, false, false] rfl rfl (any_of HT_.out (by kernel_rfl)) (fun _ _ _ h => h) (Or.inl ⟨by rfl, ?_⟩) ?_ ?_
                                 rotate_left
                                 · intro w'
                                   go_simp
                                   with_reducible rfl
                                 rotate_left
                                 · simp only [Act.put, List.setIfInBounds_toArray, List.set_cons_zero, List.set_cons_succ, i64_w, i32_w]
                                   rfl
                                 refine pure_ (i := 15) (N := some 82) (v := ?_) (a' := ?_) #[true, true, true, false, false, true, true, true, false, false, true, true, true, false, false, true, false, false, false, false, false, false, false, false] rfl rfl (any_of HT_.out (by kernel_rfl)) (fun _ _ _ h => h) (Or.inl ⟨by rfl, ?_⟩) ?_ ?_
                                 rotate_left
                                 · intro w'
                                   go_simp
                                   with_reducible rfl
                                 rotate_left
                                 · simp only [Act.put, List.setIfInBounds_toArray, List.set_cons_zero, List.set_cons_succ, i64_w, i32_w]
                                   rfl
                                 refine pure_ (i := 16) (N := some 83) (v := ?_) (a' := ?_) #[true, true, true, false, false, true, true, true, false, false, true, true, true, false, false, true, true, false, false, false, false, false, false, false] rfl rfl (any_of HT_.out (by kernel_rfl)) (fun _ _ _ h => h) (Or.inl ⟨by rfl, ?_⟩) ?_ ?_
                                 rotate_left
                                 · intro w'
                                   go_simp
                                   with_reducible rfl
                                 rotate_left
                                 · simp only [Act.put, List.setIfInBounds_toArray, List.set_cons_zero, List.set_cons_succ, i64_w, i32_w]
                                   rfl
                                 refine pure_ (i := 17) (N := some 84) (v := ?_) (a' := ?_) #[true, true, true, false, false, true, true, true, false, false, true, true, true, false, false, true, true, true, false, false, false, false, false, false] rfl rfl (any_of HT_.out (by kernel_rfl)) (fun _ _ _ h => h) (Or.inl ⟨by rfl, ?_⟩) ?_ ?_
                                 rotate_left
                                 · intro w'
                                   go_simp
                                   with_reducible rfl
                                 rotate_left
                                 · simp only [Act.put, List.setIfInBounds_toArray, List.set_cons_zero, List.set_cons_succ, i64_w, i32_w]
                                   rfl
                                 refine take_ (i := 3) (N := some 70) (v := ?_) (a' := ?_) #[true, true, true, true, false, true, true, true, false, false, true, true, true, false, false, true, true, true, false, false, false, false, false, false] rfl rfl (take_ofW HT_.out HW_.out (by kernel_rfl)) (fun _ _ _ h => h) (Or.inl ⟨by rfl, ?_⟩) hHeld ?_ ?_
                                 rotate_left
                                 · rintro w' ⟨s0, s1, s2, s3⟩
                                   go_simp
                                   with_reducible rfl
                                 rotate_left
                                 · simp only [Act.put, List.setIfInBounds_toArray, List.set_cons_zero, List.set_cons_succ, i64_w, i32_w]
                                   rfl
                                 refine pure_ (i := 4) (N := some 71) (v := ?_) (a' := ?_) #[true, true, true, true, true, true, true, true, false, false, true, true, true, false, false, true, true, true, false, false, false, false, false, false] rfl rfl (any_of HT_.out (by kernel_rfl)) (fun _ _ _ h => h) (Or.inl ⟨by rfl, ?_⟩) ?_ ?_
                                 rotate_left
                                 · intro w'
                                   go_simp
                                   with_reducible rfl
                                 rotate_left
                                 · simp only [Act.put, List.setIfInBounds_toArray, List.set_cons_zero, List.set_cons_succ, i64_w, i32_w]
                                   rfl
                                 refine take_ (i := 8) (N := some 75) (v := ?_) (a' := ?_) #[true, true, true, true, true, true, true, true, true, false, true, true, true, false, false, true, true, true, false, false, false, false, false, false] rfl rfl (take_ofW HT_.out HW_.out (by kernel_rfl)) (fun _ _ _ h => h) (Or.inl ⟨by rfl, ?_⟩) hHeld ?_ ?_
                                 rotate_left
                                 · rintro w' ⟨s0, s1, s2, s3⟩
                                   go_simp
                                   with_reducible rfl
                                 rotate_left
                                 · simp only [Act.put, List.setIfInBounds_toArray, List.set_cons_zero, List.set_cons_succ, i64_w, i32_w]
                                   rfl
                                 refine pure_ (i := 9) (N := some 76) (v := ?_) (a' := ?_) #[true, true, true, true, true, true, true, true, true, true, true, true, true, false, false, true, true, true, false, false, false, false, false, false] rfl rfl (any_of HT_.out (by kernel_rfl)) (fun _ _ _ h => h) (Or.inl ⟨by rfl, ?_⟩) ?_ ?_
                                 rotate_left
                                 · intro w'
                                   go_simp
                                   with_reducible rfl
                                 rotate_left
                                 · simp only [Act.put, List.setIfInBounds_toArray, List.set_cons_zero, List.set_cons_succ, i64_w, i32_w]
                                   rfl
                                 refine take_ (i := 13) (N := some 80) (v := ?_) (a' := ?_) #[true, true, true, true, true, true, true, true, true, true, true, true, true, true, false, true, true, true, false, false, false, false, false, false] rfl rfl (take_ofW HT_.out HW_.out (by kernel_rfl)) (fun _ _ _ h => h) (Or.inl ⟨by rfl, ?_⟩) hHeld ?_ ?_
                                 rotate_left
                                 · rintro w' ⟨s0, s1, s2, s3⟩
                                   go_simp
                                   with_reducible rfl
                                 rotate_left
                                 · simp only [Act.put, List.setIfInBounds_toArray, List.set_cons_zero, List.set_cons_succ, i64_w, i32_w]
                                   rfl
                                 refine pure_ (i := 14) (N := some 81) (v := ?_) (a' := ?_) #[true, true, true, true, true, true, true, true, true, true, true, true, true, true, true, true, true, true, false, false, false, false, false, false] rfl rfl (any_of HT_.out (by kernel_rfl)) (fun _ _ _ h => h) (Or.inl ⟨by rfl, ?_⟩) ?_ ?_
                                 rotate_left
                                 · intro w'
                                   go_simp
                                   with_reducible rfl
                                 rotate_left
                                 · simp only [Act.put, List.setIfInBounds_toArray, List.set_cons_zero, List.set_cons_succ, i64_w, i32_w]
                                   rfl
                                 refine take_ (i := 18) (N := some 85) (v := ?_) (a' := ?_) #[true, true, true, true, true, true, true, true, true, true, true, true, true, true, true, true, true, true, true, false, false, false, false, false] rfl rfl (take_ofW HT_.out HW_.out (by kernel_rfl)) (fun _ _ _ h => h) (Or.inl ⟨by rfl, ?_⟩) hHeld ?_ ?_
                                 rotate_left
                                 · rintro w' ⟨s0, s1, s2, s3⟩
                                   go_simp
                                   with_reducible rfl
                                 rotate_left
                                 · simp only [Act.put, List.setIfInBounds_toArray, List.set_cons_zero, List.set_cons_succ, i64_w, i32_w]
                                   rfl
                                 refine pure_ (i := 19) (N := some 86) (v := ?_) (a' := ?_) #[true, true, true, true, true, true, true, true, true, true, true, true, true, true, true, true, true, true, true, true, false, false, false, false] rfl rfl (any_of HT_.out (by kernel_rfl)) (fun _ _ _ h => h) (Or.inl ⟨by rfl, ?_⟩) ?_ ?_
                                 rotate_left
                                 · intro w'
                                   go_simp
                                   with_reducible rfl
                                 rotate_left
                                 · simp only [Act.put, List.setIfInBounds_toArray, List.set_cons_zero, List.set_cons_succ, i64_w, i32_w]
                                   rfl
                                 refine one_ (i := 20) (N := some 87) #[true, true, true, true, true, true, true, true, true, true, true, true, true, true, true, true, true, true, true, true, true, false, false, false] rfl rfl (one_of HT_.out (by kernel_rfl)) (by decide) (fun K hK => ?_)
                                 refine Kd.R_lit_step (Kd.int .i64) _ 3 ?hg (N := 87) ?hd (xs := ([wrap64 (x4_1 * (rd t312 2)), wrap64 (x5_2 * (rd t312 2)), wrap64 (t305 * (rd t312 0)), wrap64 (t305 * (rd t312 1))] : List Int)) (inner := [.int .i64 (wrap64 (x4_1 * (rd t312 2))), .int .i64 (wrap64 (x5_2 * (rd t312 2))), .int .i64 (wrap64 (t305 * (rd t312 0))), .int .i64 (wrap64 (t305 * (rd t312 1)))]) (ok := fun _ => True) (okp := fun _ => True) ?hr ?hp (fun _ hk => hk) trivial (Below.refl _ _) (Nat.le_refl _) (by simp) ?_; (case hd => rfl); (case hg => rfl); (case hr => first | (go_simp; done) | (go_simp; rfl)); (case hp => exact (Reps.one (show Kd.M (Kd.int .i64) _ _ _ (wrap64 (x4_1 * (rd t312 2))) [.int .i64 (wrap64 (x4_1 * (rd t312 2)))] from rfl) (Reps.one (show Kd.M (Kd.int .i64) _ _ _ (wrap64 (x5_2 * (rd t312 2))) [.int .i64 (wrap64 (x5_2 * (rd t312 2)))] from rfl) (Reps.one (show Kd.M (Kd.int .i64) _ _ _ (wrap64 (t305 * (rd t312 0))) [.int .i64 (wrap64 (t305 * (rd t312 0)))] from rfl) (Reps.one (show Kd.M (Kd.int .i64) _ _ _ (wrap64 (t305 * (rd t312 1))) [.int .i64 (wrap64 (t305 * (rd t312 1)))] from rfl) (Reps.none _ _))))))
                                 intro v321 w40 ho41 hb hg_ hnew_
                                 have HS0_ := (hb.cell (World.block_lt_of_cell? _ _ (hHeld.1))).trans (hHeld.1)
                                 have HS1_ := (hb.cell (World.block_lt_of_cell? _ _ (hHeld.2.1))).trans (hHeld.2.1)
                                 have HS2_ := (hb.cell (World.block_lt_of_cell? _ _ (hHeld.2.2.1))).trans (hHeld.2.2.1)
                                 have HS3_ := (hb.cell (World.block_lt_of_cell? _ _ (hHeld.2.2.2))).trans (hHeld.2.2.2)
                                 clear hg_ hnew_
                                 (first | rw [← Ny320.out] at ho41 | (simp only [Int.reduceToNat] at ho41; rw [← Ny320.out] at ho41))
                                 have n0_ := Aside0.mk (Kd.R_elder' z17_ (Kd.R_base ho41) hb)
                                 have n1_ := Aside0.mk (Kd.R_elder' z18_ (Kd.R_base ho41) hb)
                                 have n2_ := Aside0.mk (Kd.R_lower (Kd.R_new' (Kd.R_new' ho41 (Kd.R_lt z17_)) (Kd.R_lt z18_)) (below_size z7_))
                                 have n3_ := Aside0.mk (below_step z7_ hb)
                                 clear HO311
                                 clear HO315
                                 clear HB
                                 have HO311 := n0_
                                 have HO315 := n1_
                                 have HO322 := n2_
                                 have HB := n3_
                                 clear n0_ n1_ n2_ n3_
                                 clear hb ho41
                                 obtain ⟨Ao42, co42, eo42⟩ := Kd.R_slice HO322.out
                                 (first | subst eo42 | (injection eo42 with f1_ f2_ f3_; have f4_ := f1_.symm; have f5_ := f3_.symm; clear f1_ f2_ f3_; subst f4_; subst f5_))
                                 refine hK.out _ _ ⟨HS0_, HS1_, HS2_, HS3_⟩ (fun hHeld => ?_)
                                 clear hK K
                                 refine norm_ (a' := ?_) ?_ ?_
                                 rotate_left
                                 · show Act.put _ (some 87) _ = _
                                   simp only [Act.put, List.setIfInBounds_toArray, List.set_cons_zero, List.set_cons_succ, i64_w, i32_w]
                                   rfl
                                 refine one_ (i := 21) (N := some 88) #[true, true, true, true, true, true, true, true, true, true, true, true, true, true, true, true, true, true, true, true, true, true, false, false] rfl rfl (one_of HT_.out (by kernel_rfl)) (by decide) (fun K hK => ?_)
                                 refine goes_ Try.func106 (by kernel_rfl) rfl #[.slice Ao42 y320.length co42] (by rfl) rfl rfl z5_ ?_
                                 with_reducible refine (spec_l5Plain.calls kj3 _ _ y320 t323 _ ?side1 ?side2 A29.out).mono ?_
                                 (case side1 => repeat (first | exact (Kd.R_reads' HO322.out).2.2 | (with_reducible refine Kd.C_alloc ?_ _) | (with_reducible refine Kd.C_drewN ?_ _) | (with_reducible refine Kd.C_drew ?_)))
                                 (case side2 => exact (Kd.R_reads' HO322.out).2.1)
                                 rintro e w43 ⟨v324, rfl, ho0, hb⟩
                                 have HS0_ := (hb.cell (World.block_lt_of_cell? _ _ (hHeld.1))).trans (hHeld.1)
                                 have HS1_ := (hb.cell (World.block_lt_of_cell? _ _ (hHeld.2.1))).trans (hHeld.2.1)
                                 have HS2_ := (hb.cell (World.block_lt_of_cell? _ _ (hHeld.2.2.1))).trans (hHeld.2.2.1)
                                 have HS3_ := (hb.cell (World.block_lt_of_cell? _ _ (hHeld.2.2.2))).trans (hHeld.2.2.2)
                                 refine ⟨_, rfl, ?_⟩
                                 have n0_ := Aside0.mk (Kd.R_elder' z17_ (Kd.R_base ho0) hb)
                                 have n1_ := Aside0.mk (Kd.R_elder' z18_ (Kd.R_base ho0) hb)
                                 have n2_ := Aside0.mk (Kd.R_elder' (by (with_reducible repeat (first | apply Kd.R_alloc | apply Kd.R_drewN | apply Kd.R_drew)); exact HO322.out) (Kd.R_base ho0) hb)
                                 have n3_ := Aside0.mk (Kd.R_lower (Kd.R_new' (Kd.R_new' (Kd.R_new' ho0 (Kd.R_lt z17_)) (Kd.R_lt z18_)) (Kd.R_lt (by (with_reducible repeat (first | apply Kd.R_alloc | apply Kd.R_drewN | apply Kd.R_drew)); exact HO322.out))) (below_size z7_))
                                 have n4_ := Aside0.mk (below_step z7_ hb)
                                 clear HO311
                                 clear HO315
                                 clear HO322
                                 clear HB
                                 have HO311 := n0_
                                 have HO315 := n1_
                                 have HO322 := n2_
                                 have HO325 := n3_
                                 have HB := n4_
                                 clear n0_ n1_ n2_ n3_ n4_
                                 (try clear hb)
                                 (try clear hb2)
                                 (try clear hk)
                                 (try clear hi)
                                 (try clear ho0)
                                 refine hK.out _ _ ⟨HS0_, HS1_, HS2_, HS3_⟩ (fun hHeld => ?_)
                                 clear hK K
                                 refine norm_ (a' := ?_) ?_ ?_
                                 rotate_left
                                 · show Act.put _ (some 88) _ = _
                                   simp only [Act.put, List.setIfInBounds_toArray, List.set_cons_zero, List.set_cons_succ, i64_w, i32_w]
                                   rfl
                                 refine pure_ (i := 22) (N := some 2) (v := ?_) (a' := ?_) #[true, true, true, true, true, true, true, true, true, true, true, true, true, true, true, true, true, true, true, true, true, true, true, false] rfl rfl (any_of HT_.out (by kernel_rfl)) (fun _ _ _ h => h) (Or.inl ⟨by rfl, ?_⟩) ?_ ?_
                                 rotate_left
                                 · intro w'
                                   go_simp
                                   with_reducible rfl
                                 rotate_left
                                 · simp only [Act.put, List.setIfInBounds_toArray, List.set_cons_zero, List.set_cons_succ, i64_w, i32_w]
                                   rfl
                                 refine pure_ (i := 23) (N := some 3) (v := ?_) (a' := ?_) #[true, true, true, true, true, true, true, true, true, true, true, true, true, true, true, true, true, true, true, true, true, true, true, true] rfl rfl (any_of HT_.out (by kernel_rfl)) (fun _ _ _ h => h) (Or.inl ⟨by rfl, ?_⟩) ?_ ?_
                                 rotate_left
                                 · intro w'
                                   go_simp
                                   with_reducible rfl
                                 rotate_left
                                 · simp only [Act.put, List.setIfInBounds_toArray, List.set_cons_zero, List.set_cons_succ, i64_w, i32_w]
                                   rfl
                                 refine done_ (done_of HT_.out (by kernel_rfl)) ?_
                                 try go_wp2
                                 go_ret2
                                 exact ⟨_, z23_, by (with_reducible repeat (first | apply Kd.R_alloc | apply Kd.R_drewN | apply Kd.R_drew)); exact Kd.R_mono HO325.out (fun _ hk => trivial), z7_⟩
                               · rw [if_neg c28] at H
                                 exact absurd H (by simp)
                             · rw [if_neg c27] at H
                               exact absurd H (by simp)
                           · rw [if_neg c26] at H
                             exact absurd H (by simp)
                         · replace c25 := Bool.eq_false_iff.mpr c25
                           subst c25
                           have H1 : (spec_l5Four.l1 kj3 l0 x4_1 (wrap64 (x5_2 + 1))) = some (r1, r2) := by rw [if_neg (show ¬ (false = true) by decide)] at H; exact H
                           clear H
                           have H := H1
                           clear H1
                           have H' := Aside0.mk H
                           clear H
                           try go_wp2
                           have n0_ := Aside0.mk (below_drew1 HB.out)
                           clear HB
                           have HB := n0_
                           clear n0_
                           have p296 : 0 ≤ (0 : Int) := (by omega)
                           have q296 : 0 < (l0.length : Int) := of_decide_eq_true z25_
                           obtain ⟨ad296, e296, hx296_0⟩ := Kd.at_int HR0.out 0 p296 q296
                           have hw296_0 := hx296_0
                           (try rw [show ((0 : Int)).toNat = 0 from rfl] at hw296_0)
                           (try rw [show 0 * 1 = 0 from rfl] at hw296_0)
                           (try rw [Addr.add_zero'] at hw296_0)
                           cases e296
                           have qi296 : (0 < l0.length) = True := eq_true (by omega)
                           (try rw [show ((0 : Int)).toNat = 0 from rfl] at hx296_0)
                           (try rw [Addr.add_zero'] at hx296_0)
                           replace hx296_0 := (HB.out.cell (World.block_lt_of_cell? w _ hx296_0)).trans hx296_0
                           replace p296 := eq_true p296
                           replace q296 := eq_true q296
                           have p297 : 0 ≤ (1 : Int) := (by omega)
                           have q297 : 1 < (l0.length : Int) := of_decide_eq_true z25_
                           obtain ⟨ad297, e297, hx297_0⟩ := Kd.at_int HR0.out 1 p297 q297
                           have hw297_0 := hx297_0
                           (try rw [show ((1 : Int)).toNat = 1 from rfl] at hw297_0)
                           (try rw [show 1 * 1 = 1 from rfl] at hw297_0)
                           (try simp only [Nat.reduceMul, Nat.reduceEqDiff, Go.Addr.add, ↓reduceIte] at hw297_0)
                           obtain rfl : ad296 = ad297 := (by injection e297)
                           (try simp only [show (1 : Int).toNat = 1 from rfl, Nat.reduceMul, Nat.reduceEqDiff, Go.Addr.add, ↓reduceIte] at hx297_0)
                           have qi297 : (1 < l0.length) = True := eq_true (by omega)
                           (try rw [show ((1 : Int)).toNat = 1 from rfl] at hx297_0)
                           replace hx297_0 := (HB.out.cell (World.block_lt_of_cell? w _ hx297_0)).trans hx297_0
                           replace p297 := eq_true p297
                           replace q297 := eq_true q297
                           refine start_ (n := 16) (S := fun w' => w'.cell? ad296 = some (.int .i64 (rd l0 0)) ∧ w'.cell? ⟨ad296.block, ad296.off + 1, none⟩ = some (.int .i64 (rd l0 1))) (ds := []) #[false, false, false, false, false, false, false, false, false, false, false, false, false, false, false, false] (by kernel_rfl) rfl rfl ⟨((HB.out.cell (World.block_lt_of_cell? w _ hw296_0)).trans hw296_0), ((HB.out.cell (World.block_lt_of_cell? w _ hw297_0)).trans hw297_0)⟩ (fun hHeld => ?_); refine with_tabW spec_l5Four.tab8 spec_l5Four.bits8 (fun HT_ HW_ => ?_)
                           generalize wc.drew = w44 at HB hx296_0 hx297_0 hHeld ⊢
                           refine pure_ (i := 0) (N := some 25) (v := ?_) (a' := ?_) #[true, false, false, false, false, false, false, false, false, false, false, false, false, false, false, false] rfl rfl (any_of HT_.out (by kernel_rfl)) (fun _ _ _ h => h) (Or.inl ⟨by rfl, ?_⟩) ?_ ?_
                           rotate_left
                           · intro w'
                             go_simp
                             with_reducible rfl
                           rotate_left
                           · simp only [Act.put, List.setIfInBounds_toArray, List.set_cons_zero, List.set_cons_succ, i64_w, i32_w]
                             rfl
                           refine pure_ (i := 1) (N := some 26) (v := ?_) (a' := ?_) #[true, true, false, false, false, false, false, false, false, false, false, false, false, false, false, false] rfl rfl (any_of HT_.out (by kernel_rfl)) (fun _ _ _ h => h) (Or.inl ⟨by rfl, ?_⟩) ?_ ?_
                           rotate_left
                           · intro w'
                             go_simp
                             with_reducible rfl
                           rotate_left
                           · simp only [Act.put, List.setIfInBounds_toArray, List.set_cons_zero, List.set_cons_succ, i64_w, i32_w]
                             rfl
                           refine pure_ (i := 3) (N := some 28) (v := ?_) (a' := ?_) #[true, true, false, true, false, false, false, false, false, false, false, false, false, false, false, false] rfl rfl (any_of HT_.out (by kernel_rfl)) (fun _ _ _ h => h) (Or.inl ⟨by rfl, ?_⟩) ?_ ?_
                           rotate_left
                           · intro w'
                             go_simp
                             with_reducible rfl
                           rotate_left
                           · simp only [Act.put, List.setIfInBounds_toArray, List.set_cons_zero, List.set_cons_succ, i64_w, i32_w]
                             rfl
                           refine pure_ (i := 5) (N := some 30) (v := ?_) (a' := ?_) #[true, true, false, true, false, true, false, false, false, false, false, false, false, false, false, false] rfl rfl (any_of HT_.out (by kernel_rfl)) (fun _ _ _ h => h) (Or.inl ⟨by rfl, ?_⟩) ?_ ?_
                           rotate_left
                           · intro w'
                             go_simp
                             with_reducible rfl
                           rotate_left
                           · simp only [Act.put, List.setIfInBounds_toArray, List.set_cons_zero, List.set_cons_succ, i64_w, i32_w]
                             rfl
                           refine pure_ (i := 7) (N := some 32) (v := ?_) (a' := ?_) #[true, true, false, true, false, true, false, true, false, false, false, false, false, false, false, false] rfl rfl (any_of HT_.out (by kernel_rfl)) (fun _ _ _ h => h) (Or.inl ⟨by rfl, ?_⟩) ?_ ?_
                           rotate_left
                           · intro w'
                             go_simp
                             with_reducible rfl
                           rotate_left
                           · simp only [Act.put, List.setIfInBounds_toArray, List.set_cons_zero, List.set_cons_succ, i64_w, i32_w]
                             rfl
                           refine pure_ (i := 8) (N := some 33) (v := ?_) (a' := ?_) #[true, true, false, true, false, true, false, true, true, false, false, false, false, false, false, false] rfl rfl (any_of HT_.out (by kernel_rfl)) (fun _ _ _ h => h) (Or.inl ⟨by rfl, ?_⟩) ?_ ?_
                           rotate_left
                           · intro w'
                             go_simp
                             with_reducible rfl
                           rotate_left
                           · simp only [Act.put, List.setIfInBounds_toArray, List.set_cons_zero, List.set_cons_succ, i64_w, i32_w]
                             rfl
                           refine pure_ (i := 10) (N := some 35) (v := ?_) (a' := ?_) #[true, true, false, true, false, true, false, true, true, false, true, false, false, false, false, false] rfl rfl (any_of HT_.out (by kernel_rfl)) (fun _ _ _ h => h) (Or.inl ⟨by rfl, ?_⟩) ?_ ?_
                           rotate_left
                           · intro w'
                             go_simp
                             with_reducible rfl
                           rotate_left
                           · simp only [Act.put, List.setIfInBounds_toArray, List.set_cons_zero, List.set_cons_succ, i64_w, i32_w]
                             rfl
                           refine pure_ (i := 12) (N := some 37) (v := ?_) (a' := ?_) #[true, true, false, true, false, true, false, true, true, false, true, false, true, false, false, false] rfl rfl (any_of HT_.out (by kernel_rfl)) (fun _ _ _ h => h) (Or.inl ⟨by rfl, ?_⟩) ?_ ?_
                           rotate_left
                           · intro w'
                             go_simp
                             with_reducible rfl
                           rotate_left
                           · simp only [Act.put, List.setIfInBounds_toArray, List.set_cons_zero, List.set_cons_succ, i64_w, i32_w]
                             rfl
                           refine take_ (i := 2) (N := some 27) (v := ?_) (a' := ?_) #[true, true, true, true, false, true, false, true, true, false, true, false, true, false, false, false] rfl rfl (take_ofW HT_.out HW_.out (by kernel_rfl)) (fun _ _ _ h => h) (Or.inl ⟨by rfl, ?_⟩) hHeld ?_ ?_
                           rotate_left
                           · rintro w' ⟨s0, s1⟩
                             go_simp
                             with_reducible rfl
                           rotate_left
                           · simp only [Act.put, List.setIfInBounds_toArray, List.set_cons_zero, List.set_cons_succ, i64_w, i32_w]
                             rfl
                           refine pure_ (i := 4) (N := some 29) (v := ?_) (a' := ?_) #[true, true, true, true, true, true, false, true, true, false, true, false, true, false, false, false] rfl rfl (any_of HT_.out (by kernel_rfl)) (fun _ _ _ h => h) (Or.inl ⟨by rfl, ?_⟩) ?_ ?_
                           rotate_left
                           · intro w'
                             go_simp
                             with_reducible rfl
                           rotate_left
                           · simp only [Act.put, List.setIfInBounds_toArray, List.set_cons_zero, List.set_cons_succ, i64_w, i32_w]
                             rfl
                           refine pure_ (i := 6) (N := some 31) (v := ?_) (a' := ?_) #[true, true, true, true, true, true, true, true, true, false, true, false, true, false, false, false] rfl rfl (any_of HT_.out (by kernel_rfl)) (fun _ _ _ h => h) (Or.inl ⟨by rfl, ?_⟩) ?_ ?_
                           rotate_left
                           · intro w'
                             go_simp
                             with_reducible rfl
                           rotate_left
                           · simp only [Act.put, List.setIfInBounds_toArray, List.set_cons_zero, List.set_cons_succ, i64_w, i32_w]
                             rfl
                           refine take_ (i := 9) (N := some 34) (v := ?_) (a' := ?_) #[true, true, true, true, true, true, true, true, true, true, true, false, true, false, false, false] rfl rfl (take_ofW HT_.out HW_.out (by kernel_rfl)) (fun _ _ _ h => h) (Or.inl ⟨by rfl, ?_⟩) hHeld ?_ ?_
                           rotate_left
                           · rintro w' ⟨s0, s1⟩
                             go_simp
                             with_reducible rfl
                           rotate_left
                           · simp only [Act.put, List.setIfInBounds_toArray, List.set_cons_zero, List.set_cons_succ, i64_w, i32_w]
                             rfl
                           refine pure_ (i := 11) (N := some 36) (v := ?_) (a' := ?_) #[true, true, true, true, true, true, true, true, true, true, true, true, true, false, false, false] rfl rfl (any_of HT_.out (by kernel_rfl)) (fun _ _ _ h => h) (Or.inl ⟨by rfl, ?_⟩) ?_ ?_
                           rotate_left
                           · intro w'
                             go_simp
                             with_reducible rfl
                           rotate_left
                           · simp only [Act.put, List.setIfInBounds_toArray, List.set_cons_zero, List.set_cons_succ, i64_w, i32_w]
                             rfl
                           refine pure_ (i := 13) (N := some 38) (v := ?_) (a' := ?_) #[true, true, true, true, true, true, true, true, true, true, true, true, true, true, false, false] rfl rfl (any_of HT_.out (by kernel_rfl)) (fun _ _ _ h => h) (Or.inl ⟨by rfl, ?_⟩) ?_ ?_
                           rotate_left
                           · intro w'
                             go_simp
                             with_reducible rfl
                           rotate_left
                           · simp only [Act.put, List.setIfInBounds_toArray, List.set_cons_zero, List.set_cons_succ, i64_w, i32_w]
                             rfl
                           refine pure_ (i := 14) (N := some 39) (v := ?_) (a' := ?_) #[true, true, true, true, true, true, true, true, true, true, true, true, true, true, true, false] rfl rfl (any_of HT_.out (by kernel_rfl)) (fun _ _ _ h => h) (Or.inl ⟨by rfl, ?_⟩) ?_ ?_
                           rotate_left
                           · intro w'
                             go_simp
                             with_reducible rfl
                           rotate_left
                           · simp only [Act.put, List.setIfInBounds_toArray, List.set_cons_zero, List.set_cons_succ, i64_w, i32_w]
                             rfl
                           refine pure_ (i := 15) (N := some 6) (v := ?_) (a' := ?_) #[true, true, true, true, true, true, true, true, true, true, true, true, true, true, true, true] rfl rfl (any_of HT_.out (by kernel_rfl)) (fun _ _ _ h => h) (Or.inl ⟨by rfl, ?_⟩) ?_ ?_
                           rotate_left
                           · intro w'
                             go_simp
                             with_reducible rfl
                           rotate_left
                           · simp only [Act.put, List.setIfInBounds_toArray, List.set_cons_zero, List.set_cons_succ, i64_w, i32_w]
                             rfl
                           refine done_ (done_of HT_.out (by kernel_rfl)) ?_
                           try go_wp2_with (first | ((with_reducible refine gate_callee (f := 113) rfl ?_); refine goesL_ (some 48) rfl rfl Try.func113 (by kernel_rfl) rfl #[.int .i64 (wrap64 ((wrap64 ((wrap64 ((rd l0 0) * x4_1)) * x4_1)) + (wrap64 ((wrap64 ((rd l0 1) * x5_2)) * x5_2))))] rfl z5_ ?_; (with_reducible refine (spec_l1Core.calls kj3 (wrap64 ((wrap64 ((wrap64 ((rd l0 0) * x4_1)) * x4_1)) + (wrap64 ((wrap64 ((rd l0 1) * x5_2)) * x5_2)))) t304 t305 _ A16.out).mono ?_); rintro e w45 ⟨rfl, hb⟩; refine ⟨_, rfl, ?_⟩; have n0_ := Aside0.mk (below_step z7_ hb); clear HB; have HB := n0_; clear n0_; (try clear hb); (try clear hb2); (try clear hk); (try clear hi)) | ((with_reducible refine gate_callee (f := 104) rfl ?_); refine goesL_ (some 52) rfl rfl Try.func104 (by kernel_rfl) rfl #[.int .i64 t304] rfl z5_ ?_; (with_reducible refine (spec_l1Size.calls t304 t306 _ A17.out).mono ?_); rintro e w46 ⟨rfl, hb⟩; refine ⟨_, rfl, ?_⟩; have n0_ := Aside0.mk (below_step z7_ hb); clear HB; have HB := n0_; clear n0_; (try clear hb); (try clear hb2); (try clear hk); (try clear hi)))
                           have n0_ := Aside0.mk (below_drew1 HB.out)
                           clear HB
                           have HB := n0_
                           clear n0_
                           have p307 : 0 ≤ (2 : Int) := (by omega)
                           have q307 : 2 < (l0.length : Int) := of_decide_eq_true z25_
                           obtain ⟨ad307, e307, hx307_0⟩ := Kd.at_int HR0.out 2 p307 q307
                           have hw307_0 := hx307_0
                           (try rw [show ((2 : Int)).toNat = 2 from rfl] at hw307_0)
                           (try rw [show 2 * 1 = 2 from rfl] at hw307_0)
                           (try simp only [Nat.reduceMul, Nat.reduceEqDiff, Go.Addr.add, ↓reduceIte] at hw307_0)
                           obtain rfl : ad296 = ad307 := (by injection e307)
                           (try simp only [show (2 : Int).toNat = 2 from rfl, Nat.reduceMul, Nat.reduceEqDiff, Go.Addr.add, ↓reduceIte] at hx307_0)
                           have qi307 : (2 < l0.length) = True := eq_true (by omega)
                           (try rw [show ((2 : Int)).toNat = 2 from rfl] at hx307_0)
                           replace hx307_0 := (HB.out.cell (World.block_lt_of_cell? w _ hx307_0)).trans hx307_0
                           replace p307 := eq_true p307
                           replace q307 := eq_true q307
                           have p308 : 0 ≤ (3 : Int) := (by omega)
                           have q308 : 3 < (l0.length : Int) := of_decide_eq_true z25_
                           obtain ⟨ad308, e308, hx308_0⟩ := Kd.at_int HR0.out 3 p308 q308
                           have hw308_0 := hx308_0
                           (try rw [show ((3 : Int)).toNat = 3 from rfl] at hw308_0)
                           (try rw [show 3 * 1 = 3 from rfl] at hw308_0)
                           (try simp only [Nat.reduceMul, Nat.reduceEqDiff, Go.Addr.add, ↓reduceIte] at hw308_0)
                           obtain rfl : ad296 = ad308 := (by injection e308)
                           (try simp only [show (3 : Int).toNat = 3 from rfl, Nat.reduceMul, Nat.reduceEqDiff, Go.Addr.add, ↓reduceIte] at hx308_0)
                           have qi308 : (3 < l0.length) = True := eq_true (by omega)
                           (try rw [show ((3 : Int)).toNat = 3 from rfl] at hx308_0)
                           replace hx308_0 := (HB.out.cell (World.block_lt_of_cell? w _ hx308_0)).trans hx308_0
                           replace p308 := eq_true p308
                           replace q308 := eq_true q308
                           refine start_ (n := 14) (S := fun w' => w'.cell? ⟨ad296.block, ad296.off + 2, none⟩ = some (.int .i64 (rd l0 2)) ∧ w'.cell? ⟨ad296.block, ad296.off + 3, none⟩ = some (.int .i64 (rd l0 3))) (ds := []) #[false, false, false, false, false, false, false, false, false, false, false, false, false, false] (by kernel_rfl) rfl rfl ⟨((HB.out.cell (World.block_lt_of_cell? w _ hw307_0)).trans hw307_0), ((HB.out.cell (World.block_lt_of_cell? w _ hw308_0)).trans hw308_0)⟩ (fun hHeld => ?_); refine with_tabW spec_l5Four.tab13 spec_l5Four.bits13 (fun HT_ HW_ => ?_)
                           generalize w46.drew = w47 at HB hx307_0 hx308_0 hHeld ⊢
                           refine pure_ (i := 0) (N := some 55) (v := ?_) (a' := ?_) #[true, false, false, false, false, false, false, false, false, false, false, false, false, false] rfl rfl (any_of HT_.out (by kernel_rfl)) (fun _ _ _ h => h) (Or.inl ⟨by rfl, ?_⟩) ?_ ?_
                           rotate_left
                           · intro w'
                             go_simp
                             with_reducible rfl
                           rotate_left
                           · simp only [Act.put, List.setIfInBounds_toArray, List.set_cons_zero, List.set_cons_succ, i64_w, i32_w]
                             rfl
                           refine pure_ (i := 1) (N := some 56) (v := ?_) (a' := ?_) #[true, true, false, false, false, false, false, false, false, false, false, false, false, false] rfl rfl (any_of HT_.out (by kernel_rfl)) (fun _ _ _ h => h) (Or.inl ⟨by rfl, ?_⟩) ?_ ?_
                           rotate_left
                           · intro w'
                             go_simp
                             with_reducible rfl
                           rotate_left
                           · simp only [Act.put, List.setIfInBounds_toArray, List.set_cons_zero, List.set_cons_succ, i64_w, i32_w]
                             rfl
                           refine pure_ (i := 3) (N := some 58) (v := ?_) (a' := ?_) #[true, true, false, true, false, false, false, false, false, false, false, false, false, false] rfl rfl (any_of HT_.out (by kernel_rfl)) (fun _ _ _ h => h) (Or.inl ⟨by rfl, ?_⟩) ?_ ?_
                           rotate_left
                           · intro w'
                             go_simp
                             with_reducible rfl
                           rotate_left
                           · simp only [Act.put, List.setIfInBounds_toArray, List.set_cons_zero, List.set_cons_succ, i64_w, i32_w]
                             rfl
                           refine pure_ (i := 4) (N := some 59) (v := ?_) (a' := ?_) #[true, true, false, true, true, false, false, false, false, false, false, false, false, false] rfl rfl (any_of HT_.out (by kernel_rfl)) (fun _ _ _ h => h) (Or.inl ⟨by rfl, ?_⟩) ?_ ?_
                           rotate_left
                           · intro w'
                             go_simp
                             with_reducible rfl
                           rotate_left
                           · simp only [Act.put, List.setIfInBounds_toArray, List.set_cons_zero, List.set_cons_succ, i64_w, i32_w]
                             rfl
                           refine pure_ (i := 6) (N := some 61) (v := ?_) (a' := ?_) #[true, true, false, true, true, false, true, false, false, false, false, false, false, false] rfl rfl (any_of HT_.out (by kernel_rfl)) (fun _ _ _ h => h) (Or.inl ⟨by rfl, ?_⟩) ?_ ?_
                           rotate_left
                           · intro w'
                             go_simp
                             with_reducible rfl
                           rotate_left
                           · simp only [Act.put, List.setIfInBounds_toArray, List.set_cons_zero, List.set_cons_succ, i64_w, i32_w]
                             rfl
                           refine take_ (i := 2) (N := some 57) (v := ?_) (a' := ?_) #[true, true, true, true, true, false, true, false, false, false, false, false, false, false] rfl rfl (take_ofW HT_.out HW_.out (by kernel_rfl)) (fun _ _ _ h => h) (Or.inl ⟨by rfl, ?_⟩) hHeld ?_ ?_
                           rotate_left
                           · rintro w' ⟨s0, s1⟩
                             go_simp
                             with_reducible rfl
                           rotate_left
                           · simp only [Act.put, List.setIfInBounds_toArray, List.set_cons_zero, List.set_cons_succ, i64_w, i32_w]
                             rfl
                           refine take_ (i := 5) (N := some 60) (v := ?_) (a' := ?_) #[true, true, true, true, true, true, true, false, false, false, false, false, false, false] rfl rfl (take_ofW HT_.out HW_.out (by kernel_rfl)) (fun _ _ _ h => h) (Or.inl ⟨by rfl, ?_⟩) hHeld ?_ ?_
                           rotate_left
                           · rintro w' ⟨s0, s1⟩
                             go_simp
                             with_reducible rfl
                           rotate_left
                           · simp only [Act.put, List.setIfInBounds_toArray, List.set_cons_zero, List.set_cons_succ, i64_w, i32_w]
                             rfl
                           refine one_ (i := 7) (N := some 62) #[true, true, true, true, true, true, true, true, false, false, false, false, false, false] rfl rfl (one_of HT_.out (by kernel_rfl)) (by decide) (fun K hK => ?_)
                           refine Kd.R_lit_step (Kd.int .i64) _ 3 ?hg (N := 62) ?hd (xs := ([rd l0 2, rd l0 3, t304] : List Int)) (inner := [.int .i64 (rd l0 2), .int .i64 (rd l0 3), .int .i64 t304]) (ok := fun _ => True) (okp := fun _ => True) ?hr ?hp (fun _ hk => hk) trivial (Below.refl _ _) (Nat.le_refl _) (by simp) ?_; (case hd => rfl); (case hg => rfl); (case hr => first | (go_simp; done) | (go_simp; rfl)); (case hp => exact (Reps.one (show Kd.M (Kd.int .i64) _ _ _ (rd l0 2) [.int .i64 (rd l0 2)] from rfl) (Reps.one (show Kd.M (Kd.int .i64) _ _ _ (rd l0 3) [.int .i64 (rd l0 3)] from rfl) (Reps.one (show Kd.M (Kd.int .i64) _ _ _ t304 [.int .i64 t304] from rfl) (Reps.none _ _)))))
                           intro v310 w48 ho49 hb hg_ hnew_
                           clear hg_ hnew_
                           (first | rw [← Ny309.out] at ho49 | (simp only [Int.reduceToNat] at ho49; rw [← Ny309.out] at ho49))
                           have n0_ := Aside0.mk (Kd.R_lower ho49 (below_size z7_))
                           have n1_ := Aside0.mk (below_step z7_ hb)
                           clear HB
                           have HO311 := n0_
                           have HB := n1_
                           clear n0_ n1_
                           clear hb ho49
                           obtain ⟨Ao50, co50, eo50⟩ := Kd.R_slice HO311.out
                           (first | subst eo50 | (injection eo50 with f1_ f2_ f3_; have f4_ := f1_.symm; have f5_ := f3_.symm; clear f1_ f2_ f3_; subst f4_; subst f5_))
                           refine hK.out _ _ ⟨((HB.out.cell (World.block_lt_of_cell? w _ hw307_0)).trans hw307_0), ((HB.out.cell (World.block_lt_of_cell? w _ hw308_0)).trans hw308_0)⟩ (fun hHeld => ?_)
                           clear hK K
                           refine norm_ (a' := ?_) ?_ ?_
                           rotate_left
                           · show Act.put _ (some 62) _ = _
                             simp only [Act.put, List.setIfInBounds_toArray, List.set_cons_zero, List.set_cons_succ, i64_w, i32_w]
                             rfl
                           refine one_ (i := 8) (N := some 63) #[true, true, true, true, true, true, true, true, true, false, false, false, false, false] rfl rfl (one_of HT_.out (by kernel_rfl)) (by decide) (fun K hK => ?_)
                           refine goes_ Try.func139 (by kernel_rfl) rfl #[.slice Ao50 y309.length co50] (by rfl) rfl rfl z5_ ?_
                           with_reducible refine (spec_l5Three.calls kj3 _ _ y309 t312 false _ ?side1 ?side2 A24.out).mono ?_
                           (case side1 => repeat (first | exact (Kd.R_reads' HO311.out).2.2 | (with_reducible refine Kd.C_alloc ?_ _) | (with_reducible refine Kd.C_drewN ?_ _) | (with_reducible refine Kd.C_drew ?_)))
                           (case side2 => exact (Kd.R_reads' HO311.out).2.1)
                           rintro e w51 ⟨v314, rfl, ho0, hb⟩
                           refine ⟨_, rfl, ?_⟩
                           have n0_ := Aside0.mk (Kd.R_elder' z17_ (Kd.R_base ho0) hb)
                           have n1_ := Aside0.mk (Kd.R_lower (Kd.R_new' ho0 (Kd.R_lt z17_)) (below_size z7_))
                           have n2_ := Aside0.mk (below_step z7_ hb)
                           clear HO311
                           clear HB
                           have HO311 := n0_
                           have HO315 := n1_
                           have HB := n2_
                           clear n0_ n1_ n2_
                           (try clear hb)
                           (try clear hb2)
                           (try clear hk)
                           (try clear hi)
                           (try clear ho0)
                           refine hK.out _ _ ⟨((HB.out.cell (World.block_lt_of_cell? w _ hw307_0)).trans hw307_0), ((HB.out.cell (World.block_lt_of_cell? w _ hw308_0)).trans hw308_0)⟩ (fun hHeld => ?_)
                           clear hK K
                           refine norm_ (a' := ?_) ?_ ?_
                           rotate_left
                           · show Act.put _ (some 63) _ = _
                             simp only [Act.put, List.setIfInBounds_toArray, List.set_cons_zero, List.set_cons_succ, i64_w, i32_w]
                             rfl
                           refine pure_ (i := 9) (N := some 54) (v := ?_) (a' := ?_) #[true, true, true, true, true, true, true, true, true, true, false, false, false, false] rfl rfl (any_of HT_.out (by kernel_rfl)) (fun _ _ _ h => h) (Or.inl ⟨by rfl, ?_⟩) ?_ ?_
                           rotate_left
                           · intro w'
                             go_simp
                             with_reducible rfl
                           rotate_left
                           · simp only [Act.put, List.setIfInBounds_toArray, List.set_cons_zero, List.set_cons_succ, i64_w, i32_w]
                             rfl
                           refine pure_ (i := 10) (N := some 64) (v := ?_) (a' := ?_) #[true, true, true, true, true, true, true, true, true, true, true, false, false, false] rfl rfl (any_of HT_.out (by kernel_rfl)) (fun _ _ _ h => h) (Or.inl ⟨by rfl, ?_⟩) ?_ ?_
                           rotate_left
                           · intro w'
                             go_simp
                             with_reducible rfl
                           rotate_left
                           · simp only [Act.put, List.setIfInBounds_toArray, List.set_cons_zero, List.set_cons_succ, i64_w, i32_w]
                             rfl
                           refine pure_ (i := 11) (N := some 65) (v := ?_) (a' := ?_) #[true, true, true, true, true, true, true, true, true, true, true, true, false, false] rfl rfl (any_of HT_.out (by kernel_rfl)) (fun _ _ _ h => h) (Or.inl ⟨by rfl, ?_⟩) ?_ ?_
                           rotate_left
                           · intro w'
                             go_simp
                             with_reducible rfl
                           rotate_left
                           · simp only [Act.put, List.setIfInBounds_toArray, List.set_cons_zero, List.set_cons_succ, i64_w, i32_w]
                             rfl
                           refine pure_ (i := 12) (N := some 9) (v := ?_) (a' := ?_) #[true, true, true, true, true, true, true, true, true, true, true, true, true, false] rfl rfl (any_of HT_.out (by kernel_rfl)) (fun _ _ _ h => h) (Or.inl ⟨by rfl, ?_⟩) ?_ ?_
                           rotate_left
                           · intro w'
                             go_simp
                             with_reducible rfl
                           rotate_left
                           · simp only [Act.put, List.setIfInBounds_toArray, List.set_cons_zero, List.set_cons_succ, i64_w, i32_w]
                             rfl
                           refine pure_ (i := 13) (N := some 10) (v := ?_) (a' := ?_) #[true, true, true, true, true, true, true, true, true, true, true, true, true, true] rfl rfl (any_of HT_.out (by kernel_rfl)) (fun _ _ _ h => h) (Or.inl ⟨by rfl, ?_⟩) ?_ ?_
                           rotate_left
                           · intro w'
                             go_simp
                             with_reducible rfl
                           rotate_left
                           · simp only [Act.put, List.setIfInBounds_toArray, List.set_cons_zero, List.set_cons_succ, i64_w, i32_w]
                             rfl
                           refine done_ (done_of HT_.out (by kernel_rfl)) ?_
                           try go_wp2
                           go_roundg kj3
                           case measure => have := HK1.out; have := HK2.out; have := HJ3.out; omega
                           case rel => exact ⟨(wrap64 (x5_2 + 1)), z26_, H', ⟨by have := HK1.out; have := HK2.out; have := HJ3.out; omega⟩, ⟨z7_⟩⟩
                       · rw [if_neg c23] at H
                         exact absurd H (by simp)
                     · rw [if_neg c22] at H
                       exact absurd H (by simp)
               · rw [if_neg c8] at H
                 exact absurd H (by simp)
             · rw [if_neg c7] at H
               exact absurd H (by simp)
       · rw [if_neg c3] at H
         have c3b0 : decide (x5_2 ≤ 3) = false := decide_eq_false c3
         clear c3
         have H' := Aside0.mk H
         clear H
         go_wp2
         go_roundg k2
         case measure => have := HK1.out; have := HK2.out; omega
         case rel => exact ⟨(wrap64 (x4_1 + 1)), z26_, H', ⟨by have := HK1.out; have := HK2.out; omega⟩, ⟨z7_⟩⟩
   · rw [if_neg c2] at H
     have c2b0 : decide (x4_1 ≤ 3) = false := decide_eq_false c2
     clear c2
     obtain ⟨y293, hy293⟩ : ∃ y_ : List Int, y_ = (([] : List Int)) := ⟨_, rfl⟩
     replace H : (some (y293, false)) = some (r1, r2) := by first | (rw [hy293]; with_reducible exact H) | (have H2_ := (Option.bind_some _ _).symm.trans H; rw [hy293]; with_reducible exact H2_) | (have H2_ := (Option.bind_some _ _).symm.trans H; with_reducible exact H2_) | with_reducible exact H | (rw [hy293]; exact H) | exact H
     have Ny293 := Aside0.mk hy293
     clear hy293
     simp only [Option.some.injEq, Prod.mk.injEq] at H
     obtain ⟨rfl, rfl⟩ := H
     go_wp2_with (first | ((with_reducible refine gate_dst (N := 89) rfl ?_); refine Kd.R_lit (Kd.int .i64) _ 3 ?hg (N := 89) ?hd (xs := ([] : List Int)) (inner := []) (ok := fun _ => True) (okp := fun _ => True) ?hr ?hp (fun _ hk => hk) trivial (Below.refl _ _) (Nat.le_refl _) (by simp) ?_; (case hd => rfl); (case hg => rfl); (case hr => first | (go_simp; done) | (go_simp; rfl)); (case hp => exact (Reps.none _ _)); intro v294 w52 ho53 hb hg_ hnew_; clear hg_ hnew_; (first | rw [← Ny293.out] at ho53 | (simp only [Int.reduceToNat] at ho53; rw [← Ny293.out] at ho53)); have n0_ := Aside0.mk (Kd.R_lower ho53 (below_size z7_)); have n1_ := Aside0.mk (below_step z7_ hb); clear HB; have HO295 := n0_; have HB := n1_; clear n0_ n1_; clear hb ho53))
     go_ret2
     exact ⟨_, z23_, by (with_reducible repeat (first | apply Kd.R_alloc | apply Kd.R_drewN | apply Kd.R_drew)); exact HO295.out, z7_⟩

end Go.Proofs.Ytdeahlommlgceaa.PFnPlain

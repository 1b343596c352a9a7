-- Written by a program of this repo (wip/gen/gen.py) over the kit's print.
-- (slim)
import Derived.Test.YtdeahlommlgceaaPFnPlainx0
import Derived.Test.YtdeahlommlgceaaPFnPlainx3
namespace Go.Proofs.Ytdeahlommlgceaa.PFnPlain
open Go.RowKit Go.Proofs.YtdeahlommlgceaaW.PrintWords Go.Proofs.YtdeahlommlgceaaW.PrintLast Go.Proofs.YtdeahlommlgceaaW.PrintMore
attribute [local go_sem] max2_int min2_int max_two min_two max_three min_three max_four min_four   -- for this text's walks alone
set_option linter.unusedVariables false
set_option maxHeartbeats 8000000
set_option maxRecDepth 100000
set_option linter.unusedSimpArgs false

/-! ### spec_l5Root: function 121 -/
def spec_l5Root.l0 : Nat → Int → Int → Int → Option (Int)
 | 0, _, _, _ => none
 | k + 1, x0, x3, x4 => if x3 < x4 then (if (wrap64 ((wrap64 (Int.tdiv (wrap64 (x3 + x4)) 2)) * (wrap64 (Int.tdiv (wrap64 (x3 + x4)) 2)))) < x0 then (spec_l5Root.l0 k x0 (wrap64 ((wrap64 (Int.tdiv (wrap64 (x3 + x4)) 2)) + 1)) x4) else (spec_l5Root.l0 k x0 x3 (wrap64 (Int.tdiv (wrap64 (x3 + x4)) 2)))) else (if (wrap64 (x3 * x3)) = x0 then (some x3) else (some (-1)))
def spec_l5Root.f (k : Nat) (a0 : Int) : Option (Int) := spec_l5Root.l0 k a0 0 1048576
theorem spec_l5Root.mono_l : ∀ k, (∀ y0 y1 y2, LeO (spec_l5Root.l0 k y0 y1 y2) (spec_l5Root.l0 (k + 1) y0 y1 y2))
 | 0 => fun _ _ _ r h => by simp [spec_l5Root.l0] at h
 | k + 1 => by
  have ih0 := spec_l5Root.mono_l k
  · intro y0 y1 y2
    unfold spec_l5Root.l0
    repeat' first
    | (with_reducible exact ih0 _ _ _)
    | (with_reducible exact LeO.refl _)
    | (with_reducible exact LeO.none _)
    | (with_reducible refine LeO.ite ?_ ?_)
    | (with_reducible refine LeO.bind ?_ (fun _ => ?_))
    | exact ih0 _ _ _
    | exact LeO.none _
    | refine LeO.ite ?_ ?_
    | refine LeO.bind ?_ (fun _ => ?_)
theorem spec_l5Root.mono : ∀ a0 k, LeO (spec_l5Root.f k a0) (spec_l5Root.f (k + 1) a0) := by
 intro a0 k
 have ih0 := spec_l5Root.mono_l k
 unfold spec_l5Root.f
 repeat' first
  | (with_reducible exact ih0 _ _ _)
  | (with_reducible exact LeO.refl _)
  | (with_reducible exact LeO.none _)
  | (with_reducible refine LeO.ite ?_ ?_)
  | (with_reducible refine LeO.bind ?_ (fun _ => ?_))
  | exact ih0 _ _ _
  | exact LeO.none _
  | refine LeO.ite ?_ ?_
  | refine LeO.bind ?_ (fun _ => ?_)
theorem spec_l5Root.calls (k : Nat) (a0 : Int) (r : Int) (w : World) (h : spec_l5Root.f k a0 = some r) :
 Calls Try.prog 121 #[.int .i64 a0] w fun e w' => e = .returned (.int .i64 r) ∧ Drawn0 w w' := by
 have H : (spec_l5Root.l0 k a0 0 1048576) = some r := h
 clear h
 have H' := Aside0.mk H
 clear H
 go_enter Try.func121, Try.ntmps121
 go_wp2
 go_loopg [3, 4] k (fun kq v3 v4 w' => ∃ (x3_1 : Int) (x4_1 : Int), v3 = .int .i64 x3_1 ∧ v4 = .int .i64 x4_1 ∧ Aside0 (spec_l5Root.l0 kq a0 x3_1 x4_1 = some r) ∧ Aside0 (kq ≤ k) ∧ Drawn0 w w')
 case atStart => exact ⟨(0), (1048576), z26_, z26_, H', ⟨Nat.le_refl _⟩, z24_⟩
 case round =>
  clear H'
  try clear c1
  obtain ⟨x3_1, x4_1, rfl, rfl, HA, HK1, ⟨m1, rfl⟩⟩ := hrel
  cases gk with
  | zero => exact absurd HA.out (by simp [spec_l5Root.l0])
  | succ k1 =>
   have H := HA.out
   clear HA
   simp only [spec_l5Root.l0] at H
   by_cases c2 : x3_1 < x4_1
   · rw [if_pos c2] at H
     have c2b0 : decide (x3_1 < x4_1) = true := decide_eq_true c2
     clear c2
     by_cases c3 : (wrap64 ((wrap64 (Int.tdiv (wrap64 (x3_1 + x4_1)) 2)) * (wrap64 (Int.tdiv (wrap64 (x3_1 + x4_1)) 2)))) < a0
     · rw [if_pos c3] at H
       have c3b0 : decide ((wrap64 ((wrap64 (Int.tdiv (wrap64 (x3_1 + x4_1)) 2)) * (wrap64 (Int.tdiv (wrap64 (x3_1 + x4_1)) 2)))) < a0) = true := decide_eq_true c3
       clear c3
       have H' := Aside0.mk H
       clear H
       go_wp2
       go_roundg k1
       case measure => have := HK1.out; omega
       case rel => exact ⟨(wrap64 ((wrap64 (Int.tdiv (wrap64 (x3_1 + x4_1)) 2)) + 1)), (x4_1), z26_, z26_, H', ⟨by have := HK1.out; omega⟩, z24_⟩
     · rw [if_neg c3] at H
       have c3b0 : decide ((wrap64 ((wrap64 (Int.tdiv (wrap64 (x3_1 + x4_1)) 2)) * (wrap64 (Int.tdiv (wrap64 (x3_1 + x4_1)) 2)))) < a0) = false := decide_eq_false c3
       clear c3
       have H' := Aside0.mk H
       clear H
       go_wp2
       go_roundg k1
       case measure => have := HK1.out; omega
       case rel => exact ⟨(x3_1), (wrap64 (Int.tdiv (wrap64 (x3_1 + x4_1)) 2)), z26_, z26_, H', ⟨by have := HK1.out; omega⟩, z24_⟩
   · rw [if_neg c2] at H
     have c2b0 : decide (x3_1 < x4_1) = false := decide_eq_false c2
     clear c2
     by_cases c4 : (wrap64 (x3_1 * x3_1)) = a0
     · rw [if_pos c4] at H
       have c4b0 : ((wrap64 (x3_1 * x3_1)) == a0) = true := beq_iff_eq.mpr c4
       have c4b1 : ((wrap64 (x3_1 * x3_1)) != a0) = false := bne_eq_false_iff_eq.mpr c4
       clear c4
       obtain rfl := Option.some.inj H
       go_wp2
       go_ret
       exact ⟨z26_, z24_⟩
     · rw [if_neg c4] at H
       have c4b0 : ((wrap64 (x3_1 * x3_1)) == a0) = false := beq_eq_false_iff_ne.mpr c4
       have c4b1 : ((wrap64 (x3_1 * x3_1)) != a0) = true := bne_iff_ne.mpr c4
       obtain rfl := Option.some.inj H
       go_wp2
       go_ret
       exact ⟨z26_, z24_⟩

/-! ### spec_l5Search: function 88 -/
mutual
def spec_l5Search.l0 : Nat → Int → Int → Int → Int → Option (List Int × Bool)
 | 0, _, _, _, _ => none
 | k + 1, x4, x5, x6, x7 => (spec_l1Size.f (wrap64 (x5 * x6))).bind fun t259 => (if (wrap64 (x7 * x7)) ≤ t259 then (spec_l5Search.l1 k x4 x5 x6 x7 0) else (some ((([] : List Int)), false)))
def spec_l5Search.l1 : Nat → Int → Int → Int → Int → Int → Option (List Int × Bool)
 | 0, _, _, _, _, _ => none
 | k + 1, x4, x5, x6, x7, x8 => (spec_l1Size.f (wrap64 (x4 * x6))).bind fun t263 => (if (wrap64 (x8 * x8)) ≤ t263 then (if x6 = 0 then (none) else (if (Int.tmod (wrap64 ((wrap64 (-(wrap64 ((wrap64 (x4 * x7)) * x7)))) - (wrap64 ((wrap64 (x5 * x8)) * x8)))) x6) = 0 then (if (wrap64 (Int.tdiv (wrap64 ((wrap64 (-(wrap64 ((wrap64 (x4 * x7)) * x7)))) - (wrap64 ((wrap64 (x5 * x8)) * x8)))) x6)) < 0 then (spec_l5Search.j2 k x4 x5 x6 x7 x8 (wrap64 ((wrap64 (-(wrap64 ((wrap64 (x4 * x7)) * x7)))) - (wrap64 ((wrap64 (x5 * x8)) * x8)))) true) else (if x7 = 0 then (spec_l5Search.j2 k x4 x5 x6 x7 x8 (wrap64 ((wrap64 (-(wrap64 ((wrap64 (x4 * x7)) * x7)))) - (wrap64 ((wrap64 (x5 * x8)) * x8)))) (x8 == 0)) else (spec_l5Search.j2 k x4 x5 x6 x7 x8 (wrap64 ((wrap64 (-(wrap64 ((wrap64 (x4 * x7)) * x7)))) - (wrap64 ((wrap64 (x5 * x8)) * x8)))) false))) else (spec_l5Search.j2 k x4 x5 x6 x7 x8 (wrap64 ((wrap64 (-(wrap64 ((wrap64 (x4 * x7)) * x7)))) - (wrap64 ((wrap64 (x5 * x8)) * x8)))) true))) else (spec_l5Search.l0 k x4 x5 x6 (wrap64 (x7 + 1))))
def spec_l5Search.j2 : Nat → Int → Int → Int → Int → Int → Int → Bool → Option (List Int × Bool)
 | 0, _, _, _, _, _, _, _ => none
 | k + 1, x4, x5, x6, x7, x8, x9, x69 => if x69 = true then (spec_l5Search.l1 k x4 x5 x6 x7 (wrap64 (x8 + 1))) else (if x6 = 0 then (none) else ((spec_l5Root.f k (wrap64 (Int.tdiv x9 x6))).bind fun t264 => (if t264 ≥ 0 then (some ((([x7, x8, t264] : List Int)), true)) else (spec_l5Search.l1 k x4 x5 x6 x7 (wrap64 (x8 + 1))))))
end
def spec_l5Search.f (k : Nat) (l0 : List Int) : Option (List Int × Bool) := if 0 < (l0.length : Int) then (if 1 < (l0.length : Int) then (if 2 < (l0.length : Int) then (spec_l5Search.l0 k (rd l0 0) (rd l0 1) (rd l0 2) 0) else (none)) else (none)) else (none)
theorem spec_l5Search.mono_l : ∀ k, (∀ y0 y1 y2 y3, LeO (spec_l5Search.l0 k y0 y1 y2 y3) (spec_l5Search.l0 (k + 1) y0 y1 y2 y3)) ∧ (∀ y0 y1 y2 y3 y4, LeO (spec_l5Search.l1 k y0 y1 y2 y3 y4) (spec_l5Search.l1 (k + 1) y0 y1 y2 y3 y4)) ∧ (∀ y0 y1 y2 y3 y4 y5 y6, LeO (spec_l5Search.j2 k y0 y1 y2 y3 y4 y5 y6) (spec_l5Search.j2 (k + 1) y0 y1 y2 y3 y4 y5 y6))
 | 0 => ⟨fun _ _ _ _ r h => by simp [spec_l5Search.l0] at h, fun _ _ _ _ _ r h => by simp [spec_l5Search.l1] at h, fun _ _ _ _ _ _ _ r h => by simp [spec_l5Search.j2] at h⟩
 | k + 1 => by
  obtain ⟨ih0, ih1, ih2⟩ := spec_l5Search.mono_l k
  refine ⟨?_, ?_, ?_⟩
  · intro y0 y1 y2 y3
    unfold spec_l5Search.l0
    repeat' first
    | (with_reducible exact ih0 _ _ _ _)
    | (with_reducible exact ih1 _ _ _ _ _)
    | (with_reducible exact ih2 _ _ _ _ _ _ _)
    | (with_reducible exact spec_l5Root.mono _ _)
    | (with_reducible exact LeO.refl _)
    | (with_reducible exact LeO.none _)
    | (with_reducible refine LeO.ite ?_ ?_)
    | (with_reducible refine LeO.bind ?_ (fun _ => ?_))
    | exact ih0 _ _ _ _
    | exact ih1 _ _ _ _ _
    | exact ih2 _ _ _ _ _ _ _
    | exact spec_l5Root.mono _ _
    | exact LeO.none _
    | refine LeO.ite ?_ ?_
    | refine LeO.bind ?_ (fun _ => ?_)
  · intro y0 y1 y2 y3 y4
    unfold spec_l5Search.l1
    repeat' first
    | (with_reducible exact ih0 _ _ _ _)
    | (with_reducible exact ih1 _ _ _ _ _)
    | (with_reducible exact ih2 _ _ _ _ _ _ _)
    | (with_reducible exact spec_l5Root.mono _ _)
    | (with_reducible exact LeO.refl _)
    | (with_reducible exact LeO.none _)
    | (with_reducible refine LeO.ite ?_ ?_)
    | (with_reducible refine LeO.bind ?_ (fun _ => ?_))
    | exact ih0 _ _ _ _
    | exact ih1 _ _ _ _ _
    | exact ih2 _ _ _ _ _ _ _
    | exact spec_l5Root.mono _ _
    | exact LeO.none _
    | refine LeO.ite ?_ ?_
    | refine LeO.bind ?_ (fun _ => ?_)
  · intro y0 y1 y2 y3 y4 y5 y6
    unfold spec_l5Search.j2
    repeat' first
    | (with_reducible exact ih0 _ _ _ _)
    | (with_reducible exact ih1 _ _ _ _ _)
    | (with_reducible exact ih2 _ _ _ _ _ _ _)
    | (with_reducible exact spec_l5Root.mono _ _)
    | (with_reducible exact LeO.refl _)
    | (with_reducible exact LeO.none _)
    | (with_reducible refine LeO.ite ?_ ?_)
    | (with_reducible refine LeO.bind ?_ (fun _ => ?_))
    | exact ih0 _ _ _ _
    | exact ih1 _ _ _ _ _
    | exact ih2 _ _ _ _ _ _ _
    | exact spec_l5Root.mono _ _
    | exact LeO.none _
    | refine LeO.ite ?_ ?_
    | refine LeO.bind ?_ (fun _ => ?_)
theorem spec_l5Search.mono : ∀ a0 k, LeO (spec_l5Search.f k a0) (spec_l5Search.f (k + 1) a0) := by
 intro a0 k
 obtain ⟨ih0, ih1, ih2⟩ := spec_l5Search.mono_l k
 unfold spec_l5Search.f
 repeat' first
  | (with_reducible exact ih0 _ _ _ _)
  | (with_reducible exact ih1 _ _ _ _ _)
  | (with_reducible exact ih2 _ _ _ _ _ _ _)
  | (with_reducible exact spec_l5Root.mono _ _)
  | (with_reducible exact LeO.refl _)
  | (with_reducible exact LeO.none _)
  | (with_reducible refine LeO.ite ?_ ?_)
  | (with_reducible refine LeO.bind ?_ (fun _ => ?_))
  | exact ih0 _ _ _ _
  | exact ih1 _ _ _ _ _
  | exact ih2 _ _ _ _ _ _ _
  | exact spec_l5Root.mono _ _
  | exact LeO.none _
  | refine LeO.ite ?_ ?_
  | refine LeO.bind ?_ (fun _ => ?_)
theorem spec_l5Search.calls (k : Nat) (A0 : Option Addr) (c0 : Nat) (l0 : List Int) (r1 : List Int) (r2 : Bool) (w : World) (hr0 : Kd.C (Kd.int .i64) w A0 l0.length l0) (hc0 : l0.length ≤ c0) (h : spec_l5Search.f k l0 = some (r1, r2)) :
 Calls Try.prog 88 #[.slice A0 l0.length c0] w fun e w' => ∃ v0_ : Value, e = .returned (.tuple #[v0_, .bool r2]) ∧ Kd.R (Kd.int .i64) 3 w' w.heap.size (fun _ => True) v0_ r1 ∧ Below w.heap.size w w' := by
 have HR0 := Aside0.mk hr0
 have HC0 := Aside0.mk hc0
 clear hr0 hc0
 have HB := Aside0.mk (Below.refl w.heap.size w)
 have H : (if 0 < (l0.length : Int) then (if 1 < (l0.length : Int) then (if 2 < (l0.length : Int) then (spec_l5Search.l0 k (rd l0 0) (rd l0 1) (rd l0 2) 0) else (none)) else (none)) else (none)) = some (r1, r2) := h
 clear h
 by_cases c2 : 0 < (l0.length : Int)
 · rw [if_pos c2] at H
   have c2b0 : decide (0 < (l0.length : Int)) = true := decide_eq_true c2
   have c2b1 : decide (0 < l0.length) = true := decide_eq_true (by omega)
   clear c2
   by_cases c3 : 1 < (l0.length : Int)
   · rw [if_pos c3] at H
     have c3b0 : decide (1 < (l0.length : Int)) = true := decide_eq_true c3
     have c3b1 : decide (1 < l0.length) = true := decide_eq_true (by omega)
     clear c3
     by_cases c4 : 2 < (l0.length : Int)
     · rw [if_pos c4] at H
       have c4b0 : decide (2 < (l0.length : Int)) = true := decide_eq_true c4
       have c4b1 : decide (2 < l0.length) = true := decide_eq_true (by omega)
       clear c4
       have H' := Aside0.mk H
       clear H
       have p256 : 0 ≤ (0 : Int) := (by omega)
       have q256 : 0 < (l0.length : Int) := of_decide_eq_true z25_
       obtain ⟨ad256, e256, hx256_0⟩ := Kd.at_int HR0.out 0 p256 q256
       cases e256
       have qi256 : (0 < l0.length) = True := eq_true (by omega)
       (try rw [show ((0 : Int)).toNat = 0 from rfl] at hx256_0)
       (try rw [Addr.add_zero'] at hx256_0)
       replace p256 := eq_true p256
       replace q256 := eq_true q256
       have p257 : 0 ≤ (1 : Int) := (by omega)
       have q257 : 1 < (l0.length : Int) := of_decide_eq_true z25_
       obtain ⟨ad257, e257, hx257_0⟩ := Kd.at_int HR0.out 1 p257 q257
       obtain rfl : ad256 = ad257 := (by injection e257)
       (try simp only [show (1 : Int).toNat = 1 from rfl, Nat.reduceMul, Nat.reduceEqDiff, Go.Addr.add, ↓reduceIte] at hx257_0)
       have qi257 : (1 < l0.length) = True := eq_true (by omega)
       (try rw [show ((1 : Int)).toNat = 1 from rfl] at hx257_0)
       replace p257 := eq_true p257
       replace q257 := eq_true q257
       have p258 : 0 ≤ (2 : Int) := (by omega)
       have q258 : 2 < (l0.length : Int) := of_decide_eq_true z25_
       obtain ⟨ad258, e258, hx258_0⟩ := Kd.at_int HR0.out 2 p258 q258
       obtain rfl : ad256 = ad258 := (by injection e258)
       (try simp only [show (2 : Int).toNat = 2 from rfl, Nat.reduceMul, Nat.reduceEqDiff, Go.Addr.add, ↓reduceIte] at hx258_0)
       have qi258 : (2 < l0.length) = True := eq_true (by omega)
       (try rw [show ((2 : Int)).toNat = 2 from rfl] at hx258_0)
       replace p258 := eq_true p258
       replace q258 := eq_true q258
       go_enter Try.func88, Try.ntmps88
       go_wp2
       go_loopg [7] k (fun kq v7 w' => ∃ (x7_1 : Int), v7 = .int .i64 x7_1 ∧ Aside0 (spec_l5Search.l0 kq (rd l0 0) (rd l0 1) (rd l0 2) x7_1 = some (r1, r2)) ∧ Aside0 (kq ≤ k) ∧ Aside0 (Below w.heap.size w w'))
       case atStart => exact ⟨(0), z26_, H', ⟨Nat.le_refl _⟩, ⟨z7_⟩⟩
       case round =>
        clear H'
        try clear c2
        try clear c2b0
        try clear c2b1
        try clear p2
        try clear q2
        try clear hx2
        try clear qi2
        try clear c3
        try clear c3b0
        try clear c3b1
        try clear c4
        try clear c4b0
        try clear c4b1
        try clear hx256_0
        try clear hx257_0
        try clear hx258_0
        try clear p256
        try clear p257
        try clear p258
        try clear q256
        try clear q257
        try clear q258
        obtain ⟨x7_1, rfl, HA, HK1, HB⟩ := hrel
        cases gk with
        | zero => exact absurd HA.out (by simp [spec_l5Search.l0])
        | succ k1 =>
         have H := HA.out
         clear HA
         simp only [spec_l5Search.l0] at H
         replace H := Option.bind_eq_some_iff.mp H
         obtain ⟨t259, A50, H⟩ := H
         replace H : (if (wrap64 (x7_1 * x7_1)) ≤ t259 then (spec_l5Search.l1 k1 (rd l0 0) (rd l0 1) (rd l0 2) x7_1 0) else (some ((([] : List Int)), false))) = some (r1, r2) := H
         have A5 := Aside0.mk A50
         clear A50
         by_cases c6 : (wrap64 (x7_1 * x7_1)) ≤ t259
         · rw [if_pos c6] at H
           have c6b0 : decide ((wrap64 (x7_1 * x7_1)) ≤ t259) = true := decide_eq_true c6
           clear c6
           have H' := Aside0.mk H
           clear H
           go_wp2_with (first | ((with_reducible refine gate_callee (f := 104) rfl ?_); refine goesL_ (some 26) rfl rfl Try.func104 (by kernel_rfl) rfl #[.int .i64 (wrap64 ((rd l0 1) * (rd l0 2)))] rfl z5_ ?_; (with_reducible refine (spec_l1Size.calls (wrap64 ((rd l0 1) * (rd l0 2))) t259 _ A5.out).mono ?_); rintro e w7 ⟨rfl, hb⟩; refine ⟨_, rfl, ?_⟩; have n0_ := Aside0.mk (below_step z7_ hb); clear HB; have HB := n0_; clear n0_; (try clear hb); (try clear hb2); (try clear hk); (try clear hi)))
           go_loopg [8] k1 (fun kq v8 w' => ∃ (x8_2 : Int), v8 = .int .i64 x8_2 ∧ Aside0 (spec_l5Search.l1 kq (rd l0 0) (rd l0 1) (rd l0 2) x7_1 x8_2 = some (r1, r2)) ∧ Aside0 (kq ≤ k1) ∧ Aside0 (Below w.heap.size w w'))
           case atStart => exact ⟨(0), z26_, H', ⟨Nat.le_refl _⟩, ⟨z7_⟩⟩
           case round =>
            clear H'
            try clear c1
            try clear c2
            try clear c2b0
            try clear c2b1
            try clear p2
            try clear q2
            try clear hx2
            try clear qi2
            try clear c3
            try clear c3b0
            try clear c3b1
            try clear c4
            try clear c4b0
            try clear c4b1
            try clear c6
            try clear c6b0
            try clear p6
            try clear hx256_0
            try clear hx257_0
            try clear hx258_0
            try clear p2
            try clear p256
            try clear p257
            try clear p258
            try clear q2
            try clear q256
            try clear q257
            try clear q258
            obtain ⟨x8_2, rfl, HA, HK2, HB⟩ := hrel
            cases gk with
            | zero => exact absurd HA.out (by simp [spec_l5Search.l1])
            | succ k2 =>
             have H := HA.out
             clear HA
             simp only [spec_l5Search.l1] at H
             replace H := Option.bind_eq_some_iff.mp H
             obtain ⟨t263, A80, H⟩ := H
             replace H : (if (wrap64 (x8_2 * x8_2)) ≤ t263 then (if (rd l0 2) = 0 then (none) else (if (Int.tmod (wrap64 ((wrap64 (-(wrap64 ((wrap64 ((rd l0 0) * x7_1)) * x7_1)))) - (wrap64 ((wrap64 ((rd l0 1) * x8_2)) * x8_2)))) (rd l0 2)) = 0 then (if (wrap64 (Int.tdiv (wrap64 ((wrap64 (-(wrap64 ((wrap64 ((rd l0 0) * x7_1)) * x7_1)))) - (wrap64 ((wrap64 ((rd l0 1) * x8_2)) * x8_2)))) (rd l0 2))) < 0 then (spec_l5Search.j2 k2 (rd l0 0) (rd l0 1) (rd l0 2) x7_1 x8_2 (wrap64 ((wrap64 (-(wrap64 ((wrap64 ((rd l0 0) * x7_1)) * x7_1)))) - (wrap64 ((wrap64 ((rd l0 1) * x8_2)) * x8_2)))) true) else (if x7_1 = 0 then (spec_l5Search.j2 k2 (rd l0 0) (rd l0 1) (rd l0 2) x7_1 x8_2 (wrap64 ((wrap64 (-(wrap64 ((wrap64 ((rd l0 0) * x7_1)) * x7_1)))) - (wrap64 ((wrap64 ((rd l0 1) * x8_2)) * x8_2)))) (x8_2 == 0)) else (spec_l5Search.j2 k2 (rd l0 0) (rd l0 1) (rd l0 2) x7_1 x8_2 (wrap64 ((wrap64 (-(wrap64 ((wrap64 ((rd l0 0) * x7_1)) * x7_1)))) - (wrap64 ((wrap64 ((rd l0 1) * x8_2)) * x8_2)))) false))) else (spec_l5Search.j2 k2 (rd l0 0) (rd l0 1) (rd l0 2) x7_1 x8_2 (wrap64 ((wrap64 (-(wrap64 ((wrap64 ((rd l0 0) * x7_1)) * x7_1)))) - (wrap64 ((wrap64 ((rd l0 1) * x8_2)) * x8_2)))) true))) else (spec_l5Search.l0 k2 (rd l0 0) (rd l0 1) (rd l0 2) (wrap64 (x7_1 + 1)))) = some (r1, r2) := H
             have A8 := Aside0.mk A80
             clear A80
             by_cases c9 : (wrap64 (x8_2 * x8_2)) ≤ t263
             · rw [if_pos c9] at H
               have c9b0 : decide ((wrap64 (x8_2 * x8_2)) ≤ t263) = true := decide_eq_true c9
               clear c9
               have HC10 := Aside0.mk H
               clear H
               go_upto_region 11 with (first | ((with_reducible refine gate_callee (f := 104) rfl ?_); refine goesL_ (some 36) rfl rfl Try.func104 (by kernel_rfl) rfl #[.int .i64 (wrap64 ((rd l0 0) * (rd l0 2)))] rfl z5_ ?_; (with_reducible refine (spec_l1Size.calls (wrap64 ((rd l0 0) * (rd l0 2))) t263 _ A8.out).mono ?_); rintro e w11 ⟨rfl, hb⟩; refine ⟨_, rfl, ?_⟩; have n0_ := Aside0.mk (below_step z7_ hb); clear HB; have HB := n0_; clear n0_; (try clear hb); (try clear hb2); (try clear hk); (try clear hi)))
               (try simp only [Act.put, List.setIfInBounds_toArray, List.set_cons_zero, List.set_cons_succ])
               go_cut [69] (fun v69 wc => ∃ (kq : Nat) (x69_9 : Bool), v69 = .bool x69_9 ∧ Aside0 (spec_l5Search.j2 kq (rd l0 0) (rd l0 1) (rd l0 2) x7_1 x8_2 (wrap64 ((wrap64 (-(wrap64 ((wrap64 ((rd l0 0) * x7_1)) * x7_1)))) - (wrap64 ((wrap64 ((rd l0 1) * x8_2)) * x8_2)))) x69_9 = some (r1, r2)) ∧ Aside0 (kq ≤ k2) ∧ Aside0 (Below w.heap.size w wc))
               case first =>
                have H := HC10.out
                clear HC10
                by_cases c12 : (rd l0 2) = 0
                · rw [if_pos c12] at H
                  exact absurd H (by simp)
                · rw [if_neg c12] at H
                  have c12b0 : ((rd l0 2) == 0) = false := beq_eq_false_iff_ne.mpr c12
                  have c12b1 : ((rd l0 2) != 0) = true := bne_iff_ne.mpr c12
                  (first | rw [c12b0] | (simp only [i64_w, i32_w]; rw [c12b0]) | skip)
                  by_cases c13 : (Int.tmod (wrap64 ((wrap64 (-(wrap64 ((wrap64 ((rd l0 0) * x7_1)) * x7_1)))) - (wrap64 ((wrap64 ((rd l0 1) * x8_2)) * x8_2)))) (rd l0 2)) = 0
                  · rw [if_pos c13] at H
                    have c13b0 : ((Int.tmod (wrap64 ((wrap64 (-(wrap64 ((wrap64 ((rd l0 0) * x7_1)) * x7_1)))) - (wrap64 ((wrap64 ((rd l0 1) * x8_2)) * x8_2)))) (rd l0 2)) == 0) = true := beq_iff_eq.mpr c13
                    have c13b1 : ((Int.tmod (wrap64 ((wrap64 (-(wrap64 ((wrap64 ((rd l0 0) * x7_1)) * x7_1)))) - (wrap64 ((wrap64 ((rd l0 1) * x8_2)) * x8_2)))) (rd l0 2)) != 0) = false := bne_eq_false_iff_eq.mpr c13
                    clear c13
                    by_cases c14 : (wrap64 (Int.tdiv (wrap64 ((wrap64 (-(wrap64 ((wrap64 ((rd l0 0) * x7_1)) * x7_1)))) - (wrap64 ((wrap64 ((rd l0 1) * x8_2)) * x8_2)))) (rd l0 2))) < 0
                    · rw [if_pos c14] at H
                      have c14b0 : decide ((wrap64 (Int.tdiv (wrap64 ((wrap64 (-(wrap64 ((wrap64 ((rd l0 0) * x7_1)) * x7_1)))) - (wrap64 ((wrap64 ((rd l0 1) * x8_2)) * x8_2)))) (rd l0 2))) < 0) = true := decide_eq_true c14
                      clear c14
                      have H' := Aside0.mk H
                      clear H
                      go_wp2
                      go_meet
                      case rel => exact ⟨_, (true), z26_, H', ⟨by have := HK1.out; have := HK2.out; first | omega | exact Nat.le_refl _⟩, ⟨z7_⟩⟩
                    · rw [if_neg c14] at H
                      have c14b0 : decide ((wrap64 (Int.tdiv (wrap64 ((wrap64 (-(wrap64 ((wrap64 ((rd l0 0) * x7_1)) * x7_1)))) - (wrap64 ((wrap64 ((rd l0 1) * x8_2)) * x8_2)))) (rd l0 2))) < 0) = false := decide_eq_false c14
                      clear c14
                      by_cases c15 : x7_1 = 0
                      · rw [if_pos c15] at H
                        have c15b0 : (x7_1 == 0) = true := beq_iff_eq.mpr c15
                        have c15b1 : (x7_1 != 0) = false := bne_eq_false_iff_eq.mpr c15
                        clear c15
                        have H' := Aside0.mk H
                        clear H
                        go_wp2
                        go_meet
                        case rel => exact ⟨_, ((x8_2 == 0)), z26_, H', ⟨by have := HK1.out; have := HK2.out; first | omega | exact Nat.le_refl _⟩, ⟨z7_⟩⟩
                      · rw [if_neg c15] at H
                        have c15b0 : (x7_1 == 0) = false := beq_eq_false_iff_ne.mpr c15
                        have c15b1 : (x7_1 != 0) = true := bne_iff_ne.mpr c15
                        have H' := Aside0.mk H
                        clear H
                        go_wp2
                        go_meet
                        case rel => exact ⟨_, (false), z26_, H', ⟨by have := HK1.out; have := HK2.out; first | omega | exact Nat.le_refl _⟩, ⟨z7_⟩⟩
                  · rw [if_neg c13] at H
                    have c13b0 : ((Int.tmod (wrap64 ((wrap64 (-(wrap64 ((wrap64 ((rd l0 0) * x7_1)) * x7_1)))) - (wrap64 ((wrap64 ((rd l0 1) * x8_2)) * x8_2)))) (rd l0 2)) == 0) = false := beq_eq_false_iff_ne.mpr c13
                    have c13b1 : ((Int.tmod (wrap64 ((wrap64 (-(wrap64 ((wrap64 ((rd l0 0) * x7_1)) * x7_1)))) - (wrap64 ((wrap64 ((rd l0 1) * x8_2)) * x8_2)))) (rd l0 2)) != 0) = true := bne_iff_ne.mpr c13
                    have H' := Aside0.mk H
                    clear H
                    go_wp2
                    go_meet
                    case rel => exact ⟨_, (true), z26_, H', ⟨by have := HK1.out; have := HK2.out; first | omega | exact Nat.le_refl _⟩, ⟨z7_⟩⟩
               case rest =>
                clear HC10
                try clear c1
                try clear c2
                try clear c2b0
                try clear c2b1
                try clear p2
                try clear q2
                try clear hx2
                try clear qi2
                try clear c3
                try clear c3b0
                try clear c3b1
                try clear c4
                try clear c4b0
                try clear c4b1
                try clear c6
                try clear c6b0
                try clear p6
                try clear c8
                try clear c9
                try clear c9b0
                try clear c10
                try clear c12
                try clear c12b0
                try clear c12b1
                try clear c13
                try clear c13b0
                try clear c13b1
                try clear c14
                try clear c14b0
                try clear c15
                try clear c15b0
                try clear c15b1
                try clear hx256_0
                try clear hx257_0
                try clear hx258_0
                try clear p2
                try clear p256
                try clear p257
                try clear p258
                try clear p6
                try clear q2
                try clear q256
                try clear q257
                try clear q258
                obtain ⟨kq, x69_9, rfl, HA, HJ9, HB⟩ := hcut
                cases kq with
                | zero => exact absurd HA.out (by simp [spec_l5Search.j2])
                | succ kj9 =>
                 have H := HA.out
                 clear HA
                 simp only [spec_l5Search.j2] at H
                 by_cases c16 : x69_9 = true
                 · subst c16
                   have H1 : (spec_l5Search.l1 kj9 (rd l0 0) (rd l0 1) (rd l0 2) x7_1 (wrap64 (x8_2 + 1))) = some (r1, r2) := by rw [if_pos rfl] at H; exact H
                   clear H
                   have H := H1
                   clear H1
                   have H' := Aside0.mk H
                   clear H
                   go_wp2
                   go_roundg kj9
                   case measure => have := HK1.out; have := HK2.out; have := HJ9.out; omega
                   case rel => exact ⟨(wrap64 (x8_2 + 1)), z26_, H', ⟨by have := HK1.out; have := HK2.out; have := HJ9.out; omega⟩, ⟨z7_⟩⟩
                 · replace c16 := Bool.eq_false_iff.mpr c16
                   subst c16
                   have H1 : (if (rd l0 2) = 0 then (none) else ((spec_l5Root.f kj9 (wrap64 (Int.tdiv (wrap64 ((wrap64 (-(wrap64 ((wrap64 ((rd l0 0) * x7_1)) * x7_1)))) - (wrap64 ((wrap64 ((rd l0 1) * x8_2)) * x8_2)))) (rd l0 2)))).bind fun t264 => (if t264 ≥ 0 then (some ((([x7_1, x8_2, t264] : List Int)), true)) else (spec_l5Search.l1 kj9 (rd l0 0) (rd l0 1) (rd l0 2) x7_1 (wrap64 (x8_2 + 1)))))) = some (r1, r2) := by rw [if_neg (show ¬ (false = true) by decide)] at H; exact H
                   clear H
                   have H := H1
                   clear H1
                   by_cases c17 : (rd l0 2) = 0
                   · rw [if_pos c17] at H
                     exact absurd H (by simp)
                   · rw [if_neg c17] at H
                     have c17b0 : ((rd l0 2) == 0) = false := beq_eq_false_iff_ne.mpr c17
                     have c17b1 : ((rd l0 2) != 0) = true := bne_iff_ne.mpr c17
                     replace H := Option.bind_eq_some_iff.mp H
                     obtain ⟨t264, A180, H⟩ := H
                     replace H : (if t264 ≥ 0 then (some ((([x7_1, x8_2, t264] : List Int)), true)) else (spec_l5Search.l1 kj9 (rd l0 0) (rd l0 1) (rd l0 2) x7_1 (wrap64 (x8_2 + 1)))) = some (r1, r2) := H
                     have A18 := Aside0.mk A180
                     clear A180
                     by_cases c19 : t264 ≥ 0
                     · rw [if_pos c19] at H
                       have c19b0 : decide (0 ≤ t264) = true := decide_eq_true c19
                       clear c19
                       obtain ⟨y265, hy265⟩ : ∃ y_ : List Int, y_ = (([x7_1, x8_2, t264] : List Int)) := ⟨_, rfl⟩
                       replace H : (some (y265, true)) = some (r1, r2) := by first | (rw [hy265]; with_reducible exact H) | (have H2_ := (Option.bind_some _ _).symm.trans H; rw [hy265]; with_reducible exact H2_) | (have H2_ := (Option.bind_some _ _).symm.trans H; with_reducible exact H2_) | with_reducible exact H | (rw [hy265]; exact H) | exact H
                       have Ny265 := Aside0.mk hy265
                       clear hy265
                       simp only [Option.some.injEq, Prod.mk.injEq] at H
                       obtain ⟨rfl, rfl⟩ := H
                       go_wp2_with (first | ((with_reducible refine gate_callee (f := 121) rfl ?_); refine goesL_ (some 73) rfl rfl Try.func121 (by kernel_rfl) rfl #[.int .i64 (wrap64 (Int.tdiv (wrap64 ((wrap64 (-(wrap64 ((wrap64 ((rd l0 0) * x7_1)) * x7_1)))) - (wrap64 ((wrap64 ((rd l0 1) * x8_2)) * x8_2)))) (rd l0 2)))] rfl z5_ ?_; (with_reducible refine (spec_l5Root.calls kj9 (wrap64 (Int.tdiv (wrap64 ((wrap64 (-(wrap64 ((wrap64 ((rd l0 0) * x7_1)) * x7_1)))) - (wrap64 ((wrap64 ((rd l0 1) * x8_2)) * x8_2)))) (rd l0 2))) t264 _ A18.out).mono ?_); rintro e w' ⟨rfl, ⟨nd, rfl⟩⟩; refine ⟨_, rfl, ?_⟩) | ((with_reducible refine gate_dst (N := 79) rfl ?_); refine Kd.R_lit (Kd.int .i64) _ 3 ?hg (N := 79) ?hd (xs := ([x7_1, x8_2, t264] : List Int)) (inner := [.int .i64 x7_1, .int .i64 x8_2, .int .i64 t264]) (ok := fun _ => True) (okp := fun _ => True) ?hr ?hp (fun _ hk => hk) trivial (Below.refl _ _) (Nat.le_refl _) (by simp) ?_; (case hd => rfl); (case hg => rfl); (case hr => first | (go_simp; done) | (go_simp; rfl)); (case hp => exact (Reps.one (show Kd.M (Kd.int .i64) _ _ _ x7_1 [.int .i64 x7_1] from rfl) (Reps.one (show Kd.M (Kd.int .i64) _ _ _ x8_2 [.int .i64 x8_2] from rfl) (Reps.one (show Kd.M (Kd.int .i64) _ _ _ t264 [.int .i64 t264] from rfl) (Reps.none _ _))))); intro v266 w20 ho21 hb hg_ hnew_; clear hg_ hnew_; (first | rw [← Ny265.out] at ho21 | (simp only [Int.reduceToNat] at ho21; rw [← Ny265.out] at ho21)); have n0_ := Aside0.mk (Kd.R_lower ho21 (below_size z7_)); have n1_ := Aside0.mk (below_step z7_ hb); clear HB; have HO267 := n0_; have HB := n1_; clear n0_ n1_; clear hb ho21))
                       go_ret2
                       exact ⟨_, z23_, by (with_reducible repeat (first | apply Kd.R_alloc | apply Kd.R_drewN | apply Kd.R_drew)); exact HO267.out, z7_⟩
                     · rw [if_neg c19] at H
                       have c19b0 : decide (0 ≤ t264) = false := decide_eq_false c19
                       clear c19
                       have H' := Aside0.mk H
                       clear H
                       go_wp2_with (first | ((with_reducible refine gate_callee (f := 121) rfl ?_); refine goesL_ (some 73) rfl rfl Try.func121 (by kernel_rfl) rfl #[.int .i64 (wrap64 (Int.tdiv (wrap64 ((wrap64 (-(wrap64 ((wrap64 ((rd l0 0) * x7_1)) * x7_1)))) - (wrap64 ((wrap64 ((rd l0 1) * x8_2)) * x8_2)))) (rd l0 2)))] rfl z5_ ?_; (with_reducible refine (spec_l5Root.calls kj9 (wrap64 (Int.tdiv (wrap64 ((wrap64 (-(wrap64 ((wrap64 ((rd l0 0) * x7_1)) * x7_1)))) - (wrap64 ((wrap64 ((rd l0 1) * x8_2)) * x8_2)))) (rd l0 2))) t264 _ A18.out).mono ?_); rintro e w' ⟨rfl, ⟨nd, rfl⟩⟩; refine ⟨_, rfl, ?_⟩))
                       go_roundg kj9
                       case measure => have := HK1.out; have := HK2.out; have := HJ9.out; omega
                       case rel => exact ⟨(wrap64 (x8_2 + 1)), z26_, H', ⟨by have := HK1.out; have := HK2.out; have := HJ9.out; omega⟩, ⟨z7_⟩⟩
             · rw [if_neg c9] at H
               have c9b0 : decide ((wrap64 (x8_2 * x8_2)) ≤ t263) = false := decide_eq_false c9
               clear c9
               have H' := Aside0.mk H
               clear H
               go_wp2_with (first | ((with_reducible refine gate_callee (f := 104) rfl ?_); refine goesL_ (some 36) rfl rfl Try.func104 (by kernel_rfl) rfl #[.int .i64 (wrap64 ((rd l0 0) * (rd l0 2)))] rfl z5_ ?_; (with_reducible refine (spec_l1Size.calls (wrap64 ((rd l0 0) * (rd l0 2))) t263 _ A8.out).mono ?_); rintro e w22 ⟨rfl, hb⟩; refine ⟨_, rfl, ?_⟩; have n0_ := Aside0.mk (below_step z7_ hb); clear HB; have HB := n0_; clear n0_; (try clear hb); (try clear hb2); (try clear hk); (try clear hi)))
               go_roundg k2
               case measure => have := HK1.out; have := HK2.out; omega
               case rel => exact ⟨(wrap64 (x7_1 + 1)), z26_, H', ⟨by have := HK1.out; have := HK2.out; omega⟩, ⟨z7_⟩⟩
         · rw [if_neg c6] at H
           have c6b0 : decide ((wrap64 (x7_1 * x7_1)) ≤ t259) = false := decide_eq_false c6
           clear c6
           obtain ⟨y260, hy260⟩ : ∃ y_ : List Int, y_ = (([] : List Int)) := ⟨_, rfl⟩
           replace H : (some (y260, false)) = some (r1, r2) := by first | (rw [hy260]; with_reducible exact H) | (have H2_ := (Option.bind_some _ _).symm.trans H; rw [hy260]; with_reducible exact H2_) | (have H2_ := (Option.bind_some _ _).symm.trans H; with_reducible exact H2_) | with_reducible exact H | (rw [hy260]; exact H) | exact H
           have Ny260 := Aside0.mk hy260
           clear hy260
           simp only [Option.some.injEq, Prod.mk.injEq] at H
           obtain ⟨rfl, rfl⟩ := H
           go_wp2_with (first | ((with_reducible refine gate_callee (f := 104) rfl ?_); refine goesL_ (some 26) rfl rfl Try.func104 (by kernel_rfl) rfl #[.int .i64 (wrap64 ((rd l0 1) * (rd l0 2)))] rfl z5_ ?_; (with_reducible refine (spec_l1Size.calls (wrap64 ((rd l0 1) * (rd l0 2))) t259 _ A5.out).mono ?_); rintro e w23 ⟨rfl, hb⟩; refine ⟨_, rfl, ?_⟩; have n0_ := Aside0.mk (below_step z7_ hb); clear HB; have HB := n0_; clear n0_; (try clear hb); (try clear hb2); (try clear hk); (try clear hi)) | ((with_reducible refine gate_dst (N := 80) rfl ?_); refine Kd.R_lit (Kd.int .i64) _ 3 ?hg (N := 80) ?hd (xs := ([] : List Int)) (inner := []) (ok := fun _ => True) (okp := fun _ => True) ?hr ?hp (fun _ hk => hk) trivial (Below.refl _ _) (Nat.le_refl _) (by simp) ?_; (case hd => rfl); (case hg => rfl); (case hr => first | (go_simp; done) | (go_simp; rfl)); (case hp => exact (Reps.none _ _)); intro v261 w24 ho25 hb hg_ hnew_; clear hg_ hnew_; (first | rw [← Ny260.out] at ho25 | (simp only [Int.reduceToNat] at ho25; rw [← Ny260.out] at ho25)); have n0_ := Aside0.mk (Kd.R_lower ho25 (below_size z7_)); have n1_ := Aside0.mk (below_step z7_ hb); clear HB; have HO262 := n0_; have HB := n1_; clear n0_ n1_; clear hb ho25))
           go_ret2
           exact ⟨_, z23_, by (with_reducible repeat (first | apply Kd.R_alloc | apply Kd.R_drewN | apply Kd.R_drew)); exact HO262.out, z7_⟩
     · rw [if_neg c4] at H
       exact absurd H (by simp)
   · rw [if_neg c3] at H
     exact absurd H (by simp)
 · rw [if_neg c2] at H
   exact absurd H (by simp)

end Go.Proofs.Ytdeahlommlgceaa.PFnPlain

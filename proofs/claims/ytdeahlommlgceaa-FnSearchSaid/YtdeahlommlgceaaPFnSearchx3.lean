-- Written by a program of this repo (wip/gen/gen.py) over the kit's print.
-- (slim)
import Derived.Test.YtdeahlommlgceaaPFnSearchx0
import Derived.Test.YtdeahlommlgceaaPFnSearchx1
import Derived.Test.YtdeahlommlgceaaPFnSearchx2
namespace Go.Proofs.Ytdeahlommlgceaa.PFnSearch
open Go.RowKit Go.Proofs.YtdeahlommlgceaaW.PrintWords Go.Proofs.YtdeahlommlgceaaW.PrintLast Go.Proofs.YtdeahlommlgceaaW.PrintMore
attribute [local go_sem] max2_int min2_int max_two min_two max_three min_three max_four min_four   -- for this text's walks alone
set_option linter.unusedVariables false
set_option maxHeartbeats 8000000
set_option maxRecDepth 100000
set_option linter.unusedSimpArgs false

/-! ### impl_ZeroSearch: function 24 -/
mutual
def impl_ZeroSearch.l0 : Nat → List Int → List Int → Int → Int → Option (List Int × Bool)
 | 0, _, _, _, _ => none
 | k + 1, x0, x22, x23, x24 => if x24 < x23 then (if 0 ≤ x24 then (if x24 < (x22.length : Int) then (if (rd x22 x24) = 0 then (impl_ZeroSearch.j1 k x0 (rd x22 x24) x22 x23 x24 true) else ((impl_size.f (rd x22 x24)).bind fun t138 => (impl_ZeroSearch.j1 k x0 (rd x22 x24) x22 x23 x24 (decide (t138 > 30000))))) else (none)) else (none)) else ((impl_sharedPrime.f k x0).bind fun bt141 => (if bt141.2.2 = 0 then ((impl_product.f k x0).bind fun t144 => ((impl_size.f t144).bind fun t145 => (impl_ZeroSearch.j2 k x0 (decide (t145 > 30000))))) else (impl_ZeroSearch.j2 k x0 true)))
def impl_ZeroSearch.j1 : Nat → List Int → Int → List Int → Int → Int → Bool → Option (List Int × Bool)
 | 0, _, _, _, _, _, _ => none
 | k + 1, x0, x5, x22, x23, x24, x34 => if x34 = true then (some (([] : List Int), false)) else ((impl_coreOf.f k x5).bind fun bt139 => (if bt139.2 = 1 then (impl_ZeroSearch.l0 k x0 x22 x23 (wrap64 (x24 + 1))) else (some (([] : List Int), false))))
def impl_ZeroSearch.j2 : Nat → List Int → Bool → Option (List Int × Bool)
 | 0, _, _ => none
 | k + 1, x0, x56 => if x56 = true then (some (([] : List Int), false)) else (if 0 < (x0.length : Int) then (if 1 < (x0.length : Int) then (if 2 < (x0.length : Int) then (impl_ZeroSearch.l1 k (rd x0 0) (rd x0 1) (rd x0 2) 0) else (none)) else (none)) else (none))
def impl_ZeroSearch.l1 : Nat → Int → Int → Int → Int → Option (List Int × Bool)
 | 0, _, _, _, _ => none
 | k + 1, x11, x12, x13, x14 => (impl_size.f (wrap64 (x12 * x13))).bind fun t149 => (if (wrap64 (x14 * x14)) ≤ t149 then (impl_ZeroSearch.l2 k x11 x12 x13 x14 0) else (some (([] : List Int), false)))
def impl_ZeroSearch.l2 : Nat → Int → Int → Int → Int → Int → Option (List Int × Bool)
 | 0, _, _, _, _, _ => none
 | k + 1, x11, x12, x13, x14, x15 => (impl_size.f (wrap64 (x11 * x13))).bind fun t150 => (if (wrap64 (x15 * x15)) ≤ t150 then (if x13 = 0 then (none) else (if (Int.tmod (wrap64 ((wrap64 ((wrap64 ((wrap64 (-x11)) * x14)) * x14)) - (wrap64 ((wrap64 (x12 * x15)) * x15)))) x13) = 0 then ((impl_squareRoot.f k (wrap64 (Int.tdiv (wrap64 ((wrap64 ((wrap64 ((wrap64 (-x11)) * x14)) * x14)) - (wrap64 ((wrap64 (x12 * x15)) * x15)))) x13))).bind fun bt151 => (if bt151.2 = true then (if x14 = 0 then (if x15 = 0 then (if bt151.1 = 0 then (impl_ZeroSearch.l2 k x11 x12 x13 x14 (wrap64 (x15 + 1))) else (some ((([x14, x15, bt151.1] : List Int)), true))) else (some ((([x14, x15, bt151.1] : List Int)), true))) else (some ((([x14, x15, bt151.1] : List Int)), true))) else (impl_ZeroSearch.l2 k x11 x12 x13 x14 (wrap64 (x15 + 1))))) else (impl_ZeroSearch.l2 k x11 x12 x13 x14 (wrap64 (x15 + 1))))) else (impl_ZeroSearch.l1 k x11 x12 x13 (wrap64 (x14 + 1))))
end
def impl_ZeroSearch.f (k : Nat) (l0 : List Int) : Option (List Int × Bool) := if (l0.length : Int) = 3 then (impl_ZeroSearch.l0 k l0 l0 (l0.length : Int) 0) else (some (([] : List Int), false))
theorem impl_ZeroSearch.mono_l : ∀ k, (∀ y0 y1 y2 y3, LeO (impl_ZeroSearch.l0 k y0 y1 y2 y3) (impl_ZeroSearch.l0 (k + 1) y0 y1 y2 y3)) ∧ (∀ y0 y1 y2 y3 y4 y5, LeO (impl_ZeroSearch.j1 k y0 y1 y2 y3 y4 y5) (impl_ZeroSearch.j1 (k + 1) y0 y1 y2 y3 y4 y5)) ∧ (∀ y0 y1, LeO (impl_ZeroSearch.j2 k y0 y1) (impl_ZeroSearch.j2 (k + 1) y0 y1)) ∧ (∀ y0 y1 y2 y3, LeO (impl_ZeroSearch.l1 k y0 y1 y2 y3) (impl_ZeroSearch.l1 (k + 1) y0 y1 y2 y3)) ∧ (∀ y0 y1 y2 y3 y4, LeO (impl_ZeroSearch.l2 k y0 y1 y2 y3 y4) (impl_ZeroSearch.l2 (k + 1) y0 y1 y2 y3 y4))
 | 0 => ⟨fun _ _ _ _ r h => by simp [impl_ZeroSearch.l0] at h, fun _ _ _ _ _ _ r h => by simp [impl_ZeroSearch.j1] at h, fun _ _ r h => by simp [impl_ZeroSearch.j2] at h, fun _ _ _ _ r h => by simp [impl_ZeroSearch.l1] at h, fun _ _ _ _ _ r h => by simp [impl_ZeroSearch.l2] at h⟩
 | k + 1 => by
  obtain ⟨ih0, ih1, ih2, ih3, ih4⟩ := impl_ZeroSearch.mono_l k
  refine ⟨?_, ?_, ?_, ?_, ?_⟩
  · intro y0 y1 y2 y3
    unfold impl_ZeroSearch.l0
    repeat' first
    | (with_reducible exact ih0 _ _ _ _)
    | (with_reducible exact ih1 _ _ _ _ _ _)
    | (with_reducible exact ih2 _ _)
    | (with_reducible exact ih3 _ _ _ _)
    | (with_reducible exact ih4 _ _ _ _ _)
    | (with_reducible exact impl_coreOf.mono _ _)
    | (with_reducible exact impl_product.mono _ _)
    | (with_reducible exact impl_sharedPrime.mono _ _)
    | (with_reducible exact impl_squareRoot.mono _ _)
    | (with_reducible exact LeO.refl _)
    | (with_reducible exact LeO.none _)
    | (with_reducible refine LeO.ite ?_ ?_)
    | (with_reducible refine LeO.bind ?_ (fun _ => ?_))
    | exact ih0 _ _ _ _
    | exact ih1 _ _ _ _ _ _
    | exact ih2 _ _
    | exact ih3 _ _ _ _
    | exact ih4 _ _ _ _ _
    | exact impl_coreOf.mono _ _
    | exact impl_product.mono _ _
    | exact impl_sharedPrime.mono _ _
    | exact impl_squareRoot.mono _ _
    | exact LeO.none _
    | refine LeO.ite ?_ ?_
    | refine LeO.bind ?_ (fun _ => ?_)
  · intro y0 y1 y2 y3 y4 y5
    unfold impl_ZeroSearch.j1
    repeat' first
    | (with_reducible exact ih0 _ _ _ _)
    | (with_reducible exact ih1 _ _ _ _ _ _)
    | (with_reducible exact ih2 _ _)
    | (with_reducible exact ih3 _ _ _ _)
    | (with_reducible exact ih4 _ _ _ _ _)
    | (with_reducible exact impl_coreOf.mono _ _)
    | (with_reducible exact impl_product.mono _ _)
    | (with_reducible exact impl_sharedPrime.mono _ _)
    | (with_reducible exact impl_squareRoot.mono _ _)
    | (with_reducible exact LeO.refl _)
    | (with_reducible exact LeO.none _)
    | (with_reducible refine LeO.ite ?_ ?_)
    | (with_reducible refine LeO.bind ?_ (fun _ => ?_))
    | exact ih0 _ _ _ _
    | exact ih1 _ _ _ _ _ _
    | exact ih2 _ _
    | exact ih3 _ _ _ _
    | exact ih4 _ _ _ _ _
    | exact impl_coreOf.mono _ _
    | exact impl_product.mono _ _
    | exact impl_sharedPrime.mono _ _
    | exact impl_squareRoot.mono _ _
    | exact LeO.none _
    | refine LeO.ite ?_ ?_
    | refine LeO.bind ?_ (fun _ => ?_)
  · intro y0 y1
    unfold impl_ZeroSearch.j2
    repeat' first
    | (with_reducible exact ih0 _ _ _ _)
    | (with_reducible exact ih1 _ _ _ _ _ _)
    | (with_reducible exact ih2 _ _)
    | (with_reducible exact ih3 _ _ _ _)
    | (with_reducible exact ih4 _ _ _ _ _)
    | (with_reducible exact impl_coreOf.mono _ _)
    | (with_reducible exact impl_product.mono _ _)
    | (with_reducible exact impl_sharedPrime.mono _ _)
    | (with_reducible exact impl_squareRoot.mono _ _)
    | (with_reducible exact LeO.refl _)
    | (with_reducible exact LeO.none _)
    | (with_reducible refine LeO.ite ?_ ?_)
    | (with_reducible refine LeO.bind ?_ (fun _ => ?_))
    | exact ih0 _ _ _ _
    | exact ih1 _ _ _ _ _ _
    | exact ih2 _ _
    | exact ih3 _ _ _ _
    | exact ih4 _ _ _ _ _
    | exact impl_coreOf.mono _ _
    | exact impl_product.mono _ _
    | exact impl_sharedPrime.mono _ _
    | exact impl_squareRoot.mono _ _
    | exact LeO.none _
    | refine LeO.ite ?_ ?_
    | refine LeO.bind ?_ (fun _ => ?_)
  · intro y0 y1 y2 y3
    unfold impl_ZeroSearch.l1
    repeat' first
    | (with_reducible exact ih0 _ _ _ _)
    | (with_reducible exact ih1 _ _ _ _ _ _)
    | (with_reducible exact ih2 _ _)
    | (with_reducible exact ih3 _ _ _ _)
    | (with_reducible exact ih4 _ _ _ _ _)
    | (with_reducible exact impl_coreOf.mono _ _)
    | (with_reducible exact impl_product.mono _ _)
    | (with_reducible exact impl_sharedPrime.mono _ _)
    | (with_reducible exact impl_squareRoot.mono _ _)
    | (with_reducible exact LeO.refl _)
    | (with_reducible exact LeO.none _)
    | (with_reducible refine LeO.ite ?_ ?_)
    | (with_reducible refine LeO.bind ?_ (fun _ => ?_))
    | exact ih0 _ _ _ _
    | exact ih1 _ _ _ _ _ _
    | exact ih2 _ _
    | exact ih3 _ _ _ _
    | exact ih4 _ _ _ _ _
    | exact impl_coreOf.mono _ _
    | exact impl_product.mono _ _
    | exact impl_sharedPrime.mono _ _
    | exact impl_squareRoot.mono _ _
    | exact LeO.none _
    | refine LeO.ite ?_ ?_
    | refine LeO.bind ?_ (fun _ => ?_)
  · intro y0 y1 y2 y3 y4
    unfold impl_ZeroSearch.l2
    repeat' first
    | (with_reducible exact ih0 _ _ _ _)
    | (with_reducible exact ih1 _ _ _ _ _ _)
    | (with_reducible exact ih2 _ _)
    | (with_reducible exact ih3 _ _ _ _)
    | (with_reducible exact ih4 _ _ _ _ _)
    | (with_reducible exact impl_coreOf.mono _ _)
    | (with_reducible exact impl_product.mono _ _)
    | (with_reducible exact impl_sharedPrime.mono _ _)
    | (with_reducible exact impl_squareRoot.mono _ _)
    | (with_reducible exact LeO.refl _)
    | (with_reducible exact LeO.none _)
    | (with_reducible refine LeO.ite ?_ ?_)
    | (with_reducible refine LeO.bind ?_ (fun _ => ?_))
    | exact ih0 _ _ _ _
    | exact ih1 _ _ _ _ _ _
    | exact ih2 _ _
    | exact ih3 _ _ _ _
    | exact ih4 _ _ _ _ _
    | exact impl_coreOf.mono _ _
    | exact impl_product.mono _ _
    | exact impl_sharedPrime.mono _ _
    | exact impl_squareRoot.mono _ _
    | exact LeO.none _
    | refine LeO.ite ?_ ?_
    | refine LeO.bind ?_ (fun _ => ?_)
theorem impl_ZeroSearch.mono : ∀ a0 k, LeO (impl_ZeroSearch.f k a0) (impl_ZeroSearch.f (k + 1) a0) := by
 intro a0 k
 obtain ⟨ih0, ih1, ih2, ih3, ih4⟩ := impl_ZeroSearch.mono_l k
 unfold impl_ZeroSearch.f
 repeat' first
  | (with_reducible exact ih0 _ _ _ _)
  | (with_reducible exact ih1 _ _ _ _ _ _)
  | (with_reducible exact ih2 _ _)
  | (with_reducible exact ih3 _ _ _ _)
  | (with_reducible exact ih4 _ _ _ _ _)
  | (with_reducible exact impl_coreOf.mono _ _)
  | (with_reducible exact impl_product.mono _ _)
  | (with_reducible exact impl_sharedPrime.mono _ _)
  | (with_reducible exact impl_squareRoot.mono _ _)
  | (with_reducible exact LeO.refl _)
  | (with_reducible exact LeO.none _)
  | (with_reducible refine LeO.ite ?_ ?_)
  | (with_reducible refine LeO.bind ?_ (fun _ => ?_))
  | exact ih0 _ _ _ _
  | exact ih1 _ _ _ _ _ _
  | exact ih2 _ _
  | exact ih3 _ _ _ _
  | exact ih4 _ _ _ _ _
  | exact impl_coreOf.mono _ _
  | exact impl_product.mono _ _
  | exact impl_sharedPrime.mono _ _
  | exact impl_squareRoot.mono _ _
  | exact LeO.none _
  | refine LeO.ite ?_ ?_
  | refine LeO.bind ?_ (fun _ => ?_)
theorem impl_ZeroSearch.calls (k : Nat) (A0 : Option Addr) (c0 : Nat) (l0 : List Int) (r1 : List Int) (r2 : Bool) (w : World) (hr0 : Kd.C (Kd.int .i64) w A0 l0.length l0) (hc0 : l0.length ≤ c0) (h : impl_ZeroSearch.f k l0 = some (r1, r2)) :
 Calls Try.prog 24 #[.slice A0 l0.length c0] w fun e w' => ∃ v0_ : Value, e = .returned (.tuple #[v0_, .bool r2]) ∧ Kd.R (Kd.int .i64) 3 w' w.heap.size (fun _ => True) v0_ r1 ∧ Below w.heap.size w w' := by
 have HR0 := Aside0.mk hr0
 have HC0 := Aside0.mk hc0
 clear hr0 hc0
 have HB := Aside0.mk (Below.refl w.heap.size w)
 have H : (if (l0.length : Int) = 3 then (impl_ZeroSearch.l0 k l0 l0 (l0.length : Int) 0) else (some (([] : List Int), false))) = some (r1, r2) := h
 clear h
 by_cases c2 : (l0.length : Int) = 3
 · rw [if_pos c2] at H
   have c2b0 : ((l0.length : Int) == 3) = true := beq_iff_eq.mpr c2
   have c2b1 : ((l0.length : Int) != 3) = false := bne_eq_false_iff_eq.mpr c2
   clear c2
   have H' := Aside0.mk H
   clear H
   go_enter Try.func24, Try.ntmps24
   go_wp2
   repeat (go_quiet (fail); try go_wp2)
   go_loopg [24] k (fun kq v24 w' => ∃ (x24_1 : Int), v24 = .int .i64 x24_1 ∧ Aside0 (impl_ZeroSearch.l0 kq l0 l0 (l0.length : Int) x24_1 = some (r1, r2)) ∧ Aside0 (kq ≤ k) ∧ Aside0 (Below w.heap.size w w'))
   case atStart => exact ⟨(0), z22_, H', ⟨Nat.le_refl _⟩, ⟨z10_⟩⟩
   case round =>
    clear H'
    try clear c2
    try clear c2b0
    try clear c2b1
    try clear p2
    obtain ⟨x24_1, rfl, HA, HK1, HB⟩ := hrel
    cases gk with
    | zero => exact absurd HA.out (by simp [impl_ZeroSearch.l0])
    | succ k1 =>
     have H := HA.out
     clear HA
     simp only [impl_ZeroSearch.l0] at H
     by_cases c3 : x24_1 < (l0.length : Int)
     · rw [if_pos c3] at H
       have c3b0 : decide (x24_1 < (l0.length : Int)) = true := decide_eq_true c3
       clear c3
       by_cases c4 : 0 ≤ x24_1
       · rw [if_pos c4] at H
         have c4b0 : decide (0 ≤ x24_1) = true := decide_eq_true c4
         clear c4
         by_cases c5 : x24_1 < (l0.length : Int)
         · rw [if_pos c5] at H
           have c5b0 : decide (x24_1 < (l0.length : Int)) = true := decide_eq_true c5
           clear c5
           have HC6 := Aside0.mk H
           clear H
           have p137 : 0 ≤ (x24_1 : Int) := of_decide_eq_true z21_
           have q137 : x24_1 < (l0.length : Int) := of_decide_eq_true z21_
           obtain ⟨ad137, e137, hx137_0⟩ := Kd.at_int HR0.out x24_1 p137 q137
           cases e137
           replace hx137_0 := (HB.out.cell (World.block_lt_of_cell? w _ hx137_0)).trans hx137_0
           replace p137 := eq_true p137
           replace q137 := eq_true q137
           go_upto_region 6 with (fail)
           repeat (go_quiet (fail); go_upto_region 6 with (fail))
           go_cut [34] (fun v34 wc => ∃ (kq : Nat) (x34_5 : Bool), v34 = .bool x34_5 ∧ Aside0 (impl_ZeroSearch.j1 kq l0 (rd l0 x24_1) l0 (l0.length : Int) x24_1 x34_5 = some (r1, r2)) ∧ Aside0 (kq ≤ k1) ∧ Aside0 (Below w.heap.size w wc))
           case first =>
            have H := HC6.out
            clear HC6
            by_cases c7 : (rd l0 x24_1) = 0
            · rw [if_pos c7] at H
              have c7b0 : ((rd l0 x24_1) == 0) = true := beq_iff_eq.mpr c7
              have c7b1 : ((rd l0 x24_1) != 0) = false := bne_eq_false_iff_eq.mpr c7
              clear c7
              (first | rw [c7b0] | (simp only [i64_w, i32_w]; rw [c7b0]) | skip)
              have H' := Aside0.mk H
              clear H
              go_wp2
              repeat (go_quiet (fail); try go_wp2)
              go_meet
              case rel => exact ⟨_, (true), z22_, H', ⟨by have := HK1.out; first | omega | exact Nat.le_refl _⟩, ⟨z10_⟩⟩
            · rw [if_neg c7] at H
              have c7b0 : ((rd l0 x24_1) == 0) = false := beq_eq_false_iff_ne.mpr c7
              have c7b1 : ((rd l0 x24_1) != 0) = true := bne_iff_ne.mpr c7
              (first | rw [c7b0] | (simp only [i64_w, i32_w]; rw [c7b0]) | skip)
              replace H := Option.bind_eq_some_iff.mp H
              obtain ⟨t138, A80, H⟩ := H
              replace H : (impl_ZeroSearch.j1 k1 l0 (rd l0 x24_1) l0 (l0.length : Int) x24_1 (decide (t138 > 30000))) = some (r1, r2) := H
              have A8 := Aside0.mk A80
              clear A80
              have H' := Aside0.mk H
              clear H
              go_wp2_with (first | (go_at_call 75; (with_reducible refine (impl_size.calls (rd l0 x24_1) t138 _ A8.out).mono ?_); rintro e w9 ⟨rfl, hb⟩; have n0_ := Aside0.mk (below_step z10_ hb); clear HB; have HB := n0_; clear n0_; (try clear hb); (try clear hb2); (try clear hk); (try clear hi)))
              repeat (go_quiet (first | (go_at_call 75; (with_reducible refine (impl_size.calls (rd l0 x24_1) t138 _ A8.out).mono ?_); rintro e w9 ⟨rfl, hb⟩; have n0_ := Aside0.mk (below_step z10_ hb); clear HB; have HB := n0_; clear n0_; (try clear hb); (try clear hb2); (try clear hk); (try clear hi))); try go_wp2_with (first | (go_at_call 75; (with_reducible refine (impl_size.calls (rd l0 x24_1) t138 _ A8.out).mono ?_); rintro e w9 ⟨rfl, hb⟩; have n0_ := Aside0.mk (below_step z10_ hb); clear HB; have HB := n0_; clear n0_; (try clear hb); (try clear hb2); (try clear hk); (try clear hi))))
              go_meet
              case rel => exact ⟨_, (decide (t138 > 30000)), z22_, H', ⟨by have := HK1.out; first | omega | exact Nat.le_refl _⟩, ⟨z10_⟩⟩
           case rest =>
            clear HC6
            try clear p1
            try clear q1
            try clear hx1
            try clear c2
            try clear c2b0
            try clear c2b1
            try clear p2
            try clear c3
            try clear c3b0
            try clear c4
            try clear c4b0
            try clear c5
            try clear c5b0
            try clear c7
            try clear c7b0
            try clear c7b1
            try clear hx137_0
            try clear p137
            try clear p2
            try clear q137
            obtain ⟨kq, x34_5, rfl, HA, HJ5, HB⟩ := hcut
            cases kq with
            | zero => exact absurd HA.out (by simp [impl_ZeroSearch.j1])
            | succ kj5 =>
             have H := HA.out
             clear HA
             simp only [impl_ZeroSearch.j1] at H
             by_cases c10 : x34_5 = true
             · subst c10
               have H1 : (some (([] : List Int), false)) = some (r1, r2) := by rw [if_pos rfl] at H; exact H
               clear H
               have H := H1
               clear H1
               simp only [Option.some.injEq, Prod.mk.injEq] at H
               obtain ⟨rfl, rfl⟩ := H
               go_wp2
               repeat (go_quiet (fail); try go_wp2)
               go_ret2
               exact ⟨_, z19_, z7_, z10_⟩
             · replace c10 := Bool.eq_false_iff.mpr c10
               subst c10
               have H1 : ((impl_coreOf.f kj5 (rd l0 x24_1)).bind fun bt139 => (if bt139.2 = 1 then (impl_ZeroSearch.l0 kj5 l0 l0 (l0.length : Int) (wrap64 (x24_1 + 1))) else (some (([] : List Int), false)))) = some (r1, r2) := by rw [if_neg (show ¬ (false = true) by decide)] at H; exact H
               clear H
               have H := H1
               clear H1
               replace H := Option.bind_eq_some_iff.mp H
               obtain ⟨⟨t139, t140⟩, A110, H⟩ := H
               replace H : (if t140 = 1 then (impl_ZeroSearch.l0 kj5 l0 l0 (l0.length : Int) (wrap64 (x24_1 + 1))) else (some (([] : List Int), false))) = some (r1, r2) := H
               have A11 := Aside0.mk A110
               clear A110
               by_cases c12 : t140 = 1
               · rw [if_pos c12] at H
                 have c12b0 : (t140 == 1) = true := beq_iff_eq.mpr c12
                 have c12b1 : (t140 != 1) = false := bne_eq_false_iff_eq.mpr c12
                 clear c12
                 have H' := Aside0.mk H
                 clear H
                 go_wp2_with (first | (go_at_call 71; (with_reducible refine (impl_coreOf.calls kj5 (rd l0 x24_1) t139 t140 _ A11.out).mono ?_); rintro e w13 ⟨rfl, hb⟩; have n0_ := Aside0.mk (below_step z10_ hb); clear HB; have HB := n0_; clear n0_; (try clear hb); (try clear hb2); (try clear hk); (try clear hi)))
                 repeat (go_quiet (first | (go_at_call 71; (with_reducible refine (impl_coreOf.calls kj5 (rd l0 x24_1) t139 t140 _ A11.out).mono ?_); rintro e w13 ⟨rfl, hb⟩; have n0_ := Aside0.mk (below_step z10_ hb); clear HB; have HB := n0_; clear n0_; (try clear hb); (try clear hb2); (try clear hk); (try clear hi))); try go_wp2_with (first | (go_at_call 71; (with_reducible refine (impl_coreOf.calls kj5 (rd l0 x24_1) t139 t140 _ A11.out).mono ?_); rintro e w13 ⟨rfl, hb⟩; have n0_ := Aside0.mk (below_step z10_ hb); clear HB; have HB := n0_; clear n0_; (try clear hb); (try clear hb2); (try clear hk); (try clear hi))))
                 go_roundg kj5
                 case measure => have := HK1.out; have := HJ5.out; omega
                 case rel => exact ⟨(wrap64 (x24_1 + 1)), z22_, H', ⟨by have := HK1.out; have := HJ5.out; omega⟩, ⟨z10_⟩⟩
               · rw [if_neg c12] at H
                 have c12b0 : (t140 == 1) = false := beq_eq_false_iff_ne.mpr c12
                 have c12b1 : (t140 != 1) = true := bne_iff_ne.mpr c12
                 simp only [Option.some.injEq, Prod.mk.injEq] at H
                 obtain ⟨rfl, rfl⟩ := H
                 go_wp2_with (first | (go_at_call 71; (with_reducible refine (impl_coreOf.calls kj5 (rd l0 x24_1) t139 t140 _ A11.out).mono ?_); rintro e w14 ⟨rfl, hb⟩; have n0_ := Aside0.mk (below_step z10_ hb); clear HB; have HB := n0_; clear n0_; (try clear hb); (try clear hb2); (try clear hk); (try clear hi)))
                 repeat (go_quiet (first | (go_at_call 71; (with_reducible refine (impl_coreOf.calls kj5 (rd l0 x24_1) t139 t140 _ A11.out).mono ?_); rintro e w14 ⟨rfl, hb⟩; have n0_ := Aside0.mk (below_step z10_ hb); clear HB; have HB := n0_; clear n0_; (try clear hb); (try clear hb2); (try clear hk); (try clear hi))); try go_wp2_with (first | (go_at_call 71; (with_reducible refine (impl_coreOf.calls kj5 (rd l0 x24_1) t139 t140 _ A11.out).mono ?_); rintro e w14 ⟨rfl, hb⟩; have n0_ := Aside0.mk (below_step z10_ hb); clear HB; have HB := n0_; clear n0_; (try clear hb); (try clear hb2); (try clear hk); (try clear hi))))
                 go_ret2
                 exact ⟨_, z19_, z7_, z10_⟩
         · rw [if_neg c5] at H
           exact absurd H (by simp)
       · rw [if_neg c4] at H
         exact absurd H (by simp)
     · rw [if_neg c3] at H
       have c3b0 : decide (x24_1 < (l0.length : Int)) = false := decide_eq_false c3
       clear c3
       replace H := Option.bind_eq_some_iff.mp H
       obtain ⟨⟨t141, t142, t143⟩, A150, H⟩ := H
       replace H : (if t143 = 0 then ((impl_product.f k1 l0).bind fun t144 => ((impl_size.f t144).bind fun t145 => (impl_ZeroSearch.j2 k1 l0 (decide (t145 > 30000))))) else (impl_ZeroSearch.j2 k1 l0 true)) = some (r1, r2) := H
       have A15 := Aside0.mk A150
       clear A150
       have HC16 := Aside0.mk H
       clear H
       go_upto_region 13 with (first | (go_at_call 72; (with_reducible refine (impl_sharedPrime.calls k1 _ _ l0 t141 t142 t143 _ ?side1 ?side2 A15.out).mono ?_); (case side1 => repeat (first | exact (Kd.C_below HR0.out HB.out) | (with_reducible refine Kd.C_alloc ?_ _) | (with_reducible refine Kd.C_drewN ?_ _) | (with_reducible refine Kd.C_drew ?_))); (case side2 => exact HC0.out); rintro e w17 ⟨rfl, hb⟩; have n0_ := Aside0.mk (below_step z10_ hb); clear HB; have HB := n0_; clear n0_; (try clear hb); (try clear hb2); (try clear hk); (try clear hi)))
       repeat (go_quiet (first | (go_at_call 72; (with_reducible refine (impl_sharedPrime.calls k1 _ _ l0 t141 t142 t143 _ ?side1 ?side2 A15.out).mono ?_); (case side1 => repeat (first | exact (Kd.C_below HR0.out HB.out) | (with_reducible refine Kd.C_alloc ?_ _) | (with_reducible refine Kd.C_drewN ?_ _) | (with_reducible refine Kd.C_drew ?_))); (case side2 => exact HC0.out); rintro e w17 ⟨rfl, hb⟩; have n0_ := Aside0.mk (below_step z10_ hb); clear HB; have HB := n0_; clear n0_; (try clear hb); (try clear hb2); (try clear hk); (try clear hi))); go_upto_region 13 with (first | (go_at_call 72; (with_reducible refine (impl_sharedPrime.calls k1 _ _ l0 t141 t142 t143 _ ?side1 ?side2 A15.out).mono ?_); (case side1 => repeat (first | exact (Kd.C_below HR0.out HB.out) | (with_reducible refine Kd.C_alloc ?_ _) | (with_reducible refine Kd.C_drewN ?_ _) | (with_reducible refine Kd.C_drew ?_))); (case side2 => exact HC0.out); rintro e w17 ⟨rfl, hb⟩; have n0_ := Aside0.mk (below_step z10_ hb); clear HB; have HB := n0_; clear n0_; (try clear hb); (try clear hb2); (try clear hk); (try clear hi))))
       (try simp only [Act.put, List.setIfInBounds_toArray, List.set_cons_zero, List.set_cons_succ])
       go_cut [56] (fun v56 wc => ∃ (kq : Nat) (x56_15 : Bool), v56 = .bool x56_15 ∧ Aside0 (impl_ZeroSearch.j2 kq l0 x56_15 = some (r1, r2)) ∧ Aside0 (kq ≤ k1) ∧ Aside0 (Below w.heap.size w wc))
       case first =>
        have H := HC16.out
        clear HC16
        by_cases c18 : t143 = 0
        · rw [if_pos c18] at H
          have c18b0 : (t143 == 0) = true := beq_iff_eq.mpr c18
          have c18b1 : (t143 != 0) = false := bne_eq_false_iff_eq.mpr c18
          clear c18
          (first | rw [c18b0] | (simp only [i64_w, i32_w]; rw [c18b0]) | skip)
          replace H := Option.bind_eq_some_iff.mp H
          obtain ⟨t144, A190, H⟩ := H
          replace H : ((impl_size.f t144).bind fun t145 => (impl_ZeroSearch.j2 k1 l0 (decide (t145 > 30000)))) = some (r1, r2) := H
          have A19 := Aside0.mk A190
          clear A190
          replace H := Option.bind_eq_some_iff.mp H
          obtain ⟨t145, A200, H⟩ := H
          replace H : (impl_ZeroSearch.j2 k1 l0 (decide (t145 > 30000))) = some (r1, r2) := H
          have A20 := Aside0.mk A200
          clear A200
          have H' := Aside0.mk H
          clear H
          go_wp2_with (first | (go_at_call 76; (with_reducible refine (impl_product.calls k1 _ _ l0 t144 _ ?side1 ?side2 A19.out).mono ?_); (case side1 => repeat (first | exact (Kd.C_below HR0.out HB.out) | (with_reducible refine Kd.C_alloc ?_ _) | (with_reducible refine Kd.C_drewN ?_ _) | (with_reducible refine Kd.C_drew ?_))); (case side2 => exact HC0.out); rintro e w' ⟨rfl, ⟨nd, rfl⟩⟩; (try first | exact ⟨rfl, _, World.drewN_drewN _ _ _⟩ | exact ⟨rfl, _, Eq.trans (World.drewN_drewN _ _ _) (congrArg (World.drewN _) (Nat.add_assoc _ _ _))⟩)) | (go_at_call 75; (with_reducible refine (impl_size.calls t144 t145 _ A20.out).mono ?_); rintro e w21 ⟨rfl, hb⟩; have n0_ := Aside0.mk (below_step z10_ hb); clear HB; have HB := n0_; clear n0_; (try clear hb); (try clear hb2); (try clear hk); (try clear hi)))
          repeat (go_quiet (first | (go_at_call 76; (with_reducible refine (impl_product.calls k1 _ _ l0 t144 _ ?side1 ?side2 A19.out).mono ?_); (case side1 => repeat (first | exact (Kd.C_below HR0.out HB.out) | (with_reducible refine Kd.C_alloc ?_ _) | (with_reducible refine Kd.C_drewN ?_ _) | (with_reducible refine Kd.C_drew ?_))); (case side2 => exact HC0.out); rintro e w' ⟨rfl, ⟨nd, rfl⟩⟩; (try first | exact ⟨rfl, _, World.drewN_drewN _ _ _⟩ | exact ⟨rfl, _, Eq.trans (World.drewN_drewN _ _ _) (congrArg (World.drewN _) (Nat.add_assoc _ _ _))⟩)) | (go_at_call 75; (with_reducible refine (impl_size.calls t144 t145 _ A20.out).mono ?_); rintro e w21 ⟨rfl, hb⟩; have n0_ := Aside0.mk (below_step z10_ hb); clear HB; have HB := n0_; clear n0_; (try clear hb); (try clear hb2); (try clear hk); (try clear hi))); try go_wp2_with (first | (go_at_call 76; (with_reducible refine (impl_product.calls k1 _ _ l0 t144 _ ?side1 ?side2 A19.out).mono ?_); (case side1 => repeat (first | exact (Kd.C_below HR0.out HB.out) | (with_reducible refine Kd.C_alloc ?_ _) | (with_reducible refine Kd.C_drewN ?_ _) | (with_reducible refine Kd.C_drew ?_))); (case side2 => exact HC0.out); rintro e w' ⟨rfl, ⟨nd, rfl⟩⟩; (try first | exact ⟨rfl, _, World.drewN_drewN _ _ _⟩ | exact ⟨rfl, _, Eq.trans (World.drewN_drewN _ _ _) (congrArg (World.drewN _) (Nat.add_assoc _ _ _))⟩)) | (go_at_call 75; (with_reducible refine (impl_size.calls t144 t145 _ A20.out).mono ?_); rintro e w21 ⟨rfl, hb⟩; have n0_ := Aside0.mk (below_step z10_ hb); clear HB; have HB := n0_; clear n0_; (try clear hb); (try clear hb2); (try clear hk); (try clear hi))))
          go_meet
          case rel => exact ⟨_, (decide (t145 > 30000)), z22_, H', ⟨by have := HK1.out; first | omega | exact Nat.le_refl _⟩, ⟨z10_⟩⟩
        · rw [if_neg c18] at H
          have c18b0 : (t143 == 0) = false := beq_eq_false_iff_ne.mpr c18
          have c18b1 : (t143 != 0) = true := bne_iff_ne.mpr c18
          (first | rw [c18b0] | (simp only [i64_w, i32_w]; rw [c18b0]) | skip)
          have H' := Aside0.mk H
          clear H
          go_wp2
          repeat (go_quiet (fail); try go_wp2)
          go_meet
          case rel => exact ⟨_, (true), z22_, H', ⟨by have := HK1.out; first | omega | exact Nat.le_refl _⟩, ⟨z10_⟩⟩
       case rest =>
        clear HC16
        try clear c1
        try clear p1
        try clear q1
        try clear hx1
        try clear c2
        try clear c2b0
        try clear c2b1
        try clear p2
        try clear c3
        try clear c3b0
        try clear c4
        try clear c4b0
        try clear c5
        try clear c5b0
        try clear p6
        try clear c7
        try clear c7b0
        try clear c7b1
        try clear c10
        try clear c12
        try clear c12b0
        try clear c12b1
        try clear p13
        try clear q13
        try clear hx13
        try clear c18
        try clear c18b0
        try clear c18b1
        try clear hx137_0
        try clear p1
        try clear p137
        try clear p2
        try clear q1
        try clear q137
        obtain ⟨kq, x56_15, rfl, HA, HJ15, HB⟩ := hcut
        cases kq with
        | zero => exact absurd HA.out (by simp [impl_ZeroSearch.j2])
        | succ kj15 =>
         have H := HA.out
         clear HA
         simp only [impl_ZeroSearch.j2] at H
         by_cases c22 : x56_15 = true
         · subst c22
           have H1 : (some (([] : List Int), false)) = some (r1, r2) := by rw [if_pos rfl] at H; exact H
           clear H
           have H := H1
           clear H1
           simp only [Option.some.injEq, Prod.mk.injEq] at H
           obtain ⟨rfl, rfl⟩ := H
           go_wp2
           repeat (go_quiet (fail); try go_wp2)
           go_ret2
           exact ⟨_, z19_, z7_, z10_⟩
         · replace c22 := Bool.eq_false_iff.mpr c22
           subst c22
           have H1 : (if 0 < (l0.length : Int) then (if 1 < (l0.length : Int) then (if 2 < (l0.length : Int) then (impl_ZeroSearch.l1 kj15 (rd l0 0) (rd l0 1) (rd l0 2) 0) else (none)) else (none)) else (none)) = some (r1, r2) := by rw [if_neg (show ¬ (false = true) by decide)] at H; exact H
           clear H
           have H := H1
           clear H1
           by_cases c23 : 0 < (l0.length : Int)
           · rw [if_pos c23] at H
             have c23b0 : decide (0 < (l0.length : Int)) = true := decide_eq_true c23
             have c23b1 : decide (0 < l0.length) = true := decide_eq_true (by omega)
             clear c23
             by_cases c24 : 1 < (l0.length : Int)
             · rw [if_pos c24] at H
               have c24b0 : decide (1 < (l0.length : Int)) = true := decide_eq_true c24
               have c24b1 : decide (1 < l0.length) = true := decide_eq_true (by omega)
               clear c24
               by_cases c25 : 2 < (l0.length : Int)
               · rw [if_pos c25] at H
                 have c25b0 : decide (2 < (l0.length : Int)) = true := decide_eq_true c25
                 have c25b1 : decide (2 < l0.length) = true := decide_eq_true (by omega)
                 clear c25
                 have H' := Aside0.mk H
                 clear H
                 have p146 : 0 ≤ (0 : Int) := (by omega)
                 have q146 : 0 < (l0.length : Int) := of_decide_eq_true z21_
                 obtain ⟨ad146, e146, hx146_0⟩ := Kd.at_int HR0.out 0 p146 q146
                 cases e146
                 have qi146 : (0 < l0.length) = True := eq_true (by omega)
                 (try rw [show ((0 : Int)).toNat = 0 from rfl] at hx146_0)
                 (try rw [Addr.add_zero'] at hx146_0)
                 replace hx146_0 := (HB.out.cell (World.block_lt_of_cell? w _ hx146_0)).trans hx146_0
                 replace p146 := eq_true p146
                 replace q146 := eq_true q146
                 have p147 : 0 ≤ (1 : Int) := (by omega)
                 have q147 : 1 < (l0.length : Int) := of_decide_eq_true z21_
                 obtain ⟨ad147, e147, hx147_0⟩ := Kd.at_int HR0.out 1 p147 q147
                 obtain rfl : ad146 = ad147 := (by injection e147)
                 (try simp only [show (1 : Int).toNat = 1 from rfl, Nat.reduceMul, Nat.reduceEqDiff, Go.Addr.add, ↓reduceIte] at hx147_0)
                 have qi147 : (1 < l0.length) = True := eq_true (by omega)
                 (try rw [show ((1 : Int)).toNat = 1 from rfl] at hx147_0)
                 replace hx147_0 := (HB.out.cell (World.block_lt_of_cell? w _ hx147_0)).trans hx147_0
                 replace p147 := eq_true p147
                 replace q147 := eq_true q147
                 have p148 : 0 ≤ (2 : Int) := (by omega)
                 have q148 : 2 < (l0.length : Int) := of_decide_eq_true z21_
                 obtain ⟨ad148, e148, hx148_0⟩ := Kd.at_int HR0.out 2 p148 q148
                 obtain rfl : ad146 = ad148 := (by injection e148)
                 (try simp only [show (2 : Int).toNat = 2 from rfl, Nat.reduceMul, Nat.reduceEqDiff, Go.Addr.add, ↓reduceIte] at hx148_0)
                 have qi148 : (2 < l0.length) = True := eq_true (by omega)
                 (try rw [show ((2 : Int)).toNat = 2 from rfl] at hx148_0)
                 replace hx148_0 := (HB.out.cell (World.block_lt_of_cell? w _ hx148_0)).trans hx148_0
                 replace p148 := eq_true p148
                 replace q148 := eq_true q148
                 go_wp2
                 repeat (go_quiet (fail); try go_wp2)
                 go_loopg [14] kj15 (fun kq v14 w' => ∃ (x14_3 : Int), v14 = .int .i64 x14_3 ∧ Aside0 (impl_ZeroSearch.l1 kq (rd l0 0) (rd l0 1) (rd l0 2) x14_3 = some (r1, r2)) ∧ Aside0 (kq ≤ kj15) ∧ Aside0 (Below w.heap.size w w'))
                 case atStart => exact ⟨(0), z22_, H', ⟨Nat.le_refl _⟩, ⟨z10_⟩⟩
                 case round =>
                  clear H'
                  try clear c1
                  try clear p1
                  try clear q1
                  try clear hx1
                  try clear qi1
                  try clear c2
                  try clear c2b0
                  try clear c2b1
                  try clear p2
                  try clear c3
                  try clear c3b0
                  try clear c4
                  try clear c4b0
                  try clear c5
                  try clear c5b0
                  try clear p6
                  try clear c7
                  try clear c7b0
                  try clear c7b1
                  try clear c10
                  try clear c12
                  try clear c12b0
                  try clear c12b1
                  try clear p13
                  try clear q13
                  try clear hx13
                  try clear p14
                  try clear q14
                  try clear hx14
                  try clear qi14
                  try clear c18
                  try clear c18b0
                  try clear c18b1
                  try clear c22
                  try clear c23
                  try clear c23b0
                  try clear c23b1
                  try clear c24
                  try clear c24b0
                  try clear c24b1
                  try clear c25
                  try clear c25b0
                  try clear c25b1
                  try clear hx137_0
                  try clear hx146_0
                  try clear hx147_0
                  try clear hx148_0
                  try clear p1
                  try clear p13
                  try clear p137
                  try clear p146
                  try clear p147
                  try clear p148
                  try clear p2
                  try clear p6
                  try clear q1
                  try clear q13
                  try clear q137
                  try clear q146
                  try clear q147
                  try clear q148
                  obtain ⟨x14_3, rfl, HA, HK3, HB⟩ := hrel
                  cases gk with
                  | zero => exact absurd HA.out (by simp [impl_ZeroSearch.l1])
                  | succ k3 =>
                   have H := HA.out
                   clear HA
                   simp only [impl_ZeroSearch.l1] at H
                   replace H := Option.bind_eq_some_iff.mp H
                   obtain ⟨t149, A260, H⟩ := H
                   replace H : (if (wrap64 (x14_3 * x14_3)) ≤ t149 then (impl_ZeroSearch.l2 k3 (rd l0 0) (rd l0 1) (rd l0 2) x14_3 0) else (some (([] : List Int), false))) = some (r1, r2) := H
                   have A26 := Aside0.mk A260
                   clear A260
                   by_cases c27 : (wrap64 (x14_3 * x14_3)) ≤ t149
                   · rw [if_pos c27] at H
                     have c27b0 : decide ((wrap64 (x14_3 * x14_3)) ≤ t149) = true := decide_eq_true c27
                     clear c27
                     have H' := Aside0.mk H
                     clear H
                     go_wp2_with (first | (go_at_call 75; (with_reducible refine (impl_size.calls (wrap64 ((rd l0 1) * (rd l0 2))) t149 _ A26.out).mono ?_); rintro e w28 ⟨rfl, hb⟩; have n0_ := Aside0.mk (below_step z10_ hb); clear HB; have HB := n0_; clear n0_; (try clear hb); (try clear hb2); (try clear hk); (try clear hi)))
                     repeat (go_quiet (first | (go_at_call 75; (with_reducible refine (impl_size.calls (wrap64 ((rd l0 1) * (rd l0 2))) t149 _ A26.out).mono ?_); rintro e w28 ⟨rfl, hb⟩; have n0_ := Aside0.mk (below_step z10_ hb); clear HB; have HB := n0_; clear n0_; (try clear hb); (try clear hb2); (try clear hk); (try clear hi))); try go_wp2_with (first | (go_at_call 75; (with_reducible refine (impl_size.calls (wrap64 ((rd l0 1) * (rd l0 2))) t149 _ A26.out).mono ?_); rintro e w28 ⟨rfl, hb⟩; have n0_ := Aside0.mk (below_step z10_ hb); clear HB; have HB := n0_; clear n0_; (try clear hb); (try clear hb2); (try clear hk); (try clear hi))))
                     go_loopg [15] k3 (fun kq v15 w' => ∃ (x15_4 : Int), v15 = .int .i64 x15_4 ∧ Aside0 (impl_ZeroSearch.l2 kq (rd l0 0) (rd l0 1) (rd l0 2) x14_3 x15_4 = some (r1, r2)) ∧ Aside0 (kq ≤ k3) ∧ Aside0 (Below w.heap.size w w'))
                     case atStart => exact ⟨(0), z22_, H', ⟨Nat.le_refl _⟩, ⟨z10_⟩⟩
                     case round =>
                      clear H'
                      try clear c1
                      try clear p1
                      try clear q1
                      try clear hx1
                      try clear qi1
                      try clear c2
                      try clear c2b0
                      try clear c2b1
                      try clear p2
                      try clear c3
                      try clear c3b0
                      try clear c4
                      try clear c4b0
                      try clear c5
                      try clear c5b0
                      try clear p6
                      try clear c7
                      try clear c7b0
                      try clear c7b1
                      try clear c10
                      try clear c12
                      try clear c12b0
                      try clear c12b1
                      try clear p13
                      try clear q13
                      try clear hx13
                      try clear p14
                      try clear q14
                      try clear hx14
                      try clear qi14
                      try clear c18
                      try clear c18b0
                      try clear c18b1
                      try clear c22
                      try clear c23
                      try clear c23b0
                      try clear c23b1
                      try clear c24
                      try clear c24b0
                      try clear c24b1
                      try clear c25
                      try clear c25b0
                      try clear c25b1
                      try clear c27
                      try clear c27b0
                      try clear hx137_0
                      try clear hx146_0
                      try clear hx147_0
                      try clear hx148_0
                      try clear p1
                      try clear p13
                      try clear p137
                      try clear p14
                      try clear p146
                      try clear p147
                      try clear p148
                      try clear p2
                      try clear p6
                      try clear q1
                      try clear q13
                      try clear q137
                      try clear q14
                      try clear q146
                      try clear q147
                      try clear q148
                      obtain ⟨x15_4, rfl, HA, HK4, HB⟩ := hrel
                      cases gk with
                      | zero => exact absurd HA.out (by simp [impl_ZeroSearch.l2])
                      | succ k4 =>
                       have H := HA.out
                       clear HA
                       simp only [impl_ZeroSearch.l2] at H
                       replace H := Option.bind_eq_some_iff.mp H
                       obtain ⟨t150, A290, H⟩ := H
                       replace H : (if (wrap64 (x15_4 * x15_4)) ≤ t150 then (if (rd l0 2) = 0 then (none) else (if (Int.tmod (wrap64 ((wrap64 ((wrap64 ((wrap64 (-(rd l0 0))) * x14_3)) * x14_3)) - (wrap64 ((wrap64 ((rd l0 1) * x15_4)) * x15_4)))) (rd l0 2)) = 0 then ((impl_squareRoot.f k4 (wrap64 (Int.tdiv (wrap64 ((wrap64 ((wrap64 ((wrap64 (-(rd l0 0))) * x14_3)) * x14_3)) - (wrap64 ((wrap64 ((rd l0 1) * x15_4)) * x15_4)))) (rd l0 2)))).bind fun bt151 => (if bt151.2 = true then (if x14_3 = 0 then (if x15_4 = 0 then (if bt151.1 = 0 then (impl_ZeroSearch.l2 k4 (rd l0 0) (rd l0 1) (rd l0 2) x14_3 (wrap64 (x15_4 + 1))) else (some ((([x14_3, x15_4, bt151.1] : List Int)), true))) else (some ((([x14_3, x15_4, bt151.1] : List Int)), true))) else (some ((([x14_3, x15_4, bt151.1] : List Int)), true))) else (impl_ZeroSearch.l2 k4 (rd l0 0) (rd l0 1) (rd l0 2) x14_3 (wrap64 (x15_4 + 1))))) else (impl_ZeroSearch.l2 k4 (rd l0 0) (rd l0 1) (rd l0 2) x14_3 (wrap64 (x15_4 + 1))))) else (impl_ZeroSearch.l1 k4 (rd l0 0) (rd l0 1) (rd l0 2) (wrap64 (x14_3 + 1)))) = some (r1, r2) := H
                       have A29 := Aside0.mk A290
                       clear A290
                       by_cases c30 : (wrap64 (x15_4 * x15_4)) ≤ t150
                       · rw [if_pos c30] at H
                         have c30b0 : decide ((wrap64 (x15_4 * x15_4)) ≤ t150) = true := decide_eq_true c30
                         clear c30
                         by_cases c31 : (rd l0 2) = 0
                         · rw [if_pos c31] at H
                           exact absurd H (by simp)
                         · rw [if_neg c31] at H
                           have c31b0 : ((rd l0 2) == 0) = false := beq_eq_false_iff_ne.mpr c31
                           have c31b1 : ((rd l0 2) != 0) = true := bne_iff_ne.mpr c31
                           by_cases c32 : (Int.tmod (wrap64 ((wrap64 ((wrap64 ((wrap64 (-(rd l0 0))) * x14_3)) * x14_3)) - (wrap64 ((wrap64 ((rd l0 1) * x15_4)) * x15_4)))) (rd l0 2)) = 0
                           · rw [if_pos c32] at H
                             have c32b0 : ((Int.tmod (wrap64 ((wrap64 ((wrap64 ((wrap64 (-(rd l0 0))) * x14_3)) * x14_3)) - (wrap64 ((wrap64 ((rd l0 1) * x15_4)) * x15_4)))) (rd l0 2)) == 0) = true := beq_iff_eq.mpr c32
                             have c32b1 : ((Int.tmod (wrap64 ((wrap64 ((wrap64 ((wrap64 (-(rd l0 0))) * x14_3)) * x14_3)) - (wrap64 ((wrap64 ((rd l0 1) * x15_4)) * x15_4)))) (rd l0 2)) != 0) = false := bne_eq_false_iff_eq.mpr c32
                             clear c32
                             replace H := Option.bind_eq_some_iff.mp H
                             obtain ⟨⟨t151, t152⟩, A330, H⟩ := H
                             replace H : (if t152 = true then (if x14_3 = 0 then (if x15_4 = 0 then (if t151 = 0 then (impl_ZeroSearch.l2 k4 (rd l0 0) (rd l0 1) (rd l0 2) x14_3 (wrap64 (x15_4 + 1))) else (some ((([x14_3, x15_4, t151] : List Int)), true))) else (some ((([x14_3, x15_4, t151] : List Int)), true))) else (some ((([x14_3, x15_4, t151] : List Int)), true))) else (impl_ZeroSearch.l2 k4 (rd l0 0) (rd l0 1) (rd l0 2) x14_3 (wrap64 (x15_4 + 1)))) = some (r1, r2) := H
                             have A33 := Aside0.mk A330
                             clear A330
                             by_cases c34 : t152 = true
                             · subst c34
                               have H1 : (if x14_3 = 0 then (if x15_4 = 0 then (if t151 = 0 then (impl_ZeroSearch.l2 k4 (rd l0 0) (rd l0 1) (rd l0 2) x14_3 (wrap64 (x15_4 + 1))) else (some ((([x14_3, x15_4, t151] : List Int)), true))) else (some ((([x14_3, x15_4, t151] : List Int)), true))) else (some ((([x14_3, x15_4, t151] : List Int)), true))) = some (r1, r2) := by rw [if_pos rfl] at H; exact H
                               clear H
                               have H := H1
                               clear H1
                               by_cases c35 : x14_3 = 0
                               · rw [if_pos c35] at H
                                 have c35b0 : (x14_3 == 0) = true := beq_iff_eq.mpr c35
                                 have c35b1 : (x14_3 != 0) = false := bne_eq_false_iff_eq.mpr c35
                                 clear c35
                                 by_cases c36 : x15_4 = 0
                                 · rw [if_pos c36] at H
                                   have c36b0 : (x15_4 == 0) = true := beq_iff_eq.mpr c36
                                   have c36b1 : (x15_4 != 0) = false := bne_eq_false_iff_eq.mpr c36
                                   clear c36
                                   by_cases c37 : t151 = 0
                                   · rw [if_pos c37] at H
                                     have c37b0 : (t151 == 0) = true := beq_iff_eq.mpr c37
                                     have c37b1 : (t151 != 0) = false := bne_eq_false_iff_eq.mpr c37
                                     clear c37
                                     have H' := Aside0.mk H
                                     clear H
                                     go_wp2_with (first | (go_at_call 75; (with_reducible refine (impl_size.calls (wrap64 ((rd l0 0) * (rd l0 2))) t150 _ A29.out).mono ?_); rintro e w38 ⟨rfl, hb⟩; have n0_ := Aside0.mk (below_step z10_ hb); clear HB; have HB := n0_; clear n0_; (try clear hb); (try clear hb2); (try clear hk); (try clear hi)) | (go_at_call 77; (with_reducible refine (impl_squareRoot.calls k4 (wrap64 (Int.tdiv (wrap64 ((wrap64 ((wrap64 ((wrap64 (-(rd l0 0))) * x14_3)) * x14_3)) - (wrap64 ((wrap64 ((rd l0 1) * x15_4)) * x15_4)))) (rd l0 2))) t151 true _ A33.out).mono ?_); rintro e w' ⟨rfl, ⟨nd, rfl⟩⟩; (try first | exact ⟨rfl, _, World.drewN_drewN _ _ _⟩ | exact ⟨rfl, _, Eq.trans (World.drewN_drewN _ _ _) (congrArg (World.drewN _) (Nat.add_assoc _ _ _))⟩)))
                                     repeat (go_quiet (first | (go_at_call 75; (with_reducible refine (impl_size.calls (wrap64 ((rd l0 0) * (rd l0 2))) t150 _ A29.out).mono ?_); rintro e w38 ⟨rfl, hb⟩; have n0_ := Aside0.mk (below_step z10_ hb); clear HB; have HB := n0_; clear n0_; (try clear hb); (try clear hb2); (try clear hk); (try clear hi)) | (go_at_call 77; (with_reducible refine (impl_squareRoot.calls k4 (wrap64 (Int.tdiv (wrap64 ((wrap64 ((wrap64 ((wrap64 (-(rd l0 0))) * x14_3)) * x14_3)) - (wrap64 ((wrap64 ((rd l0 1) * x15_4)) * x15_4)))) (rd l0 2))) t151 true _ A33.out).mono ?_); rintro e w' ⟨rfl, ⟨nd, rfl⟩⟩; (try first | exact ⟨rfl, _, World.drewN_drewN _ _ _⟩ | exact ⟨rfl, _, Eq.trans (World.drewN_drewN _ _ _) (congrArg (World.drewN _) (Nat.add_assoc _ _ _))⟩))); try go_wp2_with (first | (go_at_call 75; (with_reducible refine (impl_size.calls (wrap64 ((rd l0 0) * (rd l0 2))) t150 _ A29.out).mono ?_); rintro e w38 ⟨rfl, hb⟩; have n0_ := Aside0.mk (below_step z10_ hb); clear HB; have HB := n0_; clear n0_; (try clear hb); (try clear hb2); (try clear hk); (try clear hi)) | (go_at_call 77; (with_reducible refine (impl_squareRoot.calls k4 (wrap64 (Int.tdiv (wrap64 ((wrap64 ((wrap64 ((wrap64 (-(rd l0 0))) * x14_3)) * x14_3)) - (wrap64 ((wrap64 ((rd l0 1) * x15_4)) * x15_4)))) (rd l0 2))) t151 true _ A33.out).mono ?_); rintro e w' ⟨rfl, ⟨nd, rfl⟩⟩; (try first | exact ⟨rfl, _, World.drewN_drewN _ _ _⟩ | exact ⟨rfl, _, Eq.trans (World.drewN_drewN _ _ _) (congrArg (World.drewN _) (Nat.add_assoc _ _ _))⟩))))
                                     go_roundg k4
                                     case measure => have := HK1.out; have := HJ15.out; have := HK3.out; have := HK4.out; omega
                                     case rel => exact ⟨(wrap64 (x15_4 + 1)), z22_, H', ⟨by have := HK1.out; have := HJ15.out; have := HK3.out; have := HK4.out; omega⟩, ⟨z10_⟩⟩
                                   · rw [if_neg c37] at H
                                     have c37b0 : (t151 == 0) = false := beq_eq_false_iff_ne.mpr c37
                                     have c37b1 : (t151 != 0) = true := bne_iff_ne.mpr c37
                                     obtain ⟨y153, hy153⟩ : ∃ y_ : List Int, y_ = (([x14_3, x15_4, t151] : List Int)) := ⟨_, rfl⟩
                                     replace H : (some (y153, true)) = some (r1, r2) := by first | (rw [hy153]; with_reducible exact H) | (have H2_ := (Option.bind_some _ _).symm.trans H; rw [hy153]; with_reducible exact H2_) | (have H2_ := (Option.bind_some _ _).symm.trans H; with_reducible exact H2_) | with_reducible exact H | (rw [hy153]; exact H) | exact H
                                     have Ny153 := Aside0.mk hy153
                                     clear hy153
                                     simp only [Option.some.injEq, Prod.mk.injEq] at H
                                     obtain ⟨rfl, rfl⟩ := H
                                     go_wp2_with (first | (go_at_call 75; (with_reducible refine (impl_size.calls (wrap64 ((rd l0 0) * (rd l0 2))) t150 _ A29.out).mono ?_); rintro e w39 ⟨rfl, hb⟩; have n0_ := Aside0.mk (below_step z10_ hb); clear HB; have HB := n0_; clear n0_; (try clear hb); (try clear hb2); (try clear hk); (try clear hi)) | (go_at_call 77; (with_reducible refine (impl_squareRoot.calls k4 (wrap64 (Int.tdiv (wrap64 ((wrap64 ((wrap64 ((wrap64 (-(rd l0 0))) * x14_3)) * x14_3)) - (wrap64 ((wrap64 ((rd l0 1) * x15_4)) * x15_4)))) (rd l0 2))) t151 true _ A33.out).mono ?_); rintro e w' ⟨rfl, ⟨nd, rfl⟩⟩; (try first | exact ⟨rfl, _, World.drewN_drewN _ _ _⟩ | exact ⟨rfl, _, Eq.trans (World.drewN_drewN _ _ _) (congrArg (World.drewN _) (Nat.add_assoc _ _ _))⟩)) | ((with_reducible refine gate_dst (N := 125) rfl ?_); refine Kd.R_lit (Kd.int .i64) _ 3 ?hg (N := 125) ?hd (xs := ([x14_3, x15_4, t151] : List Int)) (inner := [.int .i64 x14_3, .int .i64 x15_4, .int .i64 t151]) (ok := fun _ => True) (okp := fun _ => True) ?hr ?hp (fun _ hk => hk) trivial (Below.refl _ _) (Nat.le_refl _) (by simp) ?_; (case hd => rfl); (case hg => rfl); (case hr => first | (go_simp; done) | (go_simp; rfl)); (case hp => exact (Reps.one (show Kd.M (Kd.int .i64) _ _ _ x14_3 [.int .i64 x14_3] from rfl) (Reps.one (show Kd.M (Kd.int .i64) _ _ _ x15_4 [.int .i64 x15_4] from rfl) (Reps.one (show Kd.M (Kd.int .i64) _ _ _ t151 [.int .i64 t151] from rfl) (Reps.none _ _))))); intro v154 w40 ho41 hb hg_ hnew_; clear hg_ hnew_; (first | rw [← Ny153.out] at ho41 | (simp only [Int.reduceToNat] at ho41; rw [← Ny153.out] at ho41)); have n0_ := Aside0.mk (Kd.R_lower ho41 (below_size z10_)); have n1_ := Aside0.mk (below_step z10_ hb); clear HB; have HO155 := n0_; have HB := n1_; clear n0_ n1_; clear hb ho41))
                                     repeat (go_quiet (first | (go_at_call 75; (with_reducible refine (impl_size.calls (wrap64 ((rd l0 0) * (rd l0 2))) t150 _ A29.out).mono ?_); rintro e w39 ⟨rfl, hb⟩; have n0_ := Aside0.mk (below_step z10_ hb); clear HB; have HB := n0_; clear n0_; (try clear hb); (try clear hb2); (try clear hk); (try clear hi)) | (go_at_call 77; (with_reducible refine (impl_squareRoot.calls k4 (wrap64 (Int.tdiv (wrap64 ((wrap64 ((wrap64 ((wrap64 (-(rd l0 0))) * x14_3)) * x14_3)) - (wrap64 ((wrap64 ((rd l0 1) * x15_4)) * x15_4)))) (rd l0 2))) t151 true _ A33.out).mono ?_); rintro e w' ⟨rfl, ⟨nd, rfl⟩⟩; (try first | exact ⟨rfl, _, World.drewN_drewN _ _ _⟩ | exact ⟨rfl, _, Eq.trans (World.drewN_drewN _ _ _) (congrArg (World.drewN _) (Nat.add_assoc _ _ _))⟩)) | ((with_reducible refine gate_dst (N := 125) rfl ?_); refine Kd.R_lit (Kd.int .i64) _ 3 ?hg (N := 125) ?hd (xs := ([x14_3, x15_4, t151] : List Int)) (inner := [.int .i64 x14_3, .int .i64 x15_4, .int .i64 t151]) (ok := fun _ => True) (okp := fun _ => True) ?hr ?hp (fun _ hk => hk) trivial (Below.refl _ _) (Nat.le_refl _) (by simp) ?_; (case hd => rfl); (case hg => rfl); (case hr => first | (go_simp; done) | (go_simp; rfl)); (case hp => exact (Reps.one (show Kd.M (Kd.int .i64) _ _ _ x14_3 [.int .i64 x14_3] from rfl) (Reps.one (show Kd.M (Kd.int .i64) _ _ _ x15_4 [.int .i64 x15_4] from rfl) (Reps.one (show Kd.M (Kd.int .i64) _ _ _ t151 [.int .i64 t151] from rfl) (Reps.none _ _))))); intro v154 w40 ho41 hb hg_ hnew_; clear hg_ hnew_; (first | rw [← Ny153.out] at ho41 | (simp only [Int.reduceToNat] at ho41; rw [← Ny153.out] at ho41)); have n0_ := Aside0.mk (Kd.R_lower ho41 (below_size z10_)); have n1_ := Aside0.mk (below_step z10_ hb); clear HB; have HO155 := n0_; have HB := n1_; clear n0_ n1_; clear hb ho41)); try go_wp2_with (first | (go_at_call 75; (with_reducible refine (impl_size.calls (wrap64 ((rd l0 0) * (rd l0 2))) t150 _ A29.out).mono ?_); rintro e w39 ⟨rfl, hb⟩; have n0_ := Aside0.mk (below_step z10_ hb); clear HB; have HB := n0_; clear n0_; (try clear hb); (try clear hb2); (try clear hk); (try clear hi)) | (go_at_call 77; (with_reducible refine (impl_squareRoot.calls k4 (wrap64 (Int.tdiv (wrap64 ((wrap64 ((wrap64 ((wrap64 (-(rd l0 0))) * x14_3)) * x14_3)) - (wrap64 ((wrap64 ((rd l0 1) * x15_4)) * x15_4)))) (rd l0 2))) t151 true _ A33.out).mono ?_); rintro e w' ⟨rfl, ⟨nd, rfl⟩⟩; (try first | exact ⟨rfl, _, World.drewN_drewN _ _ _⟩ | exact ⟨rfl, _, Eq.trans (World.drewN_drewN _ _ _) (congrArg (World.drewN _) (Nat.add_assoc _ _ _))⟩)) | ((with_reducible refine gate_dst (N := 125) rfl ?_); refine Kd.R_lit (Kd.int .i64) _ 3 ?hg (N := 125) ?hd (xs := ([x14_3, x15_4, t151] : List Int)) (inner := [.int .i64 x14_3, .int .i64 x15_4, .int .i64 t151]) (ok := fun _ => True) (okp := fun _ => True) ?hr ?hp (fun _ hk => hk) trivial (Below.refl _ _) (Nat.le_refl _) (by simp) ?_; (case hd => rfl); (case hg => rfl); (case hr => first | (go_simp; done) | (go_simp; rfl)); (case hp => exact (Reps.one (show Kd.M (Kd.int .i64) _ _ _ x14_3 [.int .i64 x14_3] from rfl) (Reps.one (show Kd.M (Kd.int .i64) _ _ _ x15_4 [.int .i64 x15_4] from rfl) (Reps.one (show Kd.M (Kd.int .i64) _ _ _ t151 [.int .i64 t151] from rfl) (Reps.none _ _))))); intro v154 w40 ho41 hb hg_ hnew_; clear hg_ hnew_; (first | rw [← Ny153.out] at ho41 | (simp only [Int.reduceToNat] at ho41; rw [← Ny153.out] at ho41)); have n0_ := Aside0.mk (Kd.R_lower ho41 (below_size z10_)); have n1_ := Aside0.mk (below_step z10_ hb); clear HB; have HO155 := n0_; have HB := n1_; clear n0_ n1_; clear hb ho41)))
                                     go_ret2
                                     exact ⟨_, z19_, by (with_reducible repeat (first | apply Kd.R_alloc | apply Kd.R_drewN | apply Kd.R_drew)); exact HO155.out, z10_⟩
                                 · rw [if_neg c36] at H
                                   have c36b0 : (x15_4 == 0) = false := beq_eq_false_iff_ne.mpr c36
                                   have c36b1 : (x15_4 != 0) = true := bne_iff_ne.mpr c36
                                   obtain ⟨y156, hy156⟩ : ∃ y_ : List Int, y_ = (([x14_3, x15_4, t151] : List Int)) := ⟨_, rfl⟩
                                   replace H : (some (y156, true)) = some (r1, r2) := by first | (rw [hy156]; with_reducible exact H) | (have H2_ := (Option.bind_some _ _).symm.trans H; rw [hy156]; with_reducible exact H2_) | (have H2_ := (Option.bind_some _ _).symm.trans H; with_reducible exact H2_) | with_reducible exact H | (rw [hy156]; exact H) | exact H
                                   have Ny156 := Aside0.mk hy156
                                   clear hy156
                                   simp only [Option.some.injEq, Prod.mk.injEq] at H
                                   obtain ⟨rfl, rfl⟩ := H
                                   go_wp2_with (first | (go_at_call 75; (with_reducible refine (impl_size.calls (wrap64 ((rd l0 0) * (rd l0 2))) t150 _ A29.out).mono ?_); rintro e w42 ⟨rfl, hb⟩; have n0_ := Aside0.mk (below_step z10_ hb); clear HB; have HB := n0_; clear n0_; (try clear hb); (try clear hb2); (try clear hk); (try clear hi)) | (go_at_call 77; (with_reducible refine (impl_squareRoot.calls k4 (wrap64 (Int.tdiv (wrap64 ((wrap64 ((wrap64 ((wrap64 (-(rd l0 0))) * x14_3)) * x14_3)) - (wrap64 ((wrap64 ((rd l0 1) * x15_4)) * x15_4)))) (rd l0 2))) t151 true _ A33.out).mono ?_); rintro e w' ⟨rfl, ⟨nd, rfl⟩⟩; (try first | exact ⟨rfl, _, World.drewN_drewN _ _ _⟩ | exact ⟨rfl, _, Eq.trans (World.drewN_drewN _ _ _) (congrArg (World.drewN _) (Nat.add_assoc _ _ _))⟩)) | ((with_reducible refine gate_dst (N := 125) rfl ?_); refine Kd.R_lit (Kd.int .i64) _ 3 ?hg (N := 125) ?hd (xs := ([x14_3, x15_4, t151] : List Int)) (inner := [.int .i64 x14_3, .int .i64 x15_4, .int .i64 t151]) (ok := fun _ => True) (okp := fun _ => True) ?hr ?hp (fun _ hk => hk) trivial (Below.refl _ _) (Nat.le_refl _) (by simp) ?_; (case hd => rfl); (case hg => rfl); (case hr => first | (go_simp; done) | (go_simp; rfl)); (case hp => exact (Reps.one (show Kd.M (Kd.int .i64) _ _ _ x14_3 [.int .i64 x14_3] from rfl) (Reps.one (show Kd.M (Kd.int .i64) _ _ _ x15_4 [.int .i64 x15_4] from rfl) (Reps.one (show Kd.M (Kd.int .i64) _ _ _ t151 [.int .i64 t151] from rfl) (Reps.none _ _))))); intro v157 w43 ho44 hb hg_ hnew_; clear hg_ hnew_; (first | rw [← Ny156.out] at ho44 | (simp only [Int.reduceToNat] at ho44; rw [← Ny156.out] at ho44)); have n0_ := Aside0.mk (Kd.R_lower ho44 (below_size z10_)); have n1_ := Aside0.mk (below_step z10_ hb); clear HB; have HO158 := n0_; have HB := n1_; clear n0_ n1_; clear hb ho44))
                                   repeat (go_quiet (first | (go_at_call 75; (with_reducible refine (impl_size.calls (wrap64 ((rd l0 0) * (rd l0 2))) t150 _ A29.out).mono ?_); rintro e w42 ⟨rfl, hb⟩; have n0_ := Aside0.mk (below_step z10_ hb); clear HB; have HB := n0_; clear n0_; (try clear hb); (try clear hb2); (try clear hk); (try clear hi)) | (go_at_call 77; (with_reducible refine (impl_squareRoot.calls k4 (wrap64 (Int.tdiv (wrap64 ((wrap64 ((wrap64 ((wrap64 (-(rd l0 0))) * x14_3)) * x14_3)) - (wrap64 ((wrap64 ((rd l0 1) * x15_4)) * x15_4)))) (rd l0 2))) t151 true _ A33.out).mono ?_); rintro e w' ⟨rfl, ⟨nd, rfl⟩⟩; (try first | exact ⟨rfl, _, World.drewN_drewN _ _ _⟩ | exact ⟨rfl, _, Eq.trans (World.drewN_drewN _ _ _) (congrArg (World.drewN _) (Nat.add_assoc _ _ _))⟩)) | ((with_reducible refine gate_dst (N := 125) rfl ?_); refine Kd.R_lit (Kd.int .i64) _ 3 ?hg (N := 125) ?hd (xs := ([x14_3, x15_4, t151] : List Int)) (inner := [.int .i64 x14_3, .int .i64 x15_4, .int .i64 t151]) (ok := fun _ => True) (okp := fun _ => True) ?hr ?hp (fun _ hk => hk) trivial (Below.refl _ _) (Nat.le_refl _) (by simp) ?_; (case hd => rfl); (case hg => rfl); (case hr => first | (go_simp; done) | (go_simp; rfl)); (case hp => exact (Reps.one (show Kd.M (Kd.int .i64) _ _ _ x14_3 [.int .i64 x14_3] from rfl) (Reps.one (show Kd.M (Kd.int .i64) _ _ _ x15_4 [.int .i64 x15_4] from rfl) (Reps.one (show Kd.M (Kd.int .i64) _ _ _ t151 [.int .i64 t151] from rfl) (Reps.none _ _))))); intro v157 w43 ho44 hb hg_ hnew_; clear hg_ hnew_; (first | rw [← Ny156.out] at ho44 | (simp only [Int.reduceToNat] at ho44; rw [← Ny156.out] at ho44)); have n0_ := Aside0.mk (Kd.R_lower ho44 (below_size z10_)); have n1_ := Aside0.mk (below_step z10_ hb); clear HB; have HO158 := n0_; have HB := n1_; clear n0_ n1_; clear hb ho44)); try go_wp2_with (first | (go_at_call 75; (with_reducible refine (impl_size.calls (wrap64 ((rd l0 0) * (rd l0 2))) t150 _ A29.out).mono ?_); rintro e w42 ⟨rfl, hb⟩; have n0_ := Aside0.mk (below_step z10_ hb); clear HB; have HB := n0_; clear n0_; (try clear hb); (try clear hb2); (try clear hk); (try clear hi)) | (go_at_call 77; (with_reducible refine (impl_squareRoot.calls k4 (wrap64 (Int.tdiv (wrap64 ((wrap64 ((wrap64 ((wrap64 (-(rd l0 0))) * x14_3)) * x14_3)) - (wrap64 ((wrap64 ((rd l0 1) * x15_4)) * x15_4)))) (rd l0 2))) t151 true _ A33.out).mono ?_); rintro e w' ⟨rfl, ⟨nd, rfl⟩⟩; (try first | exact ⟨rfl, _, World.drewN_drewN _ _ _⟩ | exact ⟨rfl, _, Eq.trans (World.drewN_drewN _ _ _) (congrArg (World.drewN _) (Nat.add_assoc _ _ _))⟩)) | ((with_reducible refine gate_dst (N := 125) rfl ?_); refine Kd.R_lit (Kd.int .i64) _ 3 ?hg (N := 125) ?hd (xs := ([x14_3, x15_4, t151] : List Int)) (inner := [.int .i64 x14_3, .int .i64 x15_4, .int .i64 t151]) (ok := fun _ => True) (okp := fun _ => True) ?hr ?hp (fun _ hk => hk) trivial (Below.refl _ _) (Nat.le_refl _) (by simp) ?_; (case hd => rfl); (case hg => rfl); (case hr => first | (go_simp; done) | (go_simp; rfl)); (case hp => exact (Reps.one (show Kd.M (Kd.int .i64) _ _ _ x14_3 [.int .i64 x14_3] from rfl) (Reps.one (show Kd.M (Kd.int .i64) _ _ _ x15_4 [.int .i64 x15_4] from rfl) (Reps.one (show Kd.M (Kd.int .i64) _ _ _ t151 [.int .i64 t151] from rfl) (Reps.none _ _))))); intro v157 w43 ho44 hb hg_ hnew_; clear hg_ hnew_; (first | rw [← Ny156.out] at ho44 | (simp only [Int.reduceToNat] at ho44; rw [← Ny156.out] at ho44)); have n0_ := Aside0.mk (Kd.R_lower ho44 (below_size z10_)); have n1_ := Aside0.mk (below_step z10_ hb); clear HB; have HO158 := n0_; have HB := n1_; clear n0_ n1_; clear hb ho44)))
                                   go_ret2
                                   exact ⟨_, z19_, by (with_reducible repeat (first | apply Kd.R_alloc | apply Kd.R_drewN | apply Kd.R_drew)); exact HO158.out, z10_⟩
                               · rw [if_neg c35] at H
                                 have c35b0 : (x14_3 == 0) = false := beq_eq_false_iff_ne.mpr c35
                                 have c35b1 : (x14_3 != 0) = true := bne_iff_ne.mpr c35
                                 obtain ⟨y159, hy159⟩ : ∃ y_ : List Int, y_ = (([x14_3, x15_4, t151] : List Int)) := ⟨_, rfl⟩
                                 replace H : (some (y159, true)) = some (r1, r2) := by first | (rw [hy159]; with_reducible exact H) | (have H2_ := (Option.bind_some _ _).symm.trans H; rw [hy159]; with_reducible exact H2_) | (have H2_ := (Option.bind_some _ _).symm.trans H; with_reducible exact H2_) | with_reducible exact H | (rw [hy159]; exact H) | exact H
                                 have Ny159 := Aside0.mk hy159
                                 clear hy159
                                 simp only [Option.some.injEq, Prod.mk.injEq] at H
                                 obtain ⟨rfl, rfl⟩ := H
                                 go_wp2_with (first | (go_at_call 75; (with_reducible refine (impl_size.calls (wrap64 ((rd l0 0) * (rd l0 2))) t150 _ A29.out).mono ?_); rintro e w45 ⟨rfl, hb⟩; have n0_ := Aside0.mk (below_step z10_ hb); clear HB; have HB := n0_; clear n0_; (try clear hb); (try clear hb2); (try clear hk); (try clear hi)) | (go_at_call 77; (with_reducible refine (impl_squareRoot.calls k4 (wrap64 (Int.tdiv (wrap64 ((wrap64 ((wrap64 ((wrap64 (-(rd l0 0))) * x14_3)) * x14_3)) - (wrap64 ((wrap64 ((rd l0 1) * x15_4)) * x15_4)))) (rd l0 2))) t151 true _ A33.out).mono ?_); rintro e w' ⟨rfl, ⟨nd, rfl⟩⟩; (try first | exact ⟨rfl, _, World.drewN_drewN _ _ _⟩ | exact ⟨rfl, _, Eq.trans (World.drewN_drewN _ _ _) (congrArg (World.drewN _) (Nat.add_assoc _ _ _))⟩)) | ((with_reducible refine gate_dst (N := 125) rfl ?_); refine Kd.R_lit (Kd.int .i64) _ 3 ?hg (N := 125) ?hd (xs := ([x14_3, x15_4, t151] : List Int)) (inner := [.int .i64 x14_3, .int .i64 x15_4, .int .i64 t151]) (ok := fun _ => True) (okp := fun _ => True) ?hr ?hp (fun _ hk => hk) trivial (Below.refl _ _) (Nat.le_refl _) (by simp) ?_; (case hd => rfl); (case hg => rfl); (case hr => first | (go_simp; done) | (go_simp; rfl)); (case hp => exact (Reps.one (show Kd.M (Kd.int .i64) _ _ _ x14_3 [.int .i64 x14_3] from rfl) (Reps.one (show Kd.M (Kd.int .i64) _ _ _ x15_4 [.int .i64 x15_4] from rfl) (Reps.one (show Kd.M (Kd.int .i64) _ _ _ t151 [.int .i64 t151] from rfl) (Reps.none _ _))))); intro v160 w46 ho47 hb hg_ hnew_; clear hg_ hnew_; (first | rw [← Ny159.out] at ho47 | (simp only [Int.reduceToNat] at ho47; rw [← Ny159.out] at ho47)); have n0_ := Aside0.mk (Kd.R_lower ho47 (below_size z10_)); have n1_ := Aside0.mk (below_step z10_ hb); clear HB; have HO161 := n0_; have HB := n1_; clear n0_ n1_; clear hb ho47))
                                 repeat (go_quiet (first | (go_at_call 75; (with_reducible refine (impl_size.calls (wrap64 ((rd l0 0) * (rd l0 2))) t150 _ A29.out).mono ?_); rintro e w45 ⟨rfl, hb⟩; have n0_ := Aside0.mk (below_step z10_ hb); clear HB; have HB := n0_; clear n0_; (try clear hb); (try clear hb2); (try clear hk); (try clear hi)) | (go_at_call 77; (with_reducible refine (impl_squareRoot.calls k4 (wrap64 (Int.tdiv (wrap64 ((wrap64 ((wrap64 ((wrap64 (-(rd l0 0))) * x14_3)) * x14_3)) - (wrap64 ((wrap64 ((rd l0 1) * x15_4)) * x15_4)))) (rd l0 2))) t151 true _ A33.out).mono ?_); rintro e w' ⟨rfl, ⟨nd, rfl⟩⟩; (try first | exact ⟨rfl, _, World.drewN_drewN _ _ _⟩ | exact ⟨rfl, _, Eq.trans (World.drewN_drewN _ _ _) (congrArg (World.drewN _) (Nat.add_assoc _ _ _))⟩)) | ((with_reducible refine gate_dst (N := 125) rfl ?_); refine Kd.R_lit (Kd.int .i64) _ 3 ?hg (N := 125) ?hd (xs := ([x14_3, x15_4, t151] : List Int)) (inner := [.int .i64 x14_3, .int .i64 x15_4, .int .i64 t151]) (ok := fun _ => True) (okp := fun _ => True) ?hr ?hp (fun _ hk => hk) trivial (Below.refl _ _) (Nat.le_refl _) (by simp) ?_; (case hd => rfl); (case hg => rfl); (case hr => first | (go_simp; done) | (go_simp; rfl)); (case hp => exact (Reps.one (show Kd.M (Kd.int .i64) _ _ _ x14_3 [.int .i64 x14_3] from rfl) (Reps.one (show Kd.M (Kd.int .i64) _ _ _ x15_4 [.int .i64 x15_4] from rfl) (Reps.one (show Kd.M (Kd.int .i64) _ _ _ t151 [.int .i64 t151] from rfl) (Reps.none _ _))))); intro v160 w46 ho47 hb hg_ hnew_; clear hg_ hnew_; (first | rw [← Ny159.out] at ho47 | (simp only [Int.reduceToNat] at ho47; rw [← Ny159.out] at ho47)); have n0_ := Aside0.mk (Kd.R_lower ho47 (below_size z10_)); have n1_ := Aside0.mk (below_step z10_ hb); clear HB; have HO161 := n0_; have HB := n1_; clear n0_ n1_; clear hb ho47)); try go_wp2_with (first | (go_at_call 75; (with_reducible refine (impl_size.calls (wrap64 ((rd l0 0) * (rd l0 2))) t150 _ A29.out).mono ?_); rintro e w45 ⟨rfl, hb⟩; have n0_ := Aside0.mk (below_step z10_ hb); clear HB; have HB := n0_; clear n0_; (try clear hb); (try clear hb2); (try clear hk); (try clear hi)) | (go_at_call 77; (with_reducible refine (impl_squareRoot.calls k4 (wrap64 (Int.tdiv (wrap64 ((wrap64 ((wrap64 ((wrap64 (-(rd l0 0))) * x14_3)) * x14_3)) - (wrap64 ((wrap64 ((rd l0 1) * x15_4)) * x15_4)))) (rd l0 2))) t151 true _ A33.out).mono ?_); rintro e w' ⟨rfl, ⟨nd, rfl⟩⟩; (try first | exact ⟨rfl, _, World.drewN_drewN _ _ _⟩ | exact ⟨rfl, _, Eq.trans (World.drewN_drewN _ _ _) (congrArg (World.drewN _) (Nat.add_assoc _ _ _))⟩)) | ((with_reducible refine gate_dst (N := 125) rfl ?_); refine Kd.R_lit (Kd.int .i64) _ 3 ?hg (N := 125) ?hd (xs := ([x14_3, x15_4, t151] : List Int)) (inner := [.int .i64 x14_3, .int .i64 x15_4, .int .i64 t151]) (ok := fun _ => True) (okp := fun _ => True) ?hr ?hp (fun _ hk => hk) trivial (Below.refl _ _) (Nat.le_refl _) (by simp) ?_; (case hd => rfl); (case hg => rfl); (case hr => first | (go_simp; done) | (go_simp; rfl)); (case hp => exact (Reps.one (show Kd.M (Kd.int .i64) _ _ _ x14_3 [.int .i64 x14_3] from rfl) (Reps.one (show Kd.M (Kd.int .i64) _ _ _ x15_4 [.int .i64 x15_4] from rfl) (Reps.one (show Kd.M (Kd.int .i64) _ _ _ t151 [.int .i64 t151] from rfl) (Reps.none _ _))))); intro v160 w46 ho47 hb hg_ hnew_; clear hg_ hnew_; (first | rw [← Ny159.out] at ho47 | (simp only [Int.reduceToNat] at ho47; rw [← Ny159.out] at ho47)); have n0_ := Aside0.mk (Kd.R_lower ho47 (below_size z10_)); have n1_ := Aside0.mk (below_step z10_ hb); clear HB; have HO161 := n0_; have HB := n1_; clear n0_ n1_; clear hb ho47)))
                                 go_ret2
                                 exact ⟨_, z19_, by (with_reducible repeat (first | apply Kd.R_alloc | apply Kd.R_drewN | apply Kd.R_drew)); exact HO161.out, z10_⟩
                             · replace c34 := Bool.eq_false_iff.mpr c34
                               subst c34
                               have H1 : (impl_ZeroSearch.l2 k4 (rd l0 0) (rd l0 1) (rd l0 2) x14_3 (wrap64 (x15_4 + 1))) = some (r1, r2) := by rw [if_neg (show ¬ (false = true) by decide)] at H; exact H
                               clear H
                               have H := H1
                               clear H1
                               have H' := Aside0.mk H
                               clear H
                               go_wp2_with (first | (go_at_call 75; (with_reducible refine (impl_size.calls (wrap64 ((rd l0 0) * (rd l0 2))) t150 _ A29.out).mono ?_); rintro e w48 ⟨rfl, hb⟩; have n0_ := Aside0.mk (below_step z10_ hb); clear HB; have HB := n0_; clear n0_; (try clear hb); (try clear hb2); (try clear hk); (try clear hi)) | (go_at_call 77; (with_reducible refine (impl_squareRoot.calls k4 (wrap64 (Int.tdiv (wrap64 ((wrap64 ((wrap64 ((wrap64 (-(rd l0 0))) * x14_3)) * x14_3)) - (wrap64 ((wrap64 ((rd l0 1) * x15_4)) * x15_4)))) (rd l0 2))) t151 false _ A33.out).mono ?_); rintro e w' ⟨rfl, ⟨nd, rfl⟩⟩; (try first | exact ⟨rfl, _, World.drewN_drewN _ _ _⟩ | exact ⟨rfl, _, Eq.trans (World.drewN_drewN _ _ _) (congrArg (World.drewN _) (Nat.add_assoc _ _ _))⟩)))
                               repeat (go_quiet (first | (go_at_call 75; (with_reducible refine (impl_size.calls (wrap64 ((rd l0 0) * (rd l0 2))) t150 _ A29.out).mono ?_); rintro e w48 ⟨rfl, hb⟩; have n0_ := Aside0.mk (below_step z10_ hb); clear HB; have HB := n0_; clear n0_; (try clear hb); (try clear hb2); (try clear hk); (try clear hi)) | (go_at_call 77; (with_reducible refine (impl_squareRoot.calls k4 (wrap64 (Int.tdiv (wrap64 ((wrap64 ((wrap64 ((wrap64 (-(rd l0 0))) * x14_3)) * x14_3)) - (wrap64 ((wrap64 ((rd l0 1) * x15_4)) * x15_4)))) (rd l0 2))) t151 false _ A33.out).mono ?_); rintro e w' ⟨rfl, ⟨nd, rfl⟩⟩; (try first | exact ⟨rfl, _, World.drewN_drewN _ _ _⟩ | exact ⟨rfl, _, Eq.trans (World.drewN_drewN _ _ _) (congrArg (World.drewN _) (Nat.add_assoc _ _ _))⟩))); try go_wp2_with (first | (go_at_call 75; (with_reducible refine (impl_size.calls (wrap64 ((rd l0 0) * (rd l0 2))) t150 _ A29.out).mono ?_); rintro e w48 ⟨rfl, hb⟩; have n0_ := Aside0.mk (below_step z10_ hb); clear HB; have HB := n0_; clear n0_; (try clear hb); (try clear hb2); (try clear hk); (try clear hi)) | (go_at_call 77; (with_reducible refine (impl_squareRoot.calls k4 (wrap64 (Int.tdiv (wrap64 ((wrap64 ((wrap64 ((wrap64 (-(rd l0 0))) * x14_3)) * x14_3)) - (wrap64 ((wrap64 ((rd l0 1) * x15_4)) * x15_4)))) (rd l0 2))) t151 false _ A33.out).mono ?_); rintro e w' ⟨rfl, ⟨nd, rfl⟩⟩; (try first | exact ⟨rfl, _, World.drewN_drewN _ _ _⟩ | exact ⟨rfl, _, Eq.trans (World.drewN_drewN _ _ _) (congrArg (World.drewN _) (Nat.add_assoc _ _ _))⟩))))
                               go_roundg k4
                               case measure => have := HK1.out; have := HJ15.out; have := HK3.out; have := HK4.out; omega
                               case rel => exact ⟨(wrap64 (x15_4 + 1)), z22_, H', ⟨by have := HK1.out; have := HJ15.out; have := HK3.out; have := HK4.out; omega⟩, ⟨z10_⟩⟩
                           · rw [if_neg c32] at H
                             have c32b0 : ((Int.tmod (wrap64 ((wrap64 ((wrap64 ((wrap64 (-(rd l0 0))) * x14_3)) * x14_3)) - (wrap64 ((wrap64 ((rd l0 1) * x15_4)) * x15_4)))) (rd l0 2)) == 0) = false := beq_eq_false_iff_ne.mpr c32
                             have c32b1 : ((Int.tmod (wrap64 ((wrap64 ((wrap64 ((wrap64 (-(rd l0 0))) * x14_3)) * x14_3)) - (wrap64 ((wrap64 ((rd l0 1) * x15_4)) * x15_4)))) (rd l0 2)) != 0) = true := bne_iff_ne.mpr c32
                             have H' := Aside0.mk H
                             clear H
                             go_wp2_with (first | (go_at_call 75; (with_reducible refine (impl_size.calls (wrap64 ((rd l0 0) * (rd l0 2))) t150 _ A29.out).mono ?_); rintro e w49 ⟨rfl, hb⟩; have n0_ := Aside0.mk (below_step z10_ hb); clear HB; have HB := n0_; clear n0_; (try clear hb); (try clear hb2); (try clear hk); (try clear hi)))
                             repeat (go_quiet (first | (go_at_call 75; (with_reducible refine (impl_size.calls (wrap64 ((rd l0 0) * (rd l0 2))) t150 _ A29.out).mono ?_); rintro e w49 ⟨rfl, hb⟩; have n0_ := Aside0.mk (below_step z10_ hb); clear HB; have HB := n0_; clear n0_; (try clear hb); (try clear hb2); (try clear hk); (try clear hi))); try go_wp2_with (first | (go_at_call 75; (with_reducible refine (impl_size.calls (wrap64 ((rd l0 0) * (rd l0 2))) t150 _ A29.out).mono ?_); rintro e w49 ⟨rfl, hb⟩; have n0_ := Aside0.mk (below_step z10_ hb); clear HB; have HB := n0_; clear n0_; (try clear hb); (try clear hb2); (try clear hk); (try clear hi))))
                             go_roundg k4
                             case measure => have := HK1.out; have := HJ15.out; have := HK3.out; have := HK4.out; omega
                             case rel => exact ⟨(wrap64 (x15_4 + 1)), z22_, H', ⟨by have := HK1.out; have := HJ15.out; have := HK3.out; have := HK4.out; omega⟩, ⟨z10_⟩⟩
                       · rw [if_neg c30] at H
                         have c30b0 : decide ((wrap64 (x15_4 * x15_4)) ≤ t150) = false := decide_eq_false c30
                         clear c30
                         have H' := Aside0.mk H
                         clear H
                         go_wp2_with (first | (go_at_call 75; (with_reducible refine (impl_size.calls (wrap64 ((rd l0 0) * (rd l0 2))) t150 _ A29.out).mono ?_); rintro e w50 ⟨rfl, hb⟩; have n0_ := Aside0.mk (below_step z10_ hb); clear HB; have HB := n0_; clear n0_; (try clear hb); (try clear hb2); (try clear hk); (try clear hi)))
                         repeat (go_quiet (first | (go_at_call 75; (with_reducible refine (impl_size.calls (wrap64 ((rd l0 0) * (rd l0 2))) t150 _ A29.out).mono ?_); rintro e w50 ⟨rfl, hb⟩; have n0_ := Aside0.mk (below_step z10_ hb); clear HB; have HB := n0_; clear n0_; (try clear hb); (try clear hb2); (try clear hk); (try clear hi))); try go_wp2_with (first | (go_at_call 75; (with_reducible refine (impl_size.calls (wrap64 ((rd l0 0) * (rd l0 2))) t150 _ A29.out).mono ?_); rintro e w50 ⟨rfl, hb⟩; have n0_ := Aside0.mk (below_step z10_ hb); clear HB; have HB := n0_; clear n0_; (try clear hb); (try clear hb2); (try clear hk); (try clear hi))))
                         go_roundg k4
                         case measure => have := HK1.out; have := HJ15.out; have := HK3.out; have := HK4.out; omega
                         case rel => exact ⟨(wrap64 (x14_3 + 1)), z22_, H', ⟨by have := HK1.out; have := HJ15.out; have := HK3.out; have := HK4.out; omega⟩, ⟨z10_⟩⟩
                   · rw [if_neg c27] at H
                     have c27b0 : decide ((wrap64 (x14_3 * x14_3)) ≤ t149) = false := decide_eq_false c27
                     clear c27
                     simp only [Option.some.injEq, Prod.mk.injEq] at H
                     obtain ⟨rfl, rfl⟩ := H
                     go_wp2_with (first | (go_at_call 75; (with_reducible refine (impl_size.calls (wrap64 ((rd l0 1) * (rd l0 2))) t149 _ A26.out).mono ?_); rintro e w51 ⟨rfl, hb⟩; have n0_ := Aside0.mk (below_step z10_ hb); clear HB; have HB := n0_; clear n0_; (try clear hb); (try clear hb2); (try clear hk); (try clear hi)))
                     repeat (go_quiet (first | (go_at_call 75; (with_reducible refine (impl_size.calls (wrap64 ((rd l0 1) * (rd l0 2))) t149 _ A26.out).mono ?_); rintro e w51 ⟨rfl, hb⟩; have n0_ := Aside0.mk (below_step z10_ hb); clear HB; have HB := n0_; clear n0_; (try clear hb); (try clear hb2); (try clear hk); (try clear hi))); try go_wp2_with (first | (go_at_call 75; (with_reducible refine (impl_size.calls (wrap64 ((rd l0 1) * (rd l0 2))) t149 _ A26.out).mono ?_); rintro e w51 ⟨rfl, hb⟩; have n0_ := Aside0.mk (below_step z10_ hb); clear HB; have HB := n0_; clear n0_; (try clear hb); (try clear hb2); (try clear hk); (try clear hi))))
                     go_ret2
                     exact ⟨_, z19_, z7_, z10_⟩
               · rw [if_neg c25] at H
                 exact absurd H (by simp)
             · rw [if_neg c24] at H
               exact absurd H (by simp)
           · rw [if_neg c23] at H
             exact absurd H (by simp)
 · rw [if_neg c2] at H
   have c2b0 : ((l0.length : Int) == 3) = false := beq_eq_false_iff_ne.mpr c2
   have c2b1 : ((l0.length : Int) != 3) = true := bne_iff_ne.mpr c2
   simp only [Option.some.injEq, Prod.mk.injEq] at H
   obtain ⟨rfl, rfl⟩ := H
   go_enter Try.func24, Try.ntmps24
   go_wp2
   repeat (go_quiet (fail); try go_wp2)
   go_ret2
   exact ⟨_, z19_, z7_, z10_⟩

/-! ### spec_l6In: function 94 -/
def spec_l6In.f (a0 : Int) (a1 : Int) (a2 : Int) : Option (Bool) := if a0 ≥ a1 then (some (decide (a0 ≤ a2))) else (some false)
theorem spec_l6In.calls (a0 : Int) (a1 : Int) (a2 : Int) (r : Bool) (w : World) (h : spec_l6In.f a0 a1 a2 = some r) :
 Calls Try.prog 94 #[.int .i64 a0, .int .i64 a1, .int .i64 a2] w fun e w' => e = .returned (.bool r) ∧ Drawn0 w w' := by
 have H : (if a0 ≥ a1 then (some (decide (a0 ≤ a2))) else (some false)) = some r := h
 clear h
 by_cases c4 : a0 ≥ a1
 · rw [if_pos c4] at H
   have c4b0 : decide (a1 ≤ a0) = true := decide_eq_true c4
   clear c4
   obtain rfl := Option.some.inj H
   go_enter Try.func94, Try.ntmps94
   go_wp2
   go_ret
   exact ⟨z22_, z20_⟩
 · rw [if_neg c4] at H
   have c4b0 : decide (a1 ≤ a0) = false := decide_eq_false c4
   clear c4
   obtain rfl := Option.some.inj H
   go_enter Try.func94, Try.ntmps94
   go_wp2
   go_ret
   exact ⟨z22_, z20_⟩

end Go.Proofs.Ytdeahlommlgceaa.PFnSearch

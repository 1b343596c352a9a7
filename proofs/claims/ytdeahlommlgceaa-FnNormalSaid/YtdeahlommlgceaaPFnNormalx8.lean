-- Written by a program of this repo (wip/gen/gen.py) over the kit's print.
-- (slim)
import Derived.Test.YtdeahlommlgceaaPFnNormalx0
import Derived.Test.YtdeahlommlgceaaPFnNormalx3
import Derived.Test.YtdeahlommlgceaaPFnNormalx4
import Derived.Test.YtdeahlommlgceaaPFnNormalx7
namespace Go.Proofs.Ytdeahlommlgceaa.PFnNormal
open Go.RowKit Go.Proofs.YtdeahlommlgceaaW.PrintWords Go.Proofs.YtdeahlommlgceaaW.PrintLast Go.Proofs.YtdeahlommlgceaaW.PrintMore
attribute [local go_sem] max2_int min2_int max_two min_two max_three min_three max_four min_four   -- for this text's walks alone
set_option linter.unusedVariables false
set_option maxHeartbeats 8000000
set_option maxRecDepth 100000
set_option linter.unusedSimpArgs false

/-! ### impl_ZeroSearch: function 24 -/
mutual
def impl_ZeroSearch.l0 : Nat → List Int → List Int → Int → Int → Option (List Int × Bool)
 | 0, _, _, _, _ => none
 | k + 1, x0, x22, x23, x24 => if x24 < x23 then (if 0 ≤ x24 then (if x24 < (x22.length : Int) then (if (rd x22 x24) = 0 then (impl_ZeroSearch.j1 k x0 (rd x22 x24) x22 x23 x24 true) else ((impl_size.f (rd x22 x24)).bind fun t321 => (impl_ZeroSearch.j1 k x0 (rd x22 x24) x22 x23 x24 (decide (t321 > 30000))))) else (none)) else (none)) else ((impl_sharedPrime.f k x0).bind fun bt324 => (if bt324.2.2 = 0 then ((impl_product.f k x0).bind fun t327 => ((impl_size.f t327).bind fun t328 => (impl_ZeroSearch.j2 k x0 (decide (t328 > 30000))))) else (impl_ZeroSearch.j2 k x0 true)))
def impl_ZeroSearch.j1 : Nat → List Int → Int → List Int → Int → Int → Bool → Option (List Int × Bool)
 | 0, _, _, _, _, _, _ => none
 | k + 1, x0, x5, x22, x23, x24, x34 => if x34 = true then (some (([] : List Int), false)) else ((impl_coreOf.f k x5).bind fun bt322 => (if bt322.2 = 1 then (impl_ZeroSearch.l0 k x0 x22 x23 (wrap64 (x24 + 1))) else (some (([] : List Int), false))))
def impl_ZeroSearch.j2 : Nat → List Int → Bool → Option (List Int × Bool)
 | 0, _, _ => none
 | k + 1, x0, x56 => if x56 = true then (some (([] : List Int), false)) else (if 0 < (x0.length : Int) then (if 1 < (x0.length : Int) then (if 2 < (x0.length : Int) then (impl_ZeroSearch.l1 k (rd x0 0) (rd x0 1) (rd x0 2) 0) else (none)) else (none)) else (none))
def impl_ZeroSearch.l1 : Nat → Int → Int → Int → Int → Option (List Int × Bool)
 | 0, _, _, _, _ => none
 | k + 1, x11, x12, x13, x14 => (impl_size.f (wrap64 (x12 * x13))).bind fun t332 => (if (wrap64 (x14 * x14)) ≤ t332 then (impl_ZeroSearch.l2 k x11 x12 x13 x14 0) else (some (([] : List Int), false)))
def impl_ZeroSearch.l2 : Nat → Int → Int → Int → Int → Int → Option (List Int × Bool)
 | 0, _, _, _, _, _ => none
 | k + 1, x11, x12, x13, x14, x15 => (impl_size.f (wrap64 (x11 * x13))).bind fun t333 => (if (wrap64 (x15 * x15)) ≤ t333 then (if x13 = 0 then (none) else (if (Int.tmod (wrap64 ((wrap64 ((wrap64 ((wrap64 (-x11)) * x14)) * x14)) - (wrap64 ((wrap64 (x12 * x15)) * x15)))) x13) = 0 then ((impl_squareRoot.f k (wrap64 (Int.tdiv (wrap64 ((wrap64 ((wrap64 ((wrap64 (-x11)) * x14)) * x14)) - (wrap64 ((wrap64 (x12 * x15)) * x15)))) x13))).bind fun bt334 => (if bt334.2 = true then (if x14 = 0 then (if x15 = 0 then (if bt334.1 = 0 then (impl_ZeroSearch.l2 k x11 x12 x13 x14 (wrap64 (x15 + 1))) else (some ((([x14, x15, bt334.1] : List Int)), true))) else (some ((([x14, x15, bt334.1] : List Int)), true))) else (some ((([x14, x15, bt334.1] : List Int)), true))) else (impl_ZeroSearch.l2 k x11 x12 x13 x14 (wrap64 (x15 + 1))))) else (impl_ZeroSearch.l2 k x11 x12 x13 x14 (wrap64 (x15 + 1))))) else (impl_ZeroSearch.l1 k x11 x12 x13 (wrap64 (x14 + 1))))
end
def impl_ZeroSearch.f (k : Nat) (l0 : List Int) : Option (List Int × Bool) := if (l0.length : Int) = 3 then (impl_ZeroSearch.l0 k l0 l0 (l0.length : Int) 0) else (some (([] : List Int), false))
theorem impl_ZeroSearch.mono_l : ∀ k, (∀ y0 y1 y2 y3, LeO (impl_ZeroSearch.l0 k y0 y1 y2 y3) (impl_ZeroSearch.l0 (k + 1) y0 y1 y2 y3)) ∧ (∀ y0 y1 y2 y3 y4 y5, LeO (impl_ZeroSearch.j1 k y0 y1 y2 y3 y4 y5) (impl_ZeroSearch.j1 (k + 1) y0 y1 y2 y3 y4 y5)) ∧ (∀ y0 y1, LeO (impl_ZeroSearch.j2 k y0 y1) (impl_ZeroSearch.j2 (k + 1) y0 y1)) ∧ (∀ y0 y1 y2 y3, LeO (impl_ZeroSearch.l1 k y0 y1 y2 y3) (impl_ZeroSearch.l1 (k + 1) y0 y1 y2 y3)) ∧ (∀ y0 y1 y2 y3 y4, LeO (impl_ZeroSearch.l2 k y0 y1 y2 y3 y4) (impl_ZeroSearch.l2 (k + 1) y0 y1 y2 y3 y4))
 | 0 => ⟨fun _ _ _ _ r h => by simp [impl_ZeroSearch.l0] at h, fun _ _ _ _ _ _ r h => by simp [impl_ZeroSearch.j1] at h, fun _ _ r h => by simp [impl_ZeroSearch.j2] at h, fun _ _ _ _ r h => by simp [impl_ZeroSearch.l1] at h, fun _ _ _ _ _ r h => by simp [impl_ZeroSearch.l2] at h⟩
 | k + 1 => by
  obtain ⟨ih0, ih1, ih2, ih3, ih4⟩ := impl_ZeroSearch.mono_l k
  refine ⟨?_, ?_, ?_, ?_, ?_⟩
  · intro y0 y1 y2 y3
    unfold impl_ZeroSearch.l0
    exact mo_
  · intro y0 y1 y2 y3 y4 y5
    unfold impl_ZeroSearch.j1
    exact mo_
  · intro y0 y1
    unfold impl_ZeroSearch.j2
    exact mo_
  · intro y0 y1 y2 y3
    unfold impl_ZeroSearch.l1
    exact mo_
  intro y0 y1 y2 y3 y4
  unfold impl_ZeroSearch.l2
  exact mo_
theorem impl_ZeroSearch.mono : ∀ a0 k, LeO (impl_ZeroSearch.f k a0) (impl_ZeroSearch.f (k + 1) a0) := by
 intro a0 k
 obtain ⟨ih0, ih1, ih2, ih3, ih4⟩ := impl_ZeroSearch.mono_l k
 unfold impl_ZeroSearch.f
 exact mo_
theorem impl_ZeroSearch.calls (k : Nat) (A0 : Option Addr) (c0 : Nat) (l0 : List Int) (r1 : List Int) (r2 : Bool) (w : World) (hr0 : Kd.C (Kd.int .i64) w A0 l0.length l0) (hc0 : l0.length ≤ c0) (h : impl_ZeroSearch.f k l0 = some (r1, r2)) :
 Calls Try.prog 24 #[.slice A0 l0.length c0] w fun e w' => ∃ v0_ : Value, e = .returned (.tuple #[v0_, .bool r2]) ∧ Kd.R (Kd.int .i64) 3 w' w.heap.size (fun _ => True) v0_ r1 ∧ Below w.heap.size w w' := by
 have HR0 := Aside0.mk hr0
 have HC0 := Aside0.mk hc0
 clear hr0 hc0
 have HB := Aside0.mk (Below.refl w.heap.size w)
 have H := h
 clear h
 unfold impl_ZeroSearch.f at H
 by_cases c2 : (l0.length : Int) = 3
 rotate_left
 · rw [if_neg c2] at H
   have c2b0 := beq_eq_false_iff_ne.mpr c2
   have c2b1 := bne_iff_ne.mpr c2
   simp only [Option.some.injEq, Prod.mk.injEq] at H
   obtain ⟨rfl, rfl⟩ := H
   go_enter Try.func24, Try.ntmps24
   go_wp2
   repeat (go_quiet (fail); try go_wp2)
   go_ret2
   exact ⟨_, z29_, z13_, z16_⟩
 rw [if_pos c2] at H
 have c2b0 := beq_iff_eq.mpr c2
 have c2b1 := bne_eq_false_iff_eq.mpr c2
 clear c2
 have H' := Aside0.mk H
 clear H
 go_enter Try.func24, Try.ntmps24
 go_wp2
 repeat (go_quiet (fail); try go_wp2)
 go_loopg [24] k (fun kq v24 w' => ∃ (x24_1 : Int), v24 = .int .i64 x24_1 ∧ Aside0 (impl_ZeroSearch.l0 kq l0 l0 (l0.length : Int) x24_1 = some (r1, r2)) ∧ Aside0 (kq ≤ k) ∧ Aside0 (Below w.heap.size w w'))
 case atStart => exact ⟨(0), z32_, H', ⟨Nat.le_refl _⟩, ⟨z16_⟩⟩
 case round =>
  clear H'
  clear c2b0 c2b1
  obtain ⟨x24_1, rfl, HA, HK1, HB⟩ := hrel
  cases gk with
  | zero => exact absurd HA.out (by simp [impl_ZeroSearch.l0])
  | succ k1 =>
   have H := HA.out
   clear HA
   simp only [impl_ZeroSearch.l0] at H
   by_cases c3 : x24_1 < (l0.length : Int)
   · rw [if_pos c3] at H
     have c3b0 := decide_eq_true c3
     clear c3
     obtain ⟨c4, H⟩ := in_ H
     have c4b0 := decide_eq_true c4
     clear c4
     obtain ⟨c5, H⟩ := in_ H
     have c5b0 := decide_eq_true c5
     clear c5
     have HC6 := Aside0.mk H
     clear H
     have p320 : 0 ≤ (x24_1 : Int) := of_decide_eq_true z31_
     have q320 : x24_1 < (l0.length : Int) := of_decide_eq_true z31_
     obtain ⟨ad320, e320, hx320_0⟩ := Kd.at_int HR0.out x24_1 p320 q320
     cases e320
     replace hx320_0 := (HB.out.cell (World.block_lt_of_cell? w _ hx320_0)).trans hx320_0
     replace p320 := eq_true p320
     replace q320 := eq_true q320
     go_upto_region 6 with (fail)
     repeat (go_quiet (fail); go_upto_region 6 with (fail))
     go_cut [34] (fun v34 wc => ∃ (kq : Nat) (x34_5 : Bool), v34 = .bool x34_5 ∧ Aside0 (impl_ZeroSearch.j1 kq l0 (rd l0 x24_1) l0 (l0.length : Int) x24_1 x34_5 = some (r1, r2)) ∧ Aside0 (kq ≤ k1) ∧ Aside0 (Below w.heap.size w wc))
     case first =>
      have H := HC6.out
      clear HC6
      by_cases c7 : (rd l0 x24_1) = 0
      · rw [if_pos c7] at H
        have c7b0 := beq_iff_eq.mpr c7
        have c7b1 := bne_eq_false_iff_eq.mpr c7
        clear c7
        (first | rw [c7b0] | (simp only [i64_w, i32_w]; rw [c7b0]) | skip)
        have H' := Aside0.mk H
        clear H
        go_wp2
        repeat (go_quiet (fail); try go_wp2)
        go_meet
        case rel => exact ⟨_, (true), z32_, H', ⟨by have := HK1.out; first | omega | exact Nat.le_refl _⟩, ⟨z16_⟩⟩
      rw [if_neg c7] at H
      have c7b0 := beq_eq_false_iff_ne.mpr c7
      have c7b1 := bne_iff_ne.mpr c7
      (first | rw [c7b0] | (simp only [i64_w, i32_w]; rw [c7b0]) | skip)
      obtain ⟨t321, A8, H⟩ := bi_ H
      have H' := Aside0.mk H
      clear H
      go_wp2_with (first | (go_at_call 75; (with_reducible refine (impl_size.calls (rd l0 x24_1) t321 _ A8.out).mono ?_); rintro e w9 ⟨rfl, hb⟩; replace HB:= Aside0.mk (below_step z16_ hb); clear hb))
      repeat (go_quiet (first | (go_at_call 75; (with_reducible refine (impl_size.calls (rd l0 x24_1) t321 _ A8.out).mono ?_); rintro e w9 ⟨rfl, hb⟩; replace HB:= Aside0.mk (below_step z16_ hb); clear hb)); try go_wp2_with (first | (go_at_call 75; (with_reducible refine (impl_size.calls (rd l0 x24_1) t321 _ A8.out).mono ?_); rintro e w9 ⟨rfl, hb⟩; replace HB:= Aside0.mk (below_step z16_ hb); clear hb)))
      go_meet
      case rel => exact ⟨_, (decide (t321 > 30000)), z32_, H', ⟨by have := HK1.out; first | omega | exact Nat.le_refl _⟩, ⟨z16_⟩⟩
     case rest =>
      clear HC6 c3b0 c4b0 c5b0 hx320_0 p320 q320
      obtain ⟨kq, x34_5, rfl, HA, HJ5, HB⟩ := hcut
      cases kq with
      | zero => exact absurd HA.out (by simp [impl_ZeroSearch.j1])
      | succ kj5 =>
       have H := HA.out
       clear HA
       simp only [impl_ZeroSearch.j1] at H
       by_cases c10 : x34_5 = true
       · subst c10
         rw [it_] at H
         simp only [Option.some.injEq, Prod.mk.injEq] at H
         obtain ⟨rfl, rfl⟩ := H
         go_wp2
         repeat (go_quiet (fail); try go_wp2)
         go_ret2
         exact ⟨_, z29_, z13_, z16_⟩
       replace c10 := Bool.eq_false_iff.mpr c10
       subst c10
       rw [jt_] at H
       obtain ⟨⟨t322, t323⟩, A11, H⟩ := bi_ H
       try dsimp only at H
       by_cases c12 : t323 = 1
       · rw [if_pos c12] at H
         have c12b0 := beq_iff_eq.mpr c12
         have c12b1 := bne_eq_false_iff_eq.mpr c12
         clear c12
         have H' := Aside0.mk H
         clear H
         go_wp2_with (first | (go_at_call 71; (with_reducible refine (impl_coreOf.calls kj5 (rd l0 x24_1) t322 t323 _ A11.out).mono ?_); rintro e w13 ⟨rfl, hb⟩; replace HB:= Aside0.mk (below_step z16_ hb); clear hb))
         repeat (go_quiet (first | (go_at_call 71; (with_reducible refine (impl_coreOf.calls kj5 (rd l0 x24_1) t322 t323 _ A11.out).mono ?_); rintro e w13 ⟨rfl, hb⟩; replace HB:= Aside0.mk (below_step z16_ hb); clear hb)); try go_wp2_with (first | (go_at_call 71; (with_reducible refine (impl_coreOf.calls kj5 (rd l0 x24_1) t322 t323 _ A11.out).mono ?_); rintro e w13 ⟨rfl, hb⟩; replace HB:= Aside0.mk (below_step z16_ hb); clear hb)))
         go_roundg kj5
         case measure => have := HK1.out; have := HJ5.out; omega
         case rel => exact ⟨(wrap64 (x24_1 + 1)), z32_, H', ⟨by have := HK1.out; have := HJ5.out; omega⟩, ⟨z16_⟩⟩
       rw [if_neg c12] at H
       have c12b0 := beq_eq_false_iff_ne.mpr c12
       have c12b1 := bne_iff_ne.mpr c12
       simp only [Option.some.injEq, Prod.mk.injEq] at H
       obtain ⟨rfl, rfl⟩ := H
       go_wp2_with (first | (go_at_call 71; (with_reducible refine (impl_coreOf.calls kj5 (rd l0 x24_1) t322 t323 _ A11.out).mono ?_); rintro e w14 ⟨rfl, hb⟩; replace HB:= Aside0.mk (below_step z16_ hb); clear hb))
       repeat (go_quiet (first | (go_at_call 71; (with_reducible refine (impl_coreOf.calls kj5 (rd l0 x24_1) t322 t323 _ A11.out).mono ?_); rintro e w14 ⟨rfl, hb⟩; replace HB:= Aside0.mk (below_step z16_ hb); clear hb)); try go_wp2_with (first | (go_at_call 71; (with_reducible refine (impl_coreOf.calls kj5 (rd l0 x24_1) t322 t323 _ A11.out).mono ?_); rintro e w14 ⟨rfl, hb⟩; replace HB:= Aside0.mk (below_step z16_ hb); clear hb)))
       go_ret2
       exact ⟨_, z29_, z13_, z16_⟩
   rw [if_neg c3] at H
   have c3b0 := decide_eq_false c3
   clear c3
   obtain ⟨⟨t324, t325, t326⟩, A15, H⟩ := bi_ H
   try dsimp only at H
   have HC16 := Aside0.mk H
   clear H
   go_upto_region 13 with (first | (go_at_call 72; (with_reducible refine (impl_sharedPrime.calls k1 _ _ l0 t324 t325 t326 _ ?side1 ?side2 A15.out).mono ?_); (case side1 => repeat (first | exact (Kd.C_below HR0.out HB.out) | (with_reducible refine Kd.C_alloc ?_ _) | (with_reducible refine Kd.C_drewN ?_ _) | (with_reducible refine Kd.C_drew ?_))); (case side2 => exact HC0.out); rintro e w17 ⟨rfl, hb⟩; replace HB:= Aside0.mk (below_step z16_ hb); clear hb))
   repeat (go_quiet (first | (go_at_call 72; (with_reducible refine (impl_sharedPrime.calls k1 _ _ l0 t324 t325 t326 _ ?side1 ?side2 A15.out).mono ?_); (case side1 => repeat (first | exact (Kd.C_below HR0.out HB.out) | (with_reducible refine Kd.C_alloc ?_ _) | (with_reducible refine Kd.C_drewN ?_ _) | (with_reducible refine Kd.C_drew ?_))); (case side2 => exact HC0.out); rintro e w17 ⟨rfl, hb⟩; replace HB:= Aside0.mk (below_step z16_ hb); clear hb)); go_upto_region 13 with (first | (go_at_call 72; (with_reducible refine (impl_sharedPrime.calls k1 _ _ l0 t324 t325 t326 _ ?side1 ?side2 A15.out).mono ?_); (case side1 => repeat (first | exact (Kd.C_below HR0.out HB.out) | (with_reducible refine Kd.C_alloc ?_ _) | (with_reducible refine Kd.C_drewN ?_ _) | (with_reducible refine Kd.C_drew ?_))); (case side2 => exact HC0.out); rintro e w17 ⟨rfl, hb⟩; replace HB:= Aside0.mk (below_step z16_ hb); clear hb)))
   go_cut [56] (fun v56 wc => ∃ (kq : Nat) (x56_15 : Bool), v56 = .bool x56_15 ∧ Aside0 (impl_ZeroSearch.j2 kq l0 x56_15 = some (r1, r2)) ∧ Aside0 (kq ≤ k1) ∧ Aside0 (Below w.heap.size w wc))
   case first =>
    have H := HC16.out
    clear HC16
    by_cases c18 : t326 = 0
    rotate_left
    · rw [if_neg c18] at H
      have c18b0 := beq_eq_false_iff_ne.mpr c18
      have c18b1 := bne_iff_ne.mpr c18
      (first | rw [c18b0] | (simp only [i64_w, i32_w]; rw [c18b0]) | skip)
      have H' := Aside0.mk H
      clear H
      go_wp2
      repeat (go_quiet (fail); try go_wp2)
      go_meet
      case rel => exact ⟨_, (true), z32_, H', ⟨by have := HK1.out; first | omega | exact Nat.le_refl _⟩, ⟨z16_⟩⟩
    rw [if_pos c18] at H
    have c18b0 := beq_iff_eq.mpr c18
    have c18b1 := bne_eq_false_iff_eq.mpr c18
    clear c18
    (first | rw [c18b0] | (simp only [i64_w, i32_w]; rw [c18b0]) | skip)
    obtain ⟨t327, A19, H⟩ := bi_ H
    obtain ⟨t328, A20, H⟩ := bi_ H
    have H' := Aside0.mk H
    clear H
    go_wp2_with (first | (go_at_call 76; (with_reducible refine (impl_product.calls k1 _ _ l0 t327 _ ?side1 ?side2 A19.out).mono ?_); (case side1 => repeat (first | exact (Kd.C_below HR0.out HB.out) | (with_reducible refine Kd.C_alloc ?_ _) | (with_reducible refine Kd.C_drewN ?_ _) | (with_reducible refine Kd.C_drew ?_))); (case side2 => exact HC0.out); rintro e w' ⟨rfl, ⟨nd, rfl⟩⟩; (try first | exact ⟨rfl, _, World.drewN_drewN _ _ _⟩ | exact ⟨rfl, _, Eq.trans (World.drewN_drewN _ _ _) (congrArg (World.drewN _) (Nat.add_assoc _ _ _))⟩)) | (go_at_call 75; (with_reducible refine (impl_size.calls t327 t328 _ A20.out).mono ?_); rintro e w21 ⟨rfl, hb⟩; replace HB:= Aside0.mk (below_step z16_ hb); clear hb))
    repeat (go_quiet (first | (go_at_call 76; (with_reducible refine (impl_product.calls k1 _ _ l0 t327 _ ?side1 ?side2 A19.out).mono ?_); (case side1 => repeat (first | exact (Kd.C_below HR0.out HB.out) | (with_reducible refine Kd.C_alloc ?_ _) | (with_reducible refine Kd.C_drewN ?_ _) | (with_reducible refine Kd.C_drew ?_))); (case side2 => exact HC0.out); rintro e w' ⟨rfl, ⟨nd, rfl⟩⟩; (try first | exact ⟨rfl, _, World.drewN_drewN _ _ _⟩ | exact ⟨rfl, _, Eq.trans (World.drewN_drewN _ _ _) (congrArg (World.drewN _) (Nat.add_assoc _ _ _))⟩)) | (go_at_call 75; (with_reducible refine (impl_size.calls t327 t328 _ A20.out).mono ?_); rintro e w21 ⟨rfl, hb⟩; replace HB:= Aside0.mk (below_step z16_ hb); clear hb)); try go_wp2_with (first | (go_at_call 76; (with_reducible refine (impl_product.calls k1 _ _ l0 t327 _ ?side1 ?side2 A19.out).mono ?_); (case side1 => repeat (first | exact (Kd.C_below HR0.out HB.out) | (with_reducible refine Kd.C_alloc ?_ _) | (with_reducible refine Kd.C_drewN ?_ _) | (with_reducible refine Kd.C_drew ?_))); (case side2 => exact HC0.out); rintro e w' ⟨rfl, ⟨nd, rfl⟩⟩; (try first | exact ⟨rfl, _, World.drewN_drewN _ _ _⟩ | exact ⟨rfl, _, Eq.trans (World.drewN_drewN _ _ _) (congrArg (World.drewN _) (Nat.add_assoc _ _ _))⟩)) | (go_at_call 75; (with_reducible refine (impl_size.calls t327 t328 _ A20.out).mono ?_); rintro e w21 ⟨rfl, hb⟩; replace HB:= Aside0.mk (below_step z16_ hb); clear hb)))
    go_meet
    case rel => exact ⟨_, (decide (t328 > 30000)), z32_, H', ⟨by have := HK1.out; first | omega | exact Nat.le_refl _⟩, ⟨z16_⟩⟩
   case rest =>
    clear HC16 c3b0
    obtain ⟨kq, x56_15, rfl, HA, HJ15, HB⟩ := hcut
    cases kq with
    | zero => exact absurd HA.out (by simp [impl_ZeroSearch.j2])
    | succ kj15 =>
     have H := HA.out
     clear HA
     simp only [impl_ZeroSearch.j2] at H
     by_cases c22 : x56_15 = true
     · subst c22
       rw [it_] at H
       simp only [Option.some.injEq, Prod.mk.injEq] at H
       obtain ⟨rfl, rfl⟩ := H
       go_wp2
       repeat (go_quiet (fail); try go_wp2)
       go_ret2
       exact ⟨_, z29_, z13_, z16_⟩
     replace c22 := Bool.eq_false_iff.mpr c22
     subst c22
     rw [jt_] at H
     obtain ⟨c23, H⟩ := in_ H
     have c23b0 := decide_eq_true c23
     have c23b1 : decide (0 < l0.length) = true := decide_eq_true (by omega)
     clear c23
     obtain ⟨c24, H⟩ := in_ H
     have c24b0 := decide_eq_true c24
     have c24b1 : decide (1 < l0.length) = true := decide_eq_true (by omega)
     clear c24
     obtain ⟨c25, H⟩ := in_ H
     have c25b0 := decide_eq_true c25
     have c25b1 : decide (2 < l0.length) = true := decide_eq_true (by omega)
     clear c25
     have H' := Aside0.mk H
     clear H
     have p329 : 0 ≤ (0 : Int) := (by omega)
     have q329 : 0 < (l0.length : Int) := of_decide_eq_true z31_
     obtain ⟨ad329, e329, hx329_0⟩ := Kd.at_int HR0.out 0 p329 q329
     cases e329
     have qi329 : (0 < l0.length) = True := eq_true (by omega)
     rw [show ((0 : Int)).toNat = 0 from rfl] at hx329_0
     rw [Addr.add_zero'] at hx329_0
     replace hx329_0 := (HB.out.cell (World.block_lt_of_cell? w _ hx329_0)).trans hx329_0
     replace p329 := eq_true p329
     replace q329 := eq_true q329
     have p330 : 0 ≤ (1 : Int) := (by omega)
     have q330 : 1 < (l0.length : Int) := of_decide_eq_true z31_
     obtain ⟨ad330, e330, hx330_0⟩ := Kd.at_int HR0.out 1 p330 q330
     obtain rfl : ad329 = ad330 := (by injection e330)
     simp only [show (1 : Int).toNat = 1 from rfl, Nat.reduceMul, Nat.reduceEqDiff, Go.Addr.add, ↓reduceIte] at hx330_0
     have qi330 : (1 < l0.length) = True := eq_true (by omega)
     replace hx330_0 := (HB.out.cell (World.block_lt_of_cell? w _ hx330_0)).trans hx330_0
     replace p330 := eq_true p330
     replace q330 := eq_true q330
     have p331 : 0 ≤ (2 : Int) := (by omega)
     have q331 : 2 < (l0.length : Int) := of_decide_eq_true z31_
     obtain ⟨ad331, e331, hx331_0⟩ := Kd.at_int HR0.out 2 p331 q331
     obtain rfl : ad329 = ad331 := (by injection e331)
     simp only [show (2 : Int).toNat = 2 from rfl, Nat.reduceMul, Nat.reduceEqDiff, Go.Addr.add, ↓reduceIte] at hx331_0
     have qi331 : (2 < l0.length) = True := eq_true (by omega)
     replace hx331_0 := (HB.out.cell (World.block_lt_of_cell? w _ hx331_0)).trans hx331_0
     replace p331 := eq_true p331
     replace q331 := eq_true q331
     go_wp2
     repeat (go_quiet (fail); try go_wp2)
     go_loopg [14] kj15 (fun kq v14 w' => ∃ (x14_3 : Int), v14 = .int .i64 x14_3 ∧ Aside0 (impl_ZeroSearch.l1 kq (rd l0 0) (rd l0 1) (rd l0 2) x14_3 = some (r1, r2)) ∧ Aside0 (kq ≤ kj15) ∧ Aside0 (Below w.heap.size w w'))
     case atStart => exact ⟨(0), z32_, H', ⟨Nat.le_refl _⟩, ⟨z16_⟩⟩
     case round =>
      clear H'
      clear c23b0 c23b1 c24b0 c24b1 c25b0 c25b1 hx329_0 hx330_0 hx331_0 p329 p330 p331 q329 q330 q331
      obtain ⟨x14_3, rfl, HA, HK3, HB⟩ := hrel
      cases gk with
      | zero => exact absurd HA.out (by simp [impl_ZeroSearch.l1])
      | succ k3 =>
       have H := HA.out
       clear HA
       simp only [impl_ZeroSearch.l1] at H
       obtain ⟨t332, A26, H⟩ := bi_ H
       by_cases c27 : (wrap64 (x14_3 * x14_3)) ≤ t332
       rotate_left
       · rw [if_neg c27] at H
         have c27b0 := decide_eq_false c27
         clear c27
         simp only [Option.some.injEq, Prod.mk.injEq] at H
         obtain ⟨rfl, rfl⟩ := H
         go_wp2_with (first | (go_at_call 75; (with_reducible refine (impl_size.calls (wrap64 ((rd l0 1) * (rd l0 2))) t332 _ A26.out).mono ?_); rintro e w51 ⟨rfl, hb⟩; replace HB:= Aside0.mk (below_step z16_ hb); clear hb))
         repeat (go_quiet (first | (go_at_call 75; (with_reducible refine (impl_size.calls (wrap64 ((rd l0 1) * (rd l0 2))) t332 _ A26.out).mono ?_); rintro e w51 ⟨rfl, hb⟩; replace HB:= Aside0.mk (below_step z16_ hb); clear hb)); try go_wp2_with (first | (go_at_call 75; (with_reducible refine (impl_size.calls (wrap64 ((rd l0 1) * (rd l0 2))) t332 _ A26.out).mono ?_); rintro e w51 ⟨rfl, hb⟩; replace HB:= Aside0.mk (below_step z16_ hb); clear hb)))
         go_ret2
         exact ⟨_, z29_, z13_, z16_⟩
       rw [if_pos c27] at H
       have c27b0 := decide_eq_true c27
       clear c27
       have H' := Aside0.mk H
       clear H
       go_wp2_with (first | (go_at_call 75; (with_reducible refine (impl_size.calls (wrap64 ((rd l0 1) * (rd l0 2))) t332 _ A26.out).mono ?_); rintro e w28 ⟨rfl, hb⟩; replace HB:= Aside0.mk (below_step z16_ hb); clear hb))
       repeat (go_quiet (first | (go_at_call 75; (with_reducible refine (impl_size.calls (wrap64 ((rd l0 1) * (rd l0 2))) t332 _ A26.out).mono ?_); rintro e w28 ⟨rfl, hb⟩; replace HB:= Aside0.mk (below_step z16_ hb); clear hb)); try go_wp2_with (first | (go_at_call 75; (with_reducible refine (impl_size.calls (wrap64 ((rd l0 1) * (rd l0 2))) t332 _ A26.out).mono ?_); rintro e w28 ⟨rfl, hb⟩; replace HB:= Aside0.mk (below_step z16_ hb); clear hb)))
       go_loopg [15] k3 (fun kq v15 w' => ∃ (x15_4 : Int), v15 = .int .i64 x15_4 ∧ Aside0 (impl_ZeroSearch.l2 kq (rd l0 0) (rd l0 1) (rd l0 2) x14_3 x15_4 = some (r1, r2)) ∧ Aside0 (kq ≤ k3) ∧ Aside0 (Below w.heap.size w w'))
       case atStart => exact ⟨(0), z32_, H', ⟨Nat.le_refl _⟩, ⟨z16_⟩⟩
       case round =>
        clear H'
        clear c27b0
        obtain ⟨x15_4, rfl, HA, HK4, HB⟩ := hrel
        cases gk with
        | zero => exact absurd HA.out (by simp [impl_ZeroSearch.l2])
        | succ k4 =>
         have H := HA.out
         clear HA
         simp only [impl_ZeroSearch.l2] at H
         obtain ⟨t333, A29, H⟩ := bi_ H
         by_cases c30 : (wrap64 (x15_4 * x15_4)) ≤ t333
         rotate_left
         · rw [if_neg c30] at H
           have c30b0 := decide_eq_false c30
           clear c30
           have H' := Aside0.mk H
           clear H
           go_wp2_with (first | (go_at_call 75; (with_reducible refine (impl_size.calls (wrap64 ((rd l0 0) * (rd l0 2))) t333 _ A29.out).mono ?_); rintro e w50 ⟨rfl, hb⟩; replace HB:= Aside0.mk (below_step z16_ hb); clear hb))
           repeat (go_quiet (first | (go_at_call 75; (with_reducible refine (impl_size.calls (wrap64 ((rd l0 0) * (rd l0 2))) t333 _ A29.out).mono ?_); rintro e w50 ⟨rfl, hb⟩; replace HB:= Aside0.mk (below_step z16_ hb); clear hb)); try go_wp2_with (first | (go_at_call 75; (with_reducible refine (impl_size.calls (wrap64 ((rd l0 0) * (rd l0 2))) t333 _ A29.out).mono ?_); rintro e w50 ⟨rfl, hb⟩; replace HB:= Aside0.mk (below_step z16_ hb); clear hb)))
           go_roundg k4
           case measure => have := HK1.out; have := HJ15.out; have := HK3.out; have := HK4.out; omega
           case rel => exact ⟨(wrap64 (x14_3 + 1)), z32_, H', ⟨by have := HK1.out; have := HJ15.out; have := HK3.out; have := HK4.out; omega⟩, ⟨z16_⟩⟩
         rw [if_pos c30] at H
         have c30b0 := decide_eq_true c30
         clear c30
         obtain ⟨c31, H⟩ := jn_ H
         have c31b0 := beq_eq_false_iff_ne.mpr c31
         have c31b1 := bne_iff_ne.mpr c31
         by_cases c32 : (Int.tmod (wrap64 ((wrap64 ((wrap64 ((wrap64 (-(rd l0 0))) * x14_3)) * x14_3)) - (wrap64 ((wrap64 ((rd l0 1) * x15_4)) * x15_4)))) (rd l0 2)) = 0
         rotate_left
         · rw [if_neg c32] at H
           have c32b0 := beq_eq_false_iff_ne.mpr c32
           have c32b1 := bne_iff_ne.mpr c32
           have H' := Aside0.mk H
           clear H
           go_wp2_with (first | (go_at_call 75; (with_reducible refine (impl_size.calls (wrap64 ((rd l0 0) * (rd l0 2))) t333 _ A29.out).mono ?_); rintro e w49 ⟨rfl, hb⟩; replace HB:= Aside0.mk (below_step z16_ hb); clear hb))
           repeat (go_quiet (first | (go_at_call 75; (with_reducible refine (impl_size.calls (wrap64 ((rd l0 0) * (rd l0 2))) t333 _ A29.out).mono ?_); rintro e w49 ⟨rfl, hb⟩; replace HB:= Aside0.mk (below_step z16_ hb); clear hb)); try go_wp2_with (first | (go_at_call 75; (with_reducible refine (impl_size.calls (wrap64 ((rd l0 0) * (rd l0 2))) t333 _ A29.out).mono ?_); rintro e w49 ⟨rfl, hb⟩; replace HB:= Aside0.mk (below_step z16_ hb); clear hb)))
           go_roundg k4
           case measure => have := HK1.out; have := HJ15.out; have := HK3.out; have := HK4.out; omega
           case rel => exact ⟨(wrap64 (x15_4 + 1)), z32_, H', ⟨by have := HK1.out; have := HJ15.out; have := HK3.out; have := HK4.out; omega⟩, ⟨z16_⟩⟩
         rw [if_pos c32] at H
         have c32b0 := beq_iff_eq.mpr c32
         have c32b1 := bne_eq_false_iff_eq.mpr c32
         clear c32
         obtain ⟨⟨t334, t335⟩, A33, H⟩ := bi_ H
         try dsimp only at H
         by_cases c34 : t335 = true
         rotate_left
         · replace c34 := Bool.eq_false_iff.mpr c34
           subst c34
           rw [jt_] at H
           have H' := Aside0.mk H
           clear H
           go_wp2_with (first | (go_at_call 75; (with_reducible refine (impl_size.calls (wrap64 ((rd l0 0) * (rd l0 2))) t333 _ A29.out).mono ?_); rintro e w48 ⟨rfl, hb⟩; replace HB:= Aside0.mk (below_step z16_ hb); clear hb) | (go_at_call 77; (with_reducible refine (impl_squareRoot.calls k4 (wrap64 (Int.tdiv (wrap64 ((wrap64 ((wrap64 ((wrap64 (-(rd l0 0))) * x14_3)) * x14_3)) - (wrap64 ((wrap64 ((rd l0 1) * x15_4)) * x15_4)))) (rd l0 2))) t334 false _ A33.out).mono ?_); rintro e w' ⟨rfl, ⟨nd, rfl⟩⟩; (try first | exact ⟨rfl, _, World.drewN_drewN _ _ _⟩ | exact ⟨rfl, _, Eq.trans (World.drewN_drewN _ _ _) (congrArg (World.drewN _) (Nat.add_assoc _ _ _))⟩)))
           repeat (go_quiet (first | (go_at_call 75; (with_reducible refine (impl_size.calls (wrap64 ((rd l0 0) * (rd l0 2))) t333 _ A29.out).mono ?_); rintro e w48 ⟨rfl, hb⟩; replace HB:= Aside0.mk (below_step z16_ hb); clear hb) | (go_at_call 77; (with_reducible refine (impl_squareRoot.calls k4 (wrap64 (Int.tdiv (wrap64 ((wrap64 ((wrap64 ((wrap64 (-(rd l0 0))) * x14_3)) * x14_3)) - (wrap64 ((wrap64 ((rd l0 1) * x15_4)) * x15_4)))) (rd l0 2))) t334 false _ A33.out).mono ?_); rintro e w' ⟨rfl, ⟨nd, rfl⟩⟩; (try first | exact ⟨rfl, _, World.drewN_drewN _ _ _⟩ | exact ⟨rfl, _, Eq.trans (World.drewN_drewN _ _ _) (congrArg (World.drewN _) (Nat.add_assoc _ _ _))⟩))); try go_wp2_with (first | (go_at_call 75; (with_reducible refine (impl_size.calls (wrap64 ((rd l0 0) * (rd l0 2))) t333 _ A29.out).mono ?_); rintro e w48 ⟨rfl, hb⟩; replace HB:= Aside0.mk (below_step z16_ hb); clear hb) | (go_at_call 77; (with_reducible refine (impl_squareRoot.calls k4 (wrap64 (Int.tdiv (wrap64 ((wrap64 ((wrap64 ((wrap64 (-(rd l0 0))) * x14_3)) * x14_3)) - (wrap64 ((wrap64 ((rd l0 1) * x15_4)) * x15_4)))) (rd l0 2))) t334 false _ A33.out).mono ?_); rintro e w' ⟨rfl, ⟨nd, rfl⟩⟩; (try first | exact ⟨rfl, _, World.drewN_drewN _ _ _⟩ | exact ⟨rfl, _, Eq.trans (World.drewN_drewN _ _ _) (congrArg (World.drewN _) (Nat.add_assoc _ _ _))⟩))))
           go_roundg k4
           case measure => have := HK1.out; have := HJ15.out; have := HK3.out; have := HK4.out; omega
           case rel => exact ⟨(wrap64 (x15_4 + 1)), z32_, H', ⟨by have := HK1.out; have := HJ15.out; have := HK3.out; have := HK4.out; omega⟩, ⟨z16_⟩⟩
         subst c34
         rw [it_] at H
         by_cases c35 : x14_3 = 0
         rotate_left
         · rw [if_neg c35] at H
           have c35b0 := beq_eq_false_iff_ne.mpr c35
           have c35b1 := bne_iff_ne.mpr c35
           generalize h_ : (([x14_3, x15_4, t334] : List Int)) = y342 at H
           have Ny342 := Aside0.mk h_.symm
           clear h_
           simp only [Option.some.injEq, Prod.mk.injEq] at H
           obtain ⟨rfl, rfl⟩ := H
           go_wp2_with (first | (go_at_call 75; (with_reducible refine (impl_size.calls (wrap64 ((rd l0 0) * (rd l0 2))) t333 _ A29.out).mono ?_); rintro e w45 ⟨rfl, hb⟩; replace HB:= Aside0.mk (below_step z16_ hb); clear hb) | (go_at_call 77; (with_reducible refine (impl_squareRoot.calls k4 (wrap64 (Int.tdiv (wrap64 ((wrap64 ((wrap64 ((wrap64 (-(rd l0 0))) * x14_3)) * x14_3)) - (wrap64 ((wrap64 ((rd l0 1) * x15_4)) * x15_4)))) (rd l0 2))) t334 true _ A33.out).mono ?_); rintro e w' ⟨rfl, ⟨nd, rfl⟩⟩; (try first | exact ⟨rfl, _, World.drewN_drewN _ _ _⟩ | exact ⟨rfl, _, Eq.trans (World.drewN_drewN _ _ _) (congrArg (World.drewN _) (Nat.add_assoc _ _ _))⟩)) | ((with_reducible refine gate_dst (N := 125) rfl ?_); refine Kd.R_lit (Kd.int .i64) _ 3 ?hg (N := 125) ?hd (xs := ([x14_3, x15_4, t334] : List Int)) (inner := [.int .i64 x14_3, .int .i64 x15_4, .int .i64 t334]) (ok := fun _ => True) (okp := fun _ => True) ?hr ?hp (fun _ hk => hk) trivial (Below.refl _ _) (Nat.le_refl _) (by simp) ?_; (case hd => rfl); (case hg => rfl); (case hr => first | (go_simp; done) | (go_simp; rfl)); (case hp => exact (Reps.one (show Kd.M (Kd.int .i64) _ _ _ x14_3 [.int .i64 x14_3] from rfl) (Reps.one (show Kd.M (Kd.int .i64) _ _ _ x15_4 [.int .i64 x15_4] from rfl) (Reps.one (show Kd.M (Kd.int .i64) _ _ _ t334 [.int .i64 t334] from rfl) (Reps.none _ _))))); intro v343 w46 ho47 hb hg_ hnew_; clear hg_ hnew_; (first | rw [← Ny342.out] at ho47 | (simp only [Int.reduceToNat] at ho47; rw [← Ny342.out] at ho47)); have HO344:= Aside0.mk (Kd.R_lower ho47 (below_size z16_)); replace HB:= Aside0.mk (below_step z16_ hb); clear hb ho47))
           repeat (go_quiet (first | (go_at_call 75; (with_reducible refine (impl_size.calls (wrap64 ((rd l0 0) * (rd l0 2))) t333 _ A29.out).mono ?_); rintro e w45 ⟨rfl, hb⟩; replace HB:= Aside0.mk (below_step z16_ hb); clear hb) | (go_at_call 77; (with_reducible refine (impl_squareRoot.calls k4 (wrap64 (Int.tdiv (wrap64 ((wrap64 ((wrap64 ((wrap64 (-(rd l0 0))) * x14_3)) * x14_3)) - (wrap64 ((wrap64 ((rd l0 1) * x15_4)) * x15_4)))) (rd l0 2))) t334 true _ A33.out).mono ?_); rintro e w' ⟨rfl, ⟨nd, rfl⟩⟩; (try first | exact ⟨rfl, _, World.drewN_drewN _ _ _⟩ | exact ⟨rfl, _, Eq.trans (World.drewN_drewN _ _ _) (congrArg (World.drewN _) (Nat.add_assoc _ _ _))⟩)) | ((with_reducible refine gate_dst (N := 125) rfl ?_); refine Kd.R_lit (Kd.int .i64) _ 3 ?hg (N := 125) ?hd (xs := ([x14_3, x15_4, t334] : List Int)) (inner := [.int .i64 x14_3, .int .i64 x15_4, .int .i64 t334]) (ok := fun _ => True) (okp := fun _ => True) ?hr ?hp (fun _ hk => hk) trivial (Below.refl _ _) (Nat.le_refl _) (by simp) ?_; (case hd => rfl); (case hg => rfl); (case hr => first | (go_simp; done) | (go_simp; rfl)); (case hp => exact (Reps.one (show Kd.M (Kd.int .i64) _ _ _ x14_3 [.int .i64 x14_3] from rfl) (Reps.one (show Kd.M (Kd.int .i64) _ _ _ x15_4 [.int .i64 x15_4] from rfl) (Reps.one (show Kd.M (Kd.int .i64) _ _ _ t334 [.int .i64 t334] from rfl) (Reps.none _ _))))); intro v343 w46 ho47 hb hg_ hnew_; clear hg_ hnew_; (first | rw [← Ny342.out] at ho47 | (simp only [Int.reduceToNat] at ho47; rw [← Ny342.out] at ho47)); have HO344:= Aside0.mk (Kd.R_lower ho47 (below_size z16_)); replace HB:= Aside0.mk (below_step z16_ hb); clear hb ho47)); try go_wp2_with (first | (go_at_call 75; (with_reducible refine (impl_size.calls (wrap64 ((rd l0 0) * (rd l0 2))) t333 _ A29.out).mono ?_); rintro e w45 ⟨rfl, hb⟩; replace HB:= Aside0.mk (below_step z16_ hb); clear hb) | (go_at_call 77; (with_reducible refine (impl_squareRoot.calls k4 (wrap64 (Int.tdiv (wrap64 ((wrap64 ((wrap64 ((wrap64 (-(rd l0 0))) * x14_3)) * x14_3)) - (wrap64 ((wrap64 ((rd l0 1) * x15_4)) * x15_4)))) (rd l0 2))) t334 true _ A33.out).mono ?_); rintro e w' ⟨rfl, ⟨nd, rfl⟩⟩; (try first | exact ⟨rfl, _, World.drewN_drewN _ _ _⟩ | exact ⟨rfl, _, Eq.trans (World.drewN_drewN _ _ _) (congrArg (World.drewN _) (Nat.add_assoc _ _ _))⟩)) | ((with_reducible refine gate_dst (N := 125) rfl ?_); refine Kd.R_lit (Kd.int .i64) _ 3 ?hg (N := 125) ?hd (xs := ([x14_3, x15_4, t334] : List Int)) (inner := [.int .i64 x14_3, .int .i64 x15_4, .int .i64 t334]) (ok := fun _ => True) (okp := fun _ => True) ?hr ?hp (fun _ hk => hk) trivial (Below.refl _ _) (Nat.le_refl _) (by simp) ?_; (case hd => rfl); (case hg => rfl); (case hr => first | (go_simp; done) | (go_simp; rfl)); (case hp => exact (Reps.one (show Kd.M (Kd.int .i64) _ _ _ x14_3 [.int .i64 x14_3] from rfl) (Reps.one (show Kd.M (Kd.int .i64) _ _ _ x15_4 [.int .i64 x15_4] from rfl) (Reps.one (show Kd.M (Kd.int .i64) _ _ _ t334 [.int .i64 t334] from rfl) (Reps.none _ _))))); intro v343 w46 ho47 hb hg_ hnew_; clear hg_ hnew_; (first | rw [← Ny342.out] at ho47 | (simp only [Int.reduceToNat] at ho47; rw [← Ny342.out] at ho47)); have HO344:= Aside0.mk (Kd.R_lower ho47 (below_size z16_)); replace HB:= Aside0.mk (below_step z16_ hb); clear hb ho47)))
           go_ret2
           exact ⟨_, z29_, by (with_reducible repeat (first | apply Kd.R_alloc | apply Kd.R_drewN | apply Kd.R_drew)); exact HO344.out, z16_⟩
         rw [if_pos c35] at H
         have c35b0 := beq_iff_eq.mpr c35
         have c35b1 := bne_eq_false_iff_eq.mpr c35
         clear c35
         by_cases c36 : x15_4 = 0
         · rw [if_pos c36] at H
           have c36b0 := beq_iff_eq.mpr c36
           have c36b1 := bne_eq_false_iff_eq.mpr c36
           clear c36
           by_cases c37 : t334 = 0
           · rw [if_pos c37] at H
             have c37b0 := beq_iff_eq.mpr c37
             have c37b1 := bne_eq_false_iff_eq.mpr c37
             clear c37
             have H' := Aside0.mk H
             clear H
             go_wp2_with (first | (go_at_call 75; (with_reducible refine (impl_size.calls (wrap64 ((rd l0 0) * (rd l0 2))) t333 _ A29.out).mono ?_); rintro e w38 ⟨rfl, hb⟩; replace HB:= Aside0.mk (below_step z16_ hb); clear hb) | (go_at_call 77; (with_reducible refine (impl_squareRoot.calls k4 (wrap64 (Int.tdiv (wrap64 ((wrap64 ((wrap64 ((wrap64 (-(rd l0 0))) * x14_3)) * x14_3)) - (wrap64 ((wrap64 ((rd l0 1) * x15_4)) * x15_4)))) (rd l0 2))) t334 true _ A33.out).mono ?_); rintro e w' ⟨rfl, ⟨nd, rfl⟩⟩; (try first | exact ⟨rfl, _, World.drewN_drewN _ _ _⟩ | exact ⟨rfl, _, Eq.trans (World.drewN_drewN _ _ _) (congrArg (World.drewN _) (Nat.add_assoc _ _ _))⟩)))
             repeat (go_quiet (first | (go_at_call 75; (with_reducible refine (impl_size.calls (wrap64 ((rd l0 0) * (rd l0 2))) t333 _ A29.out).mono ?_); rintro e w38 ⟨rfl, hb⟩; replace HB:= Aside0.mk (below_step z16_ hb); clear hb) | (go_at_call 77; (with_reducible refine (impl_squareRoot.calls k4 (wrap64 (Int.tdiv (wrap64 ((wrap64 ((wrap64 ((wrap64 (-(rd l0 0))) * x14_3)) * x14_3)) - (wrap64 ((wrap64 ((rd l0 1) * x15_4)) * x15_4)))) (rd l0 2))) t334 true _ A33.out).mono ?_); rintro e w' ⟨rfl, ⟨nd, rfl⟩⟩; (try first | exact ⟨rfl, _, World.drewN_drewN _ _ _⟩ | exact ⟨rfl, _, Eq.trans (World.drewN_drewN _ _ _) (congrArg (World.drewN _) (Nat.add_assoc _ _ _))⟩))); try go_wp2_with (first | (go_at_call 75; (with_reducible refine (impl_size.calls (wrap64 ((rd l0 0) * (rd l0 2))) t333 _ A29.out).mono ?_); rintro e w38 ⟨rfl, hb⟩; replace HB:= Aside0.mk (below_step z16_ hb); clear hb) | (go_at_call 77; (with_reducible refine (impl_squareRoot.calls k4 (wrap64 (Int.tdiv (wrap64 ((wrap64 ((wrap64 ((wrap64 (-(rd l0 0))) * x14_3)) * x14_3)) - (wrap64 ((wrap64 ((rd l0 1) * x15_4)) * x15_4)))) (rd l0 2))) t334 true _ A33.out).mono ?_); rintro e w' ⟨rfl, ⟨nd, rfl⟩⟩; (try first | exact ⟨rfl, _, World.drewN_drewN _ _ _⟩ | exact ⟨rfl, _, Eq.trans (World.drewN_drewN _ _ _) (congrArg (World.drewN _) (Nat.add_assoc _ _ _))⟩))))
             go_roundg k4
             case measure => have := HK1.out; have := HJ15.out; have := HK3.out; have := HK4.out; omega
             case rel => exact ⟨(wrap64 (x15_4 + 1)), z32_, H', ⟨by have := HK1.out; have := HJ15.out; have := HK3.out; have := HK4.out; omega⟩, ⟨z16_⟩⟩
           rw [if_neg c37] at H
           have c37b0 := beq_eq_false_iff_ne.mpr c37
           have c37b1 := bne_iff_ne.mpr c37
           generalize h_ : (([x14_3, x15_4, t334] : List Int)) = y336 at H
           have Ny336 := Aside0.mk h_.symm
           clear h_
           simp only [Option.some.injEq, Prod.mk.injEq] at H
           obtain ⟨rfl, rfl⟩ := H
           go_wp2_with (first | (go_at_call 75; (with_reducible refine (impl_size.calls (wrap64 ((rd l0 0) * (rd l0 2))) t333 _ A29.out).mono ?_); rintro e w39 ⟨rfl, hb⟩; replace HB:= Aside0.mk (below_step z16_ hb); clear hb) | (go_at_call 77; (with_reducible refine (impl_squareRoot.calls k4 (wrap64 (Int.tdiv (wrap64 ((wrap64 ((wrap64 ((wrap64 (-(rd l0 0))) * x14_3)) * x14_3)) - (wrap64 ((wrap64 ((rd l0 1) * x15_4)) * x15_4)))) (rd l0 2))) t334 true _ A33.out).mono ?_); rintro e w' ⟨rfl, ⟨nd, rfl⟩⟩; (try first | exact ⟨rfl, _, World.drewN_drewN _ _ _⟩ | exact ⟨rfl, _, Eq.trans (World.drewN_drewN _ _ _) (congrArg (World.drewN _) (Nat.add_assoc _ _ _))⟩)) | ((with_reducible refine gate_dst (N := 125) rfl ?_); refine Kd.R_lit (Kd.int .i64) _ 3 ?hg (N := 125) ?hd (xs := ([x14_3, x15_4, t334] : List Int)) (inner := [.int .i64 x14_3, .int .i64 x15_4, .int .i64 t334]) (ok := fun _ => True) (okp := fun _ => True) ?hr ?hp (fun _ hk => hk) trivial (Below.refl _ _) (Nat.le_refl _) (by simp) ?_; (case hd => rfl); (case hg => rfl); (case hr => first | (go_simp; done) | (go_simp; rfl)); (case hp => exact (Reps.one (show Kd.M (Kd.int .i64) _ _ _ x14_3 [.int .i64 x14_3] from rfl) (Reps.one (show Kd.M (Kd.int .i64) _ _ _ x15_4 [.int .i64 x15_4] from rfl) (Reps.one (show Kd.M (Kd.int .i64) _ _ _ t334 [.int .i64 t334] from rfl) (Reps.none _ _))))); intro v337 w40 ho41 hb hg_ hnew_; clear hg_ hnew_; (first | rw [← Ny336.out] at ho41 | (simp only [Int.reduceToNat] at ho41; rw [← Ny336.out] at ho41)); have HO338:= Aside0.mk (Kd.R_lower ho41 (below_size z16_)); replace HB:= Aside0.mk (below_step z16_ hb); clear hb ho41))
           repeat (go_quiet (first | (go_at_call 75; (with_reducible refine (impl_size.calls (wrap64 ((rd l0 0) * (rd l0 2))) t333 _ A29.out).mono ?_); rintro e w39 ⟨rfl, hb⟩; replace HB:= Aside0.mk (below_step z16_ hb); clear hb) | (go_at_call 77; (with_reducible refine (impl_squareRoot.calls k4 (wrap64 (Int.tdiv (wrap64 ((wrap64 ((wrap64 ((wrap64 (-(rd l0 0))) * x14_3)) * x14_3)) - (wrap64 ((wrap64 ((rd l0 1) * x15_4)) * x15_4)))) (rd l0 2))) t334 true _ A33.out).mono ?_); rintro e w' ⟨rfl, ⟨nd, rfl⟩⟩; (try first | exact ⟨rfl, _, World.drewN_drewN _ _ _⟩ | exact ⟨rfl, _, Eq.trans (World.drewN_drewN _ _ _) (congrArg (World.drewN _) (Nat.add_assoc _ _ _))⟩)) | ((with_reducible refine gate_dst (N := 125) rfl ?_); refine Kd.R_lit (Kd.int .i64) _ 3 ?hg (N := 125) ?hd (xs := ([x14_3, x15_4, t334] : List Int)) (inner := [.int .i64 x14_3, .int .i64 x15_4, .int .i64 t334]) (ok := fun _ => True) (okp := fun _ => True) ?hr ?hp (fun _ hk => hk) trivial (Below.refl _ _) (Nat.le_refl _) (by simp) ?_; (case hd => rfl); (case hg => rfl); (case hr => first | (go_simp; done) | (go_simp; rfl)); (case hp => exact (Reps.one (show Kd.M (Kd.int .i64) _ _ _ x14_3 [.int .i64 x14_3] from rfl) (Reps.one (show Kd.M (Kd.int .i64) _ _ _ x15_4 [.int .i64 x15_4] from rfl) (Reps.one (show Kd.M (Kd.int .i64) _ _ _ t334 [.int .i64 t334] from rfl) (Reps.none _ _))))); intro v337 w40 ho41 hb hg_ hnew_; clear hg_ hnew_; (first | rw [← Ny336.out] at ho41 | (simp only [Int.reduceToNat] at ho41; rw [← Ny336.out] at ho41)); have HO338:= Aside0.mk (Kd.R_lower ho41 (below_size z16_)); replace HB:= Aside0.mk (below_step z16_ hb); clear hb ho41)); try go_wp2_with (first | (go_at_call 75; (with_reducible refine (impl_size.calls (wrap64 ((rd l0 0) * (rd l0 2))) t333 _ A29.out).mono ?_); rintro e w39 ⟨rfl, hb⟩; replace HB:= Aside0.mk (below_step z16_ hb); clear hb) | (go_at_call 77; (with_reducible refine (impl_squareRoot.calls k4 (wrap64 (Int.tdiv (wrap64 ((wrap64 ((wrap64 ((wrap64 (-(rd l0 0))) * x14_3)) * x14_3)) - (wrap64 ((wrap64 ((rd l0 1) * x15_4)) * x15_4)))) (rd l0 2))) t334 true _ A33.out).mono ?_); rintro e w' ⟨rfl, ⟨nd, rfl⟩⟩; (try first | exact ⟨rfl, _, World.drewN_drewN _ _ _⟩ | exact ⟨rfl, _, Eq.trans (World.drewN_drewN _ _ _) (congrArg (World.drewN _) (Nat.add_assoc _ _ _))⟩)) | ((with_reducible refine gate_dst (N := 125) rfl ?_); refine Kd.R_lit (Kd.int .i64) _ 3 ?hg (N := 125) ?hd (xs := ([x14_3, x15_4, t334] : List Int)) (inner := [.int .i64 x14_3, .int .i64 x15_4, .int .i64 t334]) (ok := fun _ => True) (okp := fun _ => True) ?hr ?hp (fun _ hk => hk) trivial (Below.refl _ _) (Nat.le_refl _) (by simp) ?_; (case hd => rfl); (case hg => rfl); (case hr => first | (go_simp; done) | (go_simp; rfl)); (case hp => exact (Reps.one (show Kd.M (Kd.int .i64) _ _ _ x14_3 [.int .i64 x14_3] from rfl) (Reps.one (show Kd.M (Kd.int .i64) _ _ _ x15_4 [.int .i64 x15_4] from rfl) (Reps.one (show Kd.M (Kd.int .i64) _ _ _ t334 [.int .i64 t334] from rfl) (Reps.none _ _))))); intro v337 w40 ho41 hb hg_ hnew_; clear hg_ hnew_; (first | rw [← Ny336.out] at ho41 | (simp only [Int.reduceToNat] at ho41; rw [← Ny336.out] at ho41)); have HO338:= Aside0.mk (Kd.R_lower ho41 (below_size z16_)); replace HB:= Aside0.mk (below_step z16_ hb); clear hb ho41)))
           go_ret2
           exact ⟨_, z29_, by (with_reducible repeat (first | apply Kd.R_alloc | apply Kd.R_drewN | apply Kd.R_drew)); exact HO338.out, z16_⟩
         rw [if_neg c36] at H
         have c36b0 := beq_eq_false_iff_ne.mpr c36
         have c36b1 := bne_iff_ne.mpr c36
         generalize h_ : (([x14_3, x15_4, t334] : List Int)) = y339 at H
         have Ny339 := Aside0.mk h_.symm
         clear h_
         simp only [Option.some.injEq, Prod.mk.injEq] at H
         obtain ⟨rfl, rfl⟩ := H
         go_wp2_with (first | (go_at_call 75; (with_reducible refine (impl_size.calls (wrap64 ((rd l0 0) * (rd l0 2))) t333 _ A29.out).mono ?_); rintro e w42 ⟨rfl, hb⟩; replace HB:= Aside0.mk (below_step z16_ hb); clear hb) | (go_at_call 77; (with_reducible refine (impl_squareRoot.calls k4 (wrap64 (Int.tdiv (wrap64 ((wrap64 ((wrap64 ((wrap64 (-(rd l0 0))) * x14_3)) * x14_3)) - (wrap64 ((wrap64 ((rd l0 1) * x15_4)) * x15_4)))) (rd l0 2))) t334 true _ A33.out).mono ?_); rintro e w' ⟨rfl, ⟨nd, rfl⟩⟩; (try first | exact ⟨rfl, _, World.drewN_drewN _ _ _⟩ | exact ⟨rfl, _, Eq.trans (World.drewN_drewN _ _ _) (congrArg (World.drewN _) (Nat.add_assoc _ _ _))⟩)) | ((with_reducible refine gate_dst (N := 125) rfl ?_); refine Kd.R_lit (Kd.int .i64) _ 3 ?hg (N := 125) ?hd (xs := ([x14_3, x15_4, t334] : List Int)) (inner := [.int .i64 x14_3, .int .i64 x15_4, .int .i64 t334]) (ok := fun _ => True) (okp := fun _ => True) ?hr ?hp (fun _ hk => hk) trivial (Below.refl _ _) (Nat.le_refl _) (by simp) ?_; (case hd => rfl); (case hg => rfl); (case hr => first | (go_simp; done) | (go_simp; rfl)); (case hp => exact (Reps.one (show Kd.M (Kd.int .i64) _ _ _ x14_3 [.int .i64 x14_3] from rfl) (Reps.one (show Kd.M (Kd.int .i64) _ _ _ x15_4 [.int .i64 x15_4] from rfl) (Reps.one (show Kd.M (Kd.int .i64) _ _ _ t334 [.int .i64 t334] from rfl) (Reps.none _ _))))); intro v340 w43 ho44 hb hg_ hnew_; clear hg_ hnew_; (first | rw [← Ny339.out] at ho44 | (simp only [Int.reduceToNat] at ho44; rw [← Ny339.out] at ho44)); have HO341:= Aside0.mk (Kd.R_lower ho44 (below_size z16_)); replace HB:= Aside0.mk (below_step z16_ hb); clear hb ho44))
         repeat (go_quiet (first | (go_at_call 75; (with_reducible refine (impl_size.calls (wrap64 ((rd l0 0) * (rd l0 2))) t333 _ A29.out).mono ?_); rintro e w42 ⟨rfl, hb⟩; replace HB:= Aside0.mk (below_step z16_ hb); clear hb) | (go_at_call 77; (with_reducible refine (impl_squareRoot.calls k4 (wrap64 (Int.tdiv (wrap64 ((wrap64 ((wrap64 ((wrap64 (-(rd l0 0))) * x14_3)) * x14_3)) - (wrap64 ((wrap64 ((rd l0 1) * x15_4)) * x15_4)))) (rd l0 2))) t334 true _ A33.out).mono ?_); rintro e w' ⟨rfl, ⟨nd, rfl⟩⟩; (try first | exact ⟨rfl, _, World.drewN_drewN _ _ _⟩ | exact ⟨rfl, _, Eq.trans (World.drewN_drewN _ _ _) (congrArg (World.drewN _) (Nat.add_assoc _ _ _))⟩)) | ((with_reducible refine gate_dst (N := 125) rfl ?_); refine Kd.R_lit (Kd.int .i64) _ 3 ?hg (N := 125) ?hd (xs := ([x14_3, x15_4, t334] : List Int)) (inner := [.int .i64 x14_3, .int .i64 x15_4, .int .i64 t334]) (ok := fun _ => True) (okp := fun _ => True) ?hr ?hp (fun _ hk => hk) trivial (Below.refl _ _) (Nat.le_refl _) (by simp) ?_; (case hd => rfl); (case hg => rfl); (case hr => first | (go_simp; done) | (go_simp; rfl)); (case hp => exact (Reps.one (show Kd.M (Kd.int .i64) _ _ _ x14_3 [.int .i64 x14_3] from rfl) (Reps.one (show Kd.M (Kd.int .i64) _ _ _ x15_4 [.int .i64 x15_4] from rfl) (Reps.one (show Kd.M (Kd.int .i64) _ _ _ t334 [.int .i64 t334] from rfl) (Reps.none _ _))))); intro v340 w43 ho44 hb hg_ hnew_; clear hg_ hnew_; (first | rw [← Ny339.out] at ho44 | (simp only [Int.reduceToNat] at ho44; rw [← Ny339.out] at ho44)); have HO341:= Aside0.mk (Kd.R_lower ho44 (below_size z16_)); replace HB:= Aside0.mk (below_step z16_ hb); clear hb ho44)); try go_wp2_with (first | (go_at_call 75; (with_reducible refine (impl_size.calls (wrap64 ((rd l0 0) * (rd l0 2))) t333 _ A29.out).mono ?_); rintro e w42 ⟨rfl, hb⟩; replace HB:= Aside0.mk (below_step z16_ hb); clear hb) | (go_at_call 77; (with_reducible refine (impl_squareRoot.calls k4 (wrap64 (Int.tdiv (wrap64 ((wrap64 ((wrap64 ((wrap64 (-(rd l0 0))) * x14_3)) * x14_3)) - (wrap64 ((wrap64 ((rd l0 1) * x15_4)) * x15_4)))) (rd l0 2))) t334 true _ A33.out).mono ?_); rintro e w' ⟨rfl, ⟨nd, rfl⟩⟩; (try first | exact ⟨rfl, _, World.drewN_drewN _ _ _⟩ | exact ⟨rfl, _, Eq.trans (World.drewN_drewN _ _ _) (congrArg (World.drewN _) (Nat.add_assoc _ _ _))⟩)) | ((with_reducible refine gate_dst (N := 125) rfl ?_); refine Kd.R_lit (Kd.int .i64) _ 3 ?hg (N := 125) ?hd (xs := ([x14_3, x15_4, t334] : List Int)) (inner := [.int .i64 x14_3, .int .i64 x15_4, .int .i64 t334]) (ok := fun _ => True) (okp := fun _ => True) ?hr ?hp (fun _ hk => hk) trivial (Below.refl _ _) (Nat.le_refl _) (by simp) ?_; (case hd => rfl); (case hg => rfl); (case hr => first | (go_simp; done) | (go_simp; rfl)); (case hp => exact (Reps.one (show Kd.M (Kd.int .i64) _ _ _ x14_3 [.int .i64 x14_3] from rfl) (Reps.one (show Kd.M (Kd.int .i64) _ _ _ x15_4 [.int .i64 x15_4] from rfl) (Reps.one (show Kd.M (Kd.int .i64) _ _ _ t334 [.int .i64 t334] from rfl) (Reps.none _ _))))); intro v340 w43 ho44 hb hg_ hnew_; clear hg_ hnew_; (first | rw [← Ny339.out] at ho44 | (simp only [Int.reduceToNat] at ho44; rw [← Ny339.out] at ho44)); have HO341:= Aside0.mk (Kd.R_lower ho44 (below_size z16_)); replace HB:= Aside0.mk (below_step z16_ hb); clear hb ho44)))
         go_ret2
         exact ⟨_, z29_, by (with_reducible repeat (first | apply Kd.R_alloc | apply Kd.R_drewN | apply Kd.R_drew)); exact HO341.out, z16_⟩

/-! ### impl_isNumber: function 78 -/
def impl_isNumber.f (a0 : Int) : Option (Bool) := if a0 ≥ (-5000) then (some (decide (a0 ≤ 5000))) else (some false)
theorem impl_isNumber.calls (a0 : Int) (r : Bool) (w : World) (h : impl_isNumber.f a0 = some r) :
 Calls Try.prog 78 #[.int .i64 a0] w fun e w' => e = .returned (.bool r) ∧ Drawn0 w w' := by
 have H := h
 clear h
 unfold impl_isNumber.f at H
 by_cases c2 : a0 ≥ (-5000)
 · rw [if_pos c2] at H
   have c2b0 := decide_eq_true c2
   clear c2
   obtain rfl := Option.some.inj H
   go_enter Try.func78, Try.ntmps78
   go_wp2
   go_ret
   exact ⟨z32_, z30_⟩
 rw [if_neg c2] at H
 have c2b0 := decide_eq_false c2
 clear c2
 obtain rfl := Option.some.inj H
 go_enter Try.func78, Try.ntmps78
 go_wp2
 go_ret
 exact ⟨z32_, z30_⟩

end Go.Proofs.Ytdeahlommlgceaa.PFnNormal

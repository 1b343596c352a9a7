-- Written by a program of this session (wip/patch_print.py) over the kit's print.
import Derived.Test.YtcboggdombllcaaPFnSplitx0
import Derived.Test.YtcboggdombllcaaPFnSplitx4
import Derived.Test.YtcboggdombllcaaPFnSplitx5
import Derived.Test.YtcboggdombllcaaPFnSplitx6
namespace Go.Proofs.Ytcboggdombllcaa.PFnSplit
open Go.RowKit Go.Proofs.YtcboggdombllcaaW.PrintWords Go.Proofs.YtcboggdombllcaaW.PrintLast Go.Proofs.YtcboggdombllcaaW.PrintMore
attribute [local go_sem] max2_int min2_int max_two min_two max_three min_three max_four min_four   -- for this text's walks alone
set_option linter.unusedVariables false
set_option linter.unusedSimpArgs false

/-! ### laws_FnSplit: function 5 -/
mutual
def laws_FnSplit.j0 : Nat → List Int → List Int → Bool → Option (Bool)
  | 0, _, _, _ => none
  | k + 1, x0, x1, x18 => if x18 = true then (some true) else ((spec_DrawSymbolSplit.f k x0).bind fun bt288 => ((impl_SymbolSplit.f k bt288.1 bt288.2).bind fun t290 => ((spec_SymbolSplit.f k bt288.1 bt288.2).bind fun t291 => (if (t290 != t291) = true then (laws_FnSplit.j1 k x1 bt288.1 bt288.2 t290 t291 true) else (laws_FnSplit.j1 k x1 bt288.1 bt288.2 t290 t291 (!t290))))))
def laws_FnSplit.j1 : Nat → List Int → Int → Int → Bool → Bool → Bool → Option (Bool)
  | 0, _, _, _, _, _, _ => none
  | k + 1, x1, x5, x6, x7, x8, x36 => if x36 = true then (some (x7 == x8)) else ((impl_SymbolSplit.f k x6 x5).bind fun t292 => (if t292 = true then ((laws_sizeOf.f (wrap64 ((wrap64 (x5 * (1 + ((x1.length : Int) % 5)))) * (1 + ((x1.length : Int) % 5))))).bind fun t293 => (if t293 > 5000 then ((laws_sizeOf.f (wrap64 (-(wrap64 (x5 * x6))))).bind fun t294 => (if t294 > 5000 then (some true) else ((impl_SymbolSplit.f k x5 (wrap64 (-(wrap64 (x5 * x6))))).bind fun t295 => (some t295)))) else ((impl_SymbolSplit.f k (wrap64 ((wrap64 (x5 * (1 + ((x1.length : Int) % 5)))) * (1 + ((x1.length : Int) % 5)))) x6).bind fun t296 => (if t296 = true then ((laws_sizeOf.f (wrap64 (-(wrap64 (x5 * x6))))).bind fun t297 => (if t297 > 5000 then (some true) else ((impl_SymbolSplit.f k x5 (wrap64 (-(wrap64 (x5 * x6))))).bind fun t298 => (some t298)))) else (some false))))) else (some false)))
end
def laws_FnSplit.f (k : Nat) (l0 : List Int) (l1 : List Int) : Option (Bool) := if (l0.length : Int) > 1048576 then (laws_FnSplit.j0 k l0 l1 true) else (laws_FnSplit.j0 k l0 l1 (decide ((l1.length : Int) > 1048576)))
theorem laws_FnSplit.mono_l : ∀ k, (∀ y0 y1 y2, LeO (laws_FnSplit.j0 k y0 y1 y2) (laws_FnSplit.j0 (k + 1) y0 y1 y2)) ∧ (∀ y0 y1 y2 y3 y4 y5, LeO (laws_FnSplit.j1 k y0 y1 y2 y3 y4 y5) (laws_FnSplit.j1 (k + 1) y0 y1 y2 y3 y4 y5))
  | 0 => ⟨fun _ _ _ r h => by simp [laws_FnSplit.j0] at h, fun _ _ _ _ _ _ r h => by simp [laws_FnSplit.j1] at h⟩
  | k + 1 => by
    obtain ⟨ih0, ih1⟩ := laws_FnSplit.mono_l k
    refine ⟨?_, ?_⟩
    · intro y0 y1 y2
      unfold laws_FnSplit.j0
      repeat' first
      | (with_reducible exact ih0 _ _ _)
      | (with_reducible exact ih1 _ _ _ _ _ _)
      | (with_reducible exact impl_SymbolSplit.mono _ _ _)
      | (with_reducible exact spec_DrawSymbolSplit.mono _ _)
      | (with_reducible exact spec_SymbolSplit.mono _ _ _)
      | (with_reducible exact LeO.refl _)
      | (with_reducible exact LeO.none _)
      | (with_reducible refine LeO.ite ?_ ?_)
      | (with_reducible refine LeO.bind ?_ (fun _ => ?_))
      | exact ih0 _ _ _
      | exact ih1 _ _ _ _ _ _
      | exact impl_SymbolSplit.mono _ _ _
      | exact spec_DrawSymbolSplit.mono _ _
      | exact spec_SymbolSplit.mono _ _ _
      | exact LeO.none _
      | refine LeO.ite ?_ ?_
      | refine LeO.bind ?_ (fun _ => ?_)
    · intro y0 y1 y2 y3 y4 y5
      unfold laws_FnSplit.j1
      repeat' first
      | (with_reducible exact ih0 _ _ _)
      | (with_reducible exact ih1 _ _ _ _ _ _)
      | (with_reducible exact impl_SymbolSplit.mono _ _ _)
      | (with_reducible exact spec_DrawSymbolSplit.mono _ _)
      | (with_reducible exact spec_SymbolSplit.mono _ _ _)
      | (with_reducible exact LeO.refl _)
      | (with_reducible exact LeO.none _)
      | (with_reducible refine LeO.ite ?_ ?_)
      | (with_reducible refine LeO.bind ?_ (fun _ => ?_))
      | exact ih0 _ _ _
      | exact ih1 _ _ _ _ _ _
      | exact impl_SymbolSplit.mono _ _ _
      | exact spec_DrawSymbolSplit.mono _ _
      | exact spec_SymbolSplit.mono _ _ _
      | exact LeO.none _
      | refine LeO.ite ?_ ?_
      | refine LeO.bind ?_ (fun _ => ?_)
theorem laws_FnSplit.mono : ∀ a0 a1 k, LeO (laws_FnSplit.f k a0 a1) (laws_FnSplit.f (k + 1) a0 a1) := by
  intro a0 a1 k
  obtain ⟨ih0, ih1⟩ := laws_FnSplit.mono_l k
  unfold laws_FnSplit.f
  repeat' first
      | (with_reducible exact ih0 _ _ _)
      | (with_reducible exact ih1 _ _ _ _ _ _)
      | (with_reducible exact impl_SymbolSplit.mono _ _ _)
      | (with_reducible exact spec_DrawSymbolSplit.mono _ _)
      | (with_reducible exact spec_SymbolSplit.mono _ _ _)
      | (with_reducible exact LeO.refl _)
      | (with_reducible exact LeO.none _)
      | (with_reducible refine LeO.ite ?_ ?_)
      | (with_reducible refine LeO.bind ?_ (fun _ => ?_))
      | exact ih0 _ _ _
      | exact ih1 _ _ _ _ _ _
      | exact impl_SymbolSplit.mono _ _ _
      | exact spec_DrawSymbolSplit.mono _ _
      | exact spec_SymbolSplit.mono _ _ _
      | exact LeO.none _
      | refine LeO.ite ?_ ?_
      | refine LeO.bind ?_ (fun _ => ?_)
set_option maxHeartbeats 8000000 in
set_option maxRecDepth 100000 in
theorem laws_FnSplit.calls (k : Nat) (A0 : Option Addr) (c0 : Nat) (l0 : List Int) (A1 : Option Addr) (c1 : Nat) (l1 : List Int) (r : Bool) (w : World) (hr0 : Kd.C (Kd.int .u8) w A0 l0.length l0) (hc0 : l0.length ≤ c0) (hr1 : Kd.C (Kd.int .u8) w A1 l1.length l1) (hc1 : l1.length ≤ c1) (h : laws_FnSplit.f k l0 l1 = some r) :
    Calls Try.prog 5 #[.slice A0 l0.length c0, .slice A1 l1.length c1] w fun e w' => e = .returned (.bool r) ∧ Below w.heap.size w w' := by
  have HR0 := Aside0.mk hr0
  have HC0 := Aside0.mk hc0
  clear hr0 hc0
  have HR1 := Aside0.mk hr1
  have HC1 := Aside0.mk hc1
  clear hr1 hc1
  have HB := Aside0.mk (Below.refl w.heap.size w)
  have H : (if (l0.length : Int) > 1048576 then (laws_FnSplit.j0 k l0 l1 true) else (laws_FnSplit.j0 k l0 l1 (decide ((l1.length : Int) > 1048576)))) = some r := h
  clear h
  have HC3 := Aside0.mk H
  clear H
  go_enter Try.func5, Try.ntmps5
  go_upto_region 1 with (fail)
  go_cut [18] (fun v18 wc => ∃ (kq : Nat) (x18_2 : Bool), v18 = .bool x18_2 ∧ Aside0 (laws_FnSplit.j0 kq l0 l1 x18_2 = some r) ∧ Aside0 (kq ≤ k) ∧ Aside0 (Below w.heap.size w wc))
  case first =>
    have H := HC3.out
    clear HC3
    by_cases c4 : (l0.length : Int) > 1048576
    · rw [if_pos c4] at H
      have c4b0 : decide (1048576 < (l0.length : Int)) = true := decide_eq_true c4
      have c4b1 : decide (1048576 < l0.length) = true := decide_eq_true (by omega)
      clear c4
      (first | rw [c4b0] | (simp only [i64_w, i32_w]; rw [c4b0]) | skip)
      have H' := Aside0.mk H
      clear H
      go_wp2
      go_meet
      case rel => exact ⟨_, (true), (by first | rfl | (simp; done) | (simp [*]; done)), H', ⟨by first | omega | exact Nat.le_refl _⟩, ⟨by repeat (first | (with_reducible first | exact HB.out | apply below_alloc | apply pw_below_drewN | apply below_drew1) | exact HB.out)⟩⟩
    · rw [if_neg c4] at H
      have c4b0 : decide (1048576 < (l0.length : Int)) = false := decide_eq_false c4
      have c4b1 : decide (1048576 < l0.length) = false := decide_eq_false (by omega)
      clear c4
      (first | rw [c4b0] | (simp only [i64_w, i32_w]; rw [c4b0]) | skip)
      have H' := Aside0.mk H
      clear H
      go_wp2
      go_meet
      case rel => exact ⟨_, (decide ((l1.length : Int) > 1048576)), (by first | rfl | (simp; done) | (simp [*]; done)), H', ⟨by first | omega | exact Nat.le_refl _⟩, ⟨by repeat (first | (with_reducible first | exact HB.out | apply below_alloc | apply pw_below_drewN | apply below_drew1) | exact HB.out)⟩⟩
  case rest =>
    clear HC3
    try clear c1
    try clear p2
    try clear c4
    try clear c4b0
    try clear c4b1
    obtain ⟨kq, x18_2, rfl, HA, HJ2, HB⟩ := hcut
    cases kq with
    | zero => exact absurd HA.out (by simp [laws_FnSplit.j0])
    | succ kj2 =>
      have H := HA.out
      clear HA
      simp only [laws_FnSplit.j0] at H
      by_cases c5 : x18_2 = true
      · subst c5
        have H1 : (some true) = some r := by rw [if_pos rfl] at H; exact H
        clear H
        have H := H1
        clear H1
        obtain rfl := Option.some.inj H
        go_wp2
        go_ret
        exact ⟨by first | rfl | (simp [errW_none, errW_some] <;> rfl) | (simp [*, errW_none, errW_some] <;> rfl), by repeat (first | (with_reducible first | exact HB.out | apply below_alloc | apply pw_below_drewN | apply below_drew1) | exact HB.out)⟩
      · replace c5 := Bool.eq_false_iff.mpr c5
        subst c5
        have H1 : ((spec_DrawSymbolSplit.f kj2 l0).bind fun bt288 => ((impl_SymbolSplit.f kj2 bt288.1 bt288.2).bind fun t290 => ((spec_SymbolSplit.f kj2 bt288.1 bt288.2).bind fun t291 => (if (t290 != t291) = true then (laws_FnSplit.j1 kj2 l1 bt288.1 bt288.2 t290 t291 true) else (laws_FnSplit.j1 kj2 l1 bt288.1 bt288.2 t290 t291 (!t290)))))) = some r := by rw [if_neg (show ¬ (false = true) by decide)] at H; exact H
        clear H
        have H := H1
        clear H1
        replace H := Option.bind_eq_some_iff.mp H
        obtain ⟨⟨t288, t289⟩, A60, H⟩ := H
        replace H : ((impl_SymbolSplit.f kj2 t288 t289).bind fun t290 => ((spec_SymbolSplit.f kj2 t288 t289).bind fun t291 => (if (t290 != t291) = true then (laws_FnSplit.j1 kj2 l1 t288 t289 t290 t291 true) else (laws_FnSplit.j1 kj2 l1 t288 t289 t290 t291 (!t290))))) = some r := H
        have A6 := Aside0.mk A60
        clear A60
        replace H := Option.bind_eq_some_iff.mp H
        obtain ⟨t290, A70, H⟩ := H
        replace H : ((spec_SymbolSplit.f kj2 t288 t289).bind fun t291 => (if (t290 != t291) = true then (laws_FnSplit.j1 kj2 l1 t288 t289 t290 t291 true) else (laws_FnSplit.j1 kj2 l1 t288 t289 t290 t291 (!t290)))) = some r := H
        have A7 := Aside0.mk A70
        clear A70
        replace H := Option.bind_eq_some_iff.mp H
        obtain ⟨t291, A80, H⟩ := H
        replace H : (if (t290 != t291) = true then (laws_FnSplit.j1 kj2 l1 t288 t289 t290 t291 true) else (laws_FnSplit.j1 kj2 l1 t288 t289 t290 t291 (!t290))) = some r := H
        have A8 := Aside0.mk A80
        clear A80
        have HC9 := Aside0.mk H
        clear H
        go_upto_region 6 with (first | ((with_reducible refine gate_callee (f := 22) rfl ?_); refine goesL_ (some 21) rfl rfl Try.func22 (by kernel_rfl) rfl #[.slice A0 l0.length c0] rfl (by (try simp only [List.map_toArray, List.map_cons, List.map_nil]); first | done | rfl | (simp only [List.length_drop, List.length_take]; rfl)) ?_; (with_reducible refine (spec_DrawSymbolSplit.calls kj2 _ _ l0 t288 t289 _ ?side1 ?side2 A6.out).mono ?_); (case side1 => repeat (first | exact (Kd.C_below HR0.out HB.out) | (with_reducible refine Kd.C_alloc ?_ _) | (with_reducible refine Kd.C_drewN ?_ _) | (with_reducible refine Kd.C_drew ?_))); (case side2 => exact HC0.out); rintro e w10 ⟨rfl, hb⟩; refine ⟨_, rfl, ?_⟩; have n0_ := Aside0.mk (below_step (by repeat (first | (with_reducible first | exact HB.out | apply below_alloc | apply pw_below_drewN | apply below_drew1) | exact HB.out)) hb); clear HB; have HB := n0_; clear n0_; (try clear hb); (try clear hb2); (try clear hk); (try clear hi)) | ((with_reducible refine gate_callee (f := 18) rfl ?_); refine goesL_ (some 26) rfl rfl Try.func18 (by kernel_rfl) rfl #[.int .i64 t288, .int .i64 t289] rfl (by (try simp only [List.map_toArray, List.map_cons, List.map_nil]); first | done | rfl | (simp only [List.length_drop, List.length_take]; rfl)) ?_; (with_reducible refine (impl_SymbolSplit.calls kj2 t288 t289 t290 _ A7.out).mono ?_); rintro e w11 ⟨rfl, hb⟩; refine ⟨_, rfl, ?_⟩; have n0_ := Aside0.mk (below_step (by repeat (first | (with_reducible first | exact HB.out | apply below_alloc | apply pw_below_drewN | apply below_drew1) | exact HB.out)) hb); clear HB; have HB := n0_; clear n0_; (try clear hb); (try clear hb2); (try clear hk); (try clear hi)) | ((with_reducible refine gate_callee (f := 23) rfl ?_); refine goesL_ (some 29) rfl rfl Try.func23 (by kernel_rfl) rfl #[.int .i64 t288, .int .i64 t289] rfl (by (try simp only [List.map_toArray, List.map_cons, List.map_nil]); first | done | rfl | (simp only [List.length_drop, List.length_take]; rfl)) ?_; (with_reducible refine (spec_SymbolSplit.calls kj2 t288 t289 t291 _ A8.out).mono ?_); rintro e w12 ⟨rfl, hb⟩; refine ⟨_, rfl, ?_⟩; have n0_ := Aside0.mk (below_step (by repeat (first | (with_reducible first | exact HB.out | apply below_alloc | apply pw_below_drewN | apply below_drew1) | exact HB.out)) hb); clear HB; have HB := n0_; clear n0_; (try clear hb); (try clear hb2); (try clear hk); (try clear hi)))
        (try simp only [Act.put, List.setIfInBounds_toArray, List.set_cons_zero, List.set_cons_succ])
        go_cut [36] (fun v36 wc => ∃ (kq : Nat) (x36_8 : Bool), v36 = .bool x36_8 ∧ Aside0 (laws_FnSplit.j1 kq l1 t288 t289 t290 t291 x36_8 = some r) ∧ Aside0 (kq ≤ kj2) ∧ Aside0 (Below w.heap.size w wc))
        case first =>
          have H := HC9.out
          clear HC9
          by_cases c13 : (t290 != t291) = true
          · rw [if_pos c13] at H
            have c13b0 : (t290 != t291) = true := c13
            (try (have c13b1 : decide (t290 = t291) = false := by simpa using c13))
            (try (have c13b2 : (t290 == t291) = false := by simpa using c13))
            (try (have c13b3 : ¬ (t290 = t291) := by simpa using c13))
            clear c13
            (first | rw [c13b0] | (simp only [i64_w, i32_w]; rw [c13b0]) | skip)
            have H' := Aside0.mk H
            clear H
            go_wp2
            go_meet
            case rel => exact ⟨_, (true), (by first | rfl | (simp; done) | (simp [*]; done)), H', ⟨by have := HJ2.out; first | omega | exact Nat.le_refl _⟩, ⟨by repeat (first | (with_reducible first | exact HB.out | apply below_alloc | apply pw_below_drewN | apply below_drew1) | exact HB.out)⟩⟩
          · rw [if_neg c13] at H
            have c13b0 : (t290 != t291) = false := by simpa using c13
            (try (have c13b1 : decide (t290 = t291) = true := by simpa using c13))
            (try (have c13b2 : (t290 == t291) = true := by simpa using c13))
            clear c13
            (first | rw [c13b0] | (simp only [i64_w, i32_w]; rw [c13b0]) | skip)
            have H' := Aside0.mk H
            clear H
            go_wp2
            go_meet
            case rel => exact ⟨_, (!t290), (by first | rfl | (simp; done) | (simp [*]; done)), H', ⟨by have := HJ2.out; first | omega | exact Nat.le_refl _⟩, ⟨by repeat (first | (with_reducible first | exact HB.out | apply below_alloc | apply pw_below_drewN | apply below_drew1) | exact HB.out)⟩⟩
        case rest =>
          clear HC9
          try clear c1
          try clear c2
          try clear p2
          try clear c4
          try clear c4b0
          try clear c4b1
          try clear c5
          try clear c13
          try clear c13b0
          try clear c13b1
          try clear c13b2
          try clear p2
          obtain ⟨kq, x36_8, rfl, HA, HJ8, HB⟩ := hcut
          cases kq with
          | zero => exact absurd HA.out (by simp [laws_FnSplit.j1])
          | succ kj8 =>
            have H := HA.out
            clear HA
            simp only [laws_FnSplit.j1] at H
            by_cases c14 : x36_8 = true
            · subst c14
              have H1 : (some (t290 == t291)) = some r := by rw [if_pos rfl] at H; exact H
              clear H
              have H := H1
              clear H1
              obtain rfl := Option.some.inj H
              go_wp2
              go_ret
              exact ⟨by first | rfl | (simp [errW_none, errW_some] <;> rfl) | (simp [*, errW_none, errW_some] <;> rfl), by repeat (first | (with_reducible first | exact HB.out | apply below_alloc | apply pw_below_drewN | apply below_drew1) | exact HB.out)⟩
            · replace c14 := Bool.eq_false_iff.mpr c14
              subst c14
              have H1 : ((impl_SymbolSplit.f kj8 t289 t288).bind fun t292 => (if t292 = true then ((laws_sizeOf.f (wrap64 ((wrap64 (t288 * (1 + ((l1.length : Int) % 5)))) * (1 + ((l1.length : Int) % 5))))).bind fun t293 => (if t293 > 5000 then ((laws_sizeOf.f (wrap64 (-(wrap64 (t288 * t289))))).bind fun t294 => (if t294 > 5000 then (some true) else ((impl_SymbolSplit.f kj8 t288 (wrap64 (-(wrap64 (t288 * t289))))).bind fun t295 => (some t295)))) else ((impl_SymbolSplit.f kj8 (wrap64 ((wrap64 (t288 * (1 + ((l1.length : Int) % 5)))) * (1 + ((l1.length : Int) % 5)))) t289).bind fun t296 => (if t296 = true then ((laws_sizeOf.f (wrap64 (-(wrap64 (t288 * t289))))).bind fun t297 => (if t297 > 5000 then (some true) else ((impl_SymbolSplit.f kj8 t288 (wrap64 (-(wrap64 (t288 * t289))))).bind fun t298 => (some t298)))) else (some false))))) else (some false))) = some r := by rw [if_neg (show ¬ (false = true) by decide)] at H; exact H
              clear H
              have H := H1
              clear H1
              replace H := Option.bind_eq_some_iff.mp H
              obtain ⟨t292, A150, H⟩ := H
              replace H : (if t292 = true then ((laws_sizeOf.f (wrap64 ((wrap64 (t288 * (1 + ((l1.length : Int) % 5)))) * (1 + ((l1.length : Int) % 5))))).bind fun t293 => (if t293 > 5000 then ((laws_sizeOf.f (wrap64 (-(wrap64 (t288 * t289))))).bind fun t294 => (if t294 > 5000 then (some true) else ((impl_SymbolSplit.f kj8 t288 (wrap64 (-(wrap64 (t288 * t289))))).bind fun t295 => (some t295)))) else ((impl_SymbolSplit.f kj8 (wrap64 ((wrap64 (t288 * (1 + ((l1.length : Int) % 5)))) * (1 + ((l1.length : Int) % 5)))) t289).bind fun t296 => (if t296 = true then ((laws_sizeOf.f (wrap64 (-(wrap64 (t288 * t289))))).bind fun t297 => (if t297 > 5000 then (some true) else ((impl_SymbolSplit.f kj8 t288 (wrap64 (-(wrap64 (t288 * t289))))).bind fun t298 => (some t298)))) else (some false))))) else (some false)) = some r := H
              have A15 := Aside0.mk A150
              clear A150
              by_cases c16 : t292 = true
              · subst c16
                have H1 : ((laws_sizeOf.f (wrap64 ((wrap64 (t288 * (1 + ((l1.length : Int) % 5)))) * (1 + ((l1.length : Int) % 5))))).bind fun t293 => (if t293 > 5000 then ((laws_sizeOf.f (wrap64 (-(wrap64 (t288 * t289))))).bind fun t294 => (if t294 > 5000 then (some true) else ((impl_SymbolSplit.f kj8 t288 (wrap64 (-(wrap64 (t288 * t289))))).bind fun t295 => (some t295)))) else ((impl_SymbolSplit.f kj8 (wrap64 ((wrap64 (t288 * (1 + ((l1.length : Int) % 5)))) * (1 + ((l1.length : Int) % 5)))) t289).bind fun t296 => (if t296 = true then ((laws_sizeOf.f (wrap64 (-(wrap64 (t288 * t289))))).bind fun t297 => (if t297 > 5000 then (some true) else ((impl_SymbolSplit.f kj8 t288 (wrap64 (-(wrap64 (t288 * t289))))).bind fun t298 => (some t298)))) else (some false))))) = some r := by rw [if_pos rfl] at H; exact H
                clear H
                have H := H1
                clear H1
                replace H := Option.bind_eq_some_iff.mp H
                obtain ⟨t293, A170, H⟩ := H
                replace H : (if t293 > 5000 then ((laws_sizeOf.f (wrap64 (-(wrap64 (t288 * t289))))).bind fun t294 => (if t294 > 5000 then (some true) else ((impl_SymbolSplit.f kj8 t288 (wrap64 (-(wrap64 (t288 * t289))))).bind fun t295 => (some t295)))) else ((impl_SymbolSplit.f kj8 (wrap64 ((wrap64 (t288 * (1 + ((l1.length : Int) % 5)))) * (1 + ((l1.length : Int) % 5)))) t289).bind fun t296 => (if t296 = true then ((laws_sizeOf.f (wrap64 (-(wrap64 (t288 * t289))))).bind fun t297 => (if t297 > 5000 then (some true) else ((impl_SymbolSplit.f kj8 t288 (wrap64 (-(wrap64 (t288 * t289))))).bind fun t298 => (some t298)))) else (some false)))) = some r := H
                have A17 := Aside0.mk A170
                clear A170
                by_cases c18 : t293 > 5000
                · rw [if_pos c18] at H
                  have c18b0 : decide (5000 < t293) = true := decide_eq_true c18
                  clear c18
                  replace H := Option.bind_eq_some_iff.mp H
                  obtain ⟨t294, A190, H⟩ := H
                  replace H : (if t294 > 5000 then (some true) else ((impl_SymbolSplit.f kj8 t288 (wrap64 (-(wrap64 (t288 * t289))))).bind fun t295 => (some t295))) = some r := H
                  have A19 := Aside0.mk A190
                  clear A190
                  by_cases c20 : t294 > 5000
                  · rw [if_pos c20] at H
                    have c20b0 : decide (5000 < t294) = true := decide_eq_true c20
                    clear c20
                    obtain rfl := Option.some.inj H
                    go_wp2_with (first | ((with_reducible refine gate_callee (f := 18) rfl ?_); refine goesL_ (some 50) rfl rfl Try.func18 (by kernel_rfl) rfl #[.int .i64 t289, .int .i64 t288] rfl (by (try simp only [List.map_toArray, List.map_cons, List.map_nil]); first | done | rfl | (simp only [List.length_drop, List.length_take]; rfl)) ?_; (with_reducible refine (impl_SymbolSplit.calls kj8 t289 t288 true _ A15.out).mono ?_); rintro e w21 ⟨rfl, hb⟩; refine ⟨_, rfl, ?_⟩; have n0_ := Aside0.mk (below_step (by repeat (first | (with_reducible first | exact HB.out | apply below_alloc | apply pw_below_drewN | apply below_drew1) | exact HB.out)) hb); clear HB; have HB := n0_; clear n0_; (try clear hb); (try clear hb2); (try clear hk); (try clear hi)) | (go_at_call 24; (with_reducible refine (laws_sizeOf.calls (wrap64 ((wrap64 (t288 * (1 + ((l1.length : Int) % 5)))) * (1 + ((l1.length : Int) % 5)))) t293 _ A17.out).mono ?_); rintro e w22 ⟨rfl, hb⟩; have n0_ := Aside0.mk (below_step (by repeat (first | (with_reducible first | exact HB.out | apply below_alloc | apply pw_below_drewN | apply below_drew1) | exact HB.out)) hb); clear HB; have HB := n0_; clear n0_; (try clear hb); (try clear hb2); (try clear hk); (try clear hi)) | (go_at_call 24; (with_reducible refine (laws_sizeOf.calls (wrap64 (-(wrap64 (t288 * t289)))) t294 _ A19.out).mono ?_); rintro e w23 ⟨rfl, hb⟩; have n0_ := Aside0.mk (below_step (by repeat (first | (with_reducible first | exact HB.out | apply below_alloc | apply pw_below_drewN | apply below_drew1) | exact HB.out)) hb); clear HB; have HB := n0_; clear n0_; (try clear hb); (try clear hb2); (try clear hk); (try clear hi)))
                    go_ret
                    exact ⟨by first | rfl | (simp [errW_none, errW_some] <;> rfl) | (simp [*, errW_none, errW_some] <;> rfl), by repeat (first | (with_reducible first | exact HB.out | apply below_alloc | apply pw_below_drewN | apply below_drew1) | exact HB.out)⟩
                  · rw [if_neg c20] at H
                    have c20b0 : decide (5000 < t294) = false := decide_eq_false c20
                    clear c20
                    replace H := Option.bind_eq_some_iff.mp H
                    obtain ⟨t295, A240, H⟩ := H
                    replace H : (some t295) = some r := H
                    have A24 := Aside0.mk A240
                    clear A240
                    obtain rfl := Option.some.inj H
                    go_wp2_with (first | ((with_reducible refine gate_callee (f := 18) rfl ?_); refine goesL_ (some 50) rfl rfl Try.func18 (by kernel_rfl) rfl #[.int .i64 t289, .int .i64 t288] rfl (by (try simp only [List.map_toArray, List.map_cons, List.map_nil]); first | done | rfl | (simp only [List.length_drop, List.length_take]; rfl)) ?_; (with_reducible refine (impl_SymbolSplit.calls kj8 t289 t288 true _ A15.out).mono ?_); rintro e w25 ⟨rfl, hb⟩; refine ⟨_, rfl, ?_⟩; have n0_ := Aside0.mk (below_step (by repeat (first | (with_reducible first | exact HB.out | apply below_alloc | apply pw_below_drewN | apply below_drew1) | exact HB.out)) hb); clear HB; have HB := n0_; clear n0_; (try clear hb); (try clear hb2); (try clear hk); (try clear hi)) | (go_at_call 24; (with_reducible refine (laws_sizeOf.calls (wrap64 ((wrap64 (t288 * (1 + ((l1.length : Int) % 5)))) * (1 + ((l1.length : Int) % 5)))) t293 _ A17.out).mono ?_); rintro e w26 ⟨rfl, hb⟩; have n0_ := Aside0.mk (below_step (by repeat (first | (with_reducible first | exact HB.out | apply below_alloc | apply pw_below_drewN | apply below_drew1) | exact HB.out)) hb); clear HB; have HB := n0_; clear n0_; (try clear hb); (try clear hb2); (try clear hk); (try clear hi)) | (go_at_call 24; (with_reducible refine (laws_sizeOf.calls (wrap64 (-(wrap64 (t288 * t289)))) t294 _ A19.out).mono ?_); rintro e w27 ⟨rfl, hb⟩; have n0_ := Aside0.mk (below_step (by repeat (first | (with_reducible first | exact HB.out | apply below_alloc | apply pw_below_drewN | apply below_drew1) | exact HB.out)) hb); clear HB; have HB := n0_; clear n0_; (try clear hb); (try clear hb2); (try clear hk); (try clear hi)) | (go_at_call 18; (with_reducible refine (impl_SymbolSplit.calls kj8 t288 (wrap64 (-(wrap64 (t288 * t289)))) t295 _ A24.out).mono ?_); rintro e w28 ⟨rfl, hb⟩; have n0_ := Aside0.mk (below_step (by repeat (first | (with_reducible first | exact HB.out | apply below_alloc | apply pw_below_drewN | apply below_drew1) | exact HB.out)) hb); clear HB; have HB := n0_; clear n0_; (try clear hb); (try clear hb2); (try clear hk); (try clear hi)))
                    go_ret
                    exact ⟨by first | rfl | (simp [errW_none, errW_some] <;> rfl) | (simp [*, errW_none, errW_some] <;> rfl), by repeat (first | (with_reducible first | exact HB.out | apply below_alloc | apply pw_below_drewN | apply below_drew1) | exact HB.out)⟩
                · rw [if_neg c18] at H
                  have c18b0 : decide (5000 < t293) = false := decide_eq_false c18
                  clear c18
                  replace H := Option.bind_eq_some_iff.mp H
                  obtain ⟨t296, A290, H⟩ := H
                  replace H : (if t296 = true then ((laws_sizeOf.f (wrap64 (-(wrap64 (t288 * t289))))).bind fun t297 => (if t297 > 5000 then (some true) else ((impl_SymbolSplit.f kj8 t288 (wrap64 (-(wrap64 (t288 * t289))))).bind fun t298 => (some t298)))) else (some false)) = some r := H
                  have A29 := Aside0.mk A290
                  clear A290
                  by_cases c30 : t296 = true
                  · subst c30
                    have H1 : ((laws_sizeOf.f (wrap64 (-(wrap64 (t288 * t289))))).bind fun t297 => (if t297 > 5000 then (some true) else ((impl_SymbolSplit.f kj8 t288 (wrap64 (-(wrap64 (t288 * t289))))).bind fun t298 => (some t298)))) = some r := by rw [if_pos rfl] at H; exact H
                    clear H
                    have H := H1
                    clear H1
                    replace H := Option.bind_eq_some_iff.mp H
                    obtain ⟨t297, A310, H⟩ := H
                    replace H : (if t297 > 5000 then (some true) else ((impl_SymbolSplit.f kj8 t288 (wrap64 (-(wrap64 (t288 * t289))))).bind fun t298 => (some t298))) = some r := H
                    have A31 := Aside0.mk A310
                    clear A310
                    by_cases c32 : t297 > 5000
                    · rw [if_pos c32] at H
                      have c32b0 : decide (5000 < t297) = true := decide_eq_true c32
                      clear c32
                      obtain rfl := Option.some.inj H
                      go_wp2_with (first | ((with_reducible refine gate_callee (f := 18) rfl ?_); refine goesL_ (some 50) rfl rfl Try.func18 (by kernel_rfl) rfl #[.int .i64 t289, .int .i64 t288] rfl (by (try simp only [List.map_toArray, List.map_cons, List.map_nil]); first | done | rfl | (simp only [List.length_drop, List.length_take]; rfl)) ?_; (with_reducible refine (impl_SymbolSplit.calls kj8 t289 t288 true _ A15.out).mono ?_); rintro e w33 ⟨rfl, hb⟩; refine ⟨_, rfl, ?_⟩; have n0_ := Aside0.mk (below_step (by repeat (first | (with_reducible first | exact HB.out | apply below_alloc | apply pw_below_drewN | apply below_drew1) | exact HB.out)) hb); clear HB; have HB := n0_; clear n0_; (try clear hb); (try clear hb2); (try clear hk); (try clear hi)) | (go_at_call 24; (with_reducible refine (laws_sizeOf.calls (wrap64 ((wrap64 (t288 * (1 + ((l1.length : Int) % 5)))) * (1 + ((l1.length : Int) % 5)))) t293 _ A17.out).mono ?_); rintro e w34 ⟨rfl, hb⟩; have n0_ := Aside0.mk (below_step (by repeat (first | (with_reducible first | exact HB.out | apply below_alloc | apply pw_below_drewN | apply below_drew1) | exact HB.out)) hb); clear HB; have HB := n0_; clear n0_; (try clear hb); (try clear hb2); (try clear hk); (try clear hi)) | (go_at_call 18; (with_reducible refine (impl_SymbolSplit.calls kj8 (wrap64 ((wrap64 (t288 * (1 + ((l1.length : Int) % 5)))) * (1 + ((l1.length : Int) % 5)))) t289 true _ A29.out).mono ?_); rintro e w35 ⟨rfl, hb⟩; have n0_ := Aside0.mk (below_step (by repeat (first | (with_reducible first | exact HB.out | apply below_alloc | apply pw_below_drewN | apply below_drew1) | exact HB.out)) hb); clear HB; have HB := n0_; clear n0_; (try clear hb); (try clear hb2); (try clear hk); (try clear hi)) | (go_at_call 24; (with_reducible refine (laws_sizeOf.calls (wrap64 (-(wrap64 (t288 * t289)))) t297 _ A31.out).mono ?_); rintro e w36 ⟨rfl, hb⟩; have n0_ := Aside0.mk (below_step (by repeat (first | (with_reducible first | exact HB.out | apply below_alloc | apply pw_below_drewN | apply below_drew1) | exact HB.out)) hb); clear HB; have HB := n0_; clear n0_; (try clear hb); (try clear hb2); (try clear hk); (try clear hi)))
                      go_ret
                      exact ⟨by first | rfl | (simp [errW_none, errW_some] <;> rfl) | (simp [*, errW_none, errW_some] <;> rfl), by repeat (first | (with_reducible first | exact HB.out | apply below_alloc | apply pw_below_drewN | apply below_drew1) | exact HB.out)⟩
                    · rw [if_neg c32] at H
                      have c32b0 : decide (5000 < t297) = false := decide_eq_false c32
                      clear c32
                      replace H := Option.bind_eq_some_iff.mp H
                      obtain ⟨t298, A370, H⟩ := H
                      replace H : (some t298) = some r := H
                      have A37 := Aside0.mk A370
                      clear A370
                      obtain rfl := Option.some.inj H
                      go_wp2_with (first | ((with_reducible refine gate_callee (f := 18) rfl ?_); refine goesL_ (some 50) rfl rfl Try.func18 (by kernel_rfl) rfl #[.int .i64 t289, .int .i64 t288] rfl (by (try simp only [List.map_toArray, List.map_cons, List.map_nil]); first | done | rfl | (simp only [List.length_drop, List.length_take]; rfl)) ?_; (with_reducible refine (impl_SymbolSplit.calls kj8 t289 t288 true _ A15.out).mono ?_); rintro e w38 ⟨rfl, hb⟩; refine ⟨_, rfl, ?_⟩; have n0_ := Aside0.mk (below_step (by repeat (first | (with_reducible first | exact HB.out | apply below_alloc | apply pw_below_drewN | apply below_drew1) | exact HB.out)) hb); clear HB; have HB := n0_; clear n0_; (try clear hb); (try clear hb2); (try clear hk); (try clear hi)) | (go_at_call 24; (with_reducible refine (laws_sizeOf.calls (wrap64 ((wrap64 (t288 * (1 + ((l1.length : Int) % 5)))) * (1 + ((l1.length : Int) % 5)))) t293 _ A17.out).mono ?_); rintro e w39 ⟨rfl, hb⟩; have n0_ := Aside0.mk (below_step (by repeat (first | (with_reducible first | exact HB.out | apply below_alloc | apply pw_below_drewN | apply below_drew1) | exact HB.out)) hb); clear HB; have HB := n0_; clear n0_; (try clear hb); (try clear hb2); (try clear hk); (try clear hi)) | (go_at_call 18; (with_reducible refine (impl_SymbolSplit.calls kj8 (wrap64 ((wrap64 (t288 * (1 + ((l1.length : Int) % 5)))) * (1 + ((l1.length : Int) % 5)))) t289 true _ A29.out).mono ?_); rintro e w40 ⟨rfl, hb⟩; have n0_ := Aside0.mk (below_step (by repeat (first | (with_reducible first | exact HB.out | apply below_alloc | apply pw_below_drewN | apply below_drew1) | exact HB.out)) hb); clear HB; have HB := n0_; clear n0_; (try clear hb); (try clear hb2); (try clear hk); (try clear hi)) | (go_at_call 24; (with_reducible refine (laws_sizeOf.calls (wrap64 (-(wrap64 (t288 * t289)))) t297 _ A31.out).mono ?_); rintro e w41 ⟨rfl, hb⟩; have n0_ := Aside0.mk (below_step (by repeat (first | (with_reducible first | exact HB.out | apply below_alloc | apply pw_below_drewN | apply below_drew1) | exact HB.out)) hb); clear HB; have HB := n0_; clear n0_; (try clear hb); (try clear hb2); (try clear hk); (try clear hi)) | (go_at_call 18; (with_reducible refine (impl_SymbolSplit.calls kj8 t288 (wrap64 (-(wrap64 (t288 * t289)))) t298 _ A37.out).mono ?_); rintro e w42 ⟨rfl, hb⟩; have n0_ := Aside0.mk (below_step (by repeat (first | (with_reducible first | exact HB.out | apply below_alloc | apply pw_below_drewN | apply below_drew1) | exact HB.out)) hb); clear HB; have HB := n0_; clear n0_; (try clear hb); (try clear hb2); (try clear hk); (try clear hi)))
                      go_ret
                      exact ⟨by first | rfl | (simp [errW_none, errW_some] <;> rfl) | (simp [*, errW_none, errW_some] <;> rfl), by repeat (first | (with_reducible first | exact HB.out | apply below_alloc | apply pw_below_drewN | apply below_drew1) | exact HB.out)⟩
                  · replace c30 := Bool.eq_false_iff.mpr c30
                    subst c30
                    have H1 : (some false) = some r := by rw [if_neg (show ¬ (false = true) by decide)] at H; exact H
                    clear H
                    have H := H1
                    clear H1
                    obtain rfl := Option.some.inj H
                    go_wp2_with (first | ((with_reducible refine gate_callee (f := 18) rfl ?_); refine goesL_ (some 50) rfl rfl Try.func18 (by kernel_rfl) rfl #[.int .i64 t289, .int .i64 t288] rfl (by (try simp only [List.map_toArray, List.map_cons, List.map_nil]); first | done | rfl | (simp only [List.length_drop, List.length_take]; rfl)) ?_; (with_reducible refine (impl_SymbolSplit.calls kj8 t289 t288 true _ A15.out).mono ?_); rintro e w43 ⟨rfl, hb⟩; refine ⟨_, rfl, ?_⟩; have n0_ := Aside0.mk (below_step (by repeat (first | (with_reducible first | exact HB.out | apply below_alloc | apply pw_below_drewN | apply below_drew1) | exact HB.out)) hb); clear HB; have HB := n0_; clear n0_; (try clear hb); (try clear hb2); (try clear hk); (try clear hi)) | (go_at_call 24; (with_reducible refine (laws_sizeOf.calls (wrap64 ((wrap64 (t288 * (1 + ((l1.length : Int) % 5)))) * (1 + ((l1.length : Int) % 5)))) t293 _ A17.out).mono ?_); rintro e w44 ⟨rfl, hb⟩; have n0_ := Aside0.mk (below_step (by repeat (first | (with_reducible first | exact HB.out | apply below_alloc | apply pw_below_drewN | apply below_drew1) | exact HB.out)) hb); clear HB; have HB := n0_; clear n0_; (try clear hb); (try clear hb2); (try clear hk); (try clear hi)) | (go_at_call 18; (with_reducible refine (impl_SymbolSplit.calls kj8 (wrap64 ((wrap64 (t288 * (1 + ((l1.length : Int) % 5)))) * (1 + ((l1.length : Int) % 5)))) t289 false _ A29.out).mono ?_); rintro e w45 ⟨rfl, hb⟩; have n0_ := Aside0.mk (below_step (by repeat (first | (with_reducible first | exact HB.out | apply below_alloc | apply pw_below_drewN | apply below_drew1) | exact HB.out)) hb); clear HB; have HB := n0_; clear n0_; (try clear hb); (try clear hb2); (try clear hk); (try clear hi)))
                    go_ret
                    exact ⟨by first | rfl | (simp [errW_none, errW_some] <;> rfl) | (simp [*, errW_none, errW_some] <;> rfl), by repeat (first | (with_reducible first | exact HB.out | apply below_alloc | apply pw_below_drewN | apply below_drew1) | exact HB.out)⟩
              · replace c16 := Bool.eq_false_iff.mpr c16
                subst c16
                have H1 : (some false) = some r := by rw [if_neg (show ¬ (false = true) by decide)] at H; exact H
                clear H
                have H := H1
                clear H1
                obtain rfl := Option.some.inj H
                go_wp2_with (first | ((with_reducible refine gate_callee (f := 18) rfl ?_); refine goesL_ (some 50) rfl rfl Try.func18 (by kernel_rfl) rfl #[.int .i64 t289, .int .i64 t288] rfl (by (try simp only [List.map_toArray, List.map_cons, List.map_nil]); first | done | rfl | (simp only [List.length_drop, List.length_take]; rfl)) ?_; (with_reducible refine (impl_SymbolSplit.calls kj8 t289 t288 false _ A15.out).mono ?_); rintro e w46 ⟨rfl, hb⟩; refine ⟨_, rfl, ?_⟩; have n0_ := Aside0.mk (below_step (by repeat (first | (with_reducible first | exact HB.out | apply below_alloc | apply pw_below_drewN | apply below_drew1) | exact HB.out)) hb); clear HB; have HB := n0_; clear n0_; (try clear hb); (try clear hb2); (try clear hk); (try clear hi)))
                go_ret
                exact ⟨by first | rfl | (simp [errW_none, errW_some] <;> rfl) | (simp [*, errW_none, errW_some] <;> rfl), by repeat (first | (with_reducible first | exact HB.out | apply below_alloc | apply pw_below_drewN | apply below_drew1) | exact HB.out)⟩

/-- THE ONE PURE STATEMENT of laws_FnSplit: yours. -/
def laws_FnSplit.Pure : Prop := ∀ (l0 : List Int) (l1 : List Int), l0.length ≤ maxLen → l0.length * 1 ≤ 140737488351232 → (∀ x ∈ l0, (Lit.int .u8 x).wf = true) → l1.length ≤ maxLen → l1.length * 1 ≤ 140737488351232 → (∀ x ∈ l1, (Lit.int .u8 x).wf = true) → ∃ k, laws_FnSplit.f k l0 l1 = some true
theorem laws_FnSplit.walk (P : laws_FnSplit.Pure) (a0 : Option Addr) (len0 cap0 : Nat) (z0 : List Int) (a1 : Option Addr) (len1 cap1 : Nat) (z1 : List Int) (w : World) (w0 : (a0 = none ∧ len0 = 0 ∧ cap0 = 0 ∧ z0 = []) ∨ ∃ x, a0 = some x ∧ len0 ≤ cap0 ∧ cap0 ≤ maxLen ∧ z0.length = cap0 ∧ (∀ i, i < z0.length → w.cell? (x.add i) = some (.int .u8 (z0.getD i 0))) ∧ ∀ n ∈ z0, (Lit.int .u8 n).wf = true) (y0 : len0 * 1 ≤ 140737488351232) (w1 : (a1 = none ∧ len1 = 0 ∧ cap1 = 0 ∧ z1 = []) ∨ ∃ x, a1 = some x ∧ len1 ≤ cap1 ∧ cap1 ≤ maxLen ∧ z1.length = cap1 ∧ (∀ i, i < z1.length → w.cell? (x.add i) = some (.int .u8 (z1.getD i 0))) ∧ ∀ n ∈ z1, (Lit.int .u8 n).wf = true) (y1 : len1 * 1 ≤ 140737488351232) :
    Calls Try.prog 5 #[.slice a0 len0 cap0, .slice a1 len1 cap1] w fun e w' => e = .returned (.bool true) ∧ Below w.heap.size w w' := by
  obtain ⟨l0, rfl, hr0, hm0, hw0, hc0⟩ := ReadsInt.ofRowC w0
  obtain ⟨l1, rfl, hr1, hm1, hw1, hc1⟩ := ReadsInt.ofRowC w1
  obtain ⟨k, h⟩ := P l0 l1 hm0 y0 hw0 hm1 y1 hw1
  refine (laws_FnSplit.calls k _ _ l0 _ _ l1 true w (Kd.C_of_reads (d := (0 : Int)) (h1 := fun _ => rfl) hr0) hc0 (Kd.C_of_reads (d := (0 : Int)) (h1 := fun _ => rfl) hr1) hc1 h).mono ?_
  rintro e w' ⟨rfl, hd⟩
  exact ⟨rfl, hd⟩

end Go.Proofs.Ytcboggdombllcaa.PFnSplit

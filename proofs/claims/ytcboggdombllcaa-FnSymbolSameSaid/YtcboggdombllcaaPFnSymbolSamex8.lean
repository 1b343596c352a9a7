-- Written by a program of this session (wip/patch_print.py) over the kit's print.
import Derived.Test.YtcboggdombllcaaPFnSymbolSamex0
import Derived.Test.YtcboggdombllcaaPFnSymbolSamex4
import Derived.Test.YtcboggdombllcaaPFnSymbolSamex5
import Derived.Test.YtcboggdombllcaaPFnSymbolSamex7
namespace Go.Proofs.Ytcboggdombllcaa.PFnSymbolSame
open Go.RowKit Go.Proofs.YtcboggdombllcaaW.PrintWords Go.Proofs.YtcboggdombllcaaW.PrintLast Go.Proofs.YtcboggdombllcaaW.PrintMore
attribute [local go_sem] max2_int min2_int max_two min_two max_three min_three max_four min_four   -- for this text's walks alone
set_option linter.unusedVariables false
set_option linter.unusedSimpArgs false

/-! ### laws_FnSymbolSame: function 7 -/
mutual
def laws_FnSymbolSame.j0 : Nat → List Int → List Int → Bool → Option (Bool)
  | 0, _, _, _ => none
  | k + 1, x0, x1, x19 => if x19 = true then (some true) else ((spec_DrawSymbolSame.f k x0).bind fun bt312 => ((impl_SymbolSame.f k bt312.1 bt312.2.1 bt312.2.2.1 bt312.2.2.2).bind fun t316 => ((spec_SymbolSame.f k bt312.1 bt312.2.1 bt312.2.2.1 bt312.2.2.2).bind fun t317 => (if (t316 != t317) = true then (laws_FnSymbolSame.j1 k x1 bt312.1 bt312.2.1 bt312.2.2.1 bt312.2.2.2 t316 t317 true) else (laws_FnSymbolSame.j1 k x1 bt312.1 bt312.2.1 bt312.2.2.1 bt312.2.2.2 t316 t317 (!t316))))))
def laws_FnSymbolSame.j1 : Nat → List Int → Int → Int → Int → Int → Bool → Bool → Bool → Option (Bool)
  | 0, _, _, _, _, _, _, _, _ => none
  | k + 1, x1, x5, x6, x7, x8, x9, x10, x43 => if x43 = true then (some (x9 == x10)) else ((some (([0, 2, 3, 5, 7, 11] : List Int) : List Int)).bind fun y318 => (if 0 ≤ ((x1.length : Int) % 6) then (if ((x1.length : Int) % 6) < (y318.length : Int) then ((impl_SymbolSame.f k x7 x8 x5 x6).bind fun t322 => (if t322 = true then ((impl_SymbolOf.f k x5 x6 (rd y318 ((x1.length : Int) % 6))).bind fun t323 => ((impl_SymbolOf.f k x7 x8 (rd y318 ((x1.length : Int) % 6))).bind fun t324 => (if t323 = t324 then ((impl_SymbolPlaces.f k x5 x6).bind fun t325 => ((impl_SymbolPlaces.f k x7 x8).bind fun t328 => ((laws_sameInts.f k t325 t328).bind fun t331 => (some t331)))) else (some false)))) else (some false))) else (none)) else (none)))
end
def laws_FnSymbolSame.f (k : Nat) (l0 : List Int) (l1 : List Int) : Option (Bool) := if (l0.length : Int) > 1048576 then (laws_FnSymbolSame.j0 k l0 l1 true) else (laws_FnSymbolSame.j0 k l0 l1 (decide ((l1.length : Int) > 1048576)))
theorem laws_FnSymbolSame.mono_l : ∀ k, (∀ y0 y1 y2, LeO (laws_FnSymbolSame.j0 k y0 y1 y2) (laws_FnSymbolSame.j0 (k + 1) y0 y1 y2)) ∧ (∀ y0 y1 y2 y3 y4 y5 y6 y7, LeO (laws_FnSymbolSame.j1 k y0 y1 y2 y3 y4 y5 y6 y7) (laws_FnSymbolSame.j1 (k + 1) y0 y1 y2 y3 y4 y5 y6 y7))
  | 0 => ⟨fun _ _ _ r h => by simp [laws_FnSymbolSame.j0] at h, fun _ _ _ _ _ _ _ _ r h => by simp [laws_FnSymbolSame.j1] at h⟩
  | k + 1 => by
    obtain ⟨ih0, ih1⟩ := laws_FnSymbolSame.mono_l k
    refine ⟨?_, ?_⟩
    · intro y0 y1 y2
      unfold laws_FnSymbolSame.j0
      repeat' first
      | (with_reducible exact ih0 _ _ _)
      | (with_reducible exact ih1 _ _ _ _ _ _ _ _)
      | (with_reducible exact impl_SymbolOf.mono _ _ _ _)
      | (with_reducible exact impl_SymbolPlaces.mono _ _ _)
      | (with_reducible exact impl_SymbolSame.mono _ _ _ _ _)
      | (with_reducible exact laws_sameInts.mono _ _ _)
      | (with_reducible exact spec_DrawSymbolSame.mono _ _)
      | (with_reducible exact spec_SymbolSame.mono _ _ _ _ _)
      | (with_reducible exact LeO.refl _)
      | (with_reducible exact LeO.none _)
      | (with_reducible refine LeO.ite ?_ ?_)
      | (with_reducible refine LeO.bind ?_ (fun _ => ?_))
      | exact ih0 _ _ _
      | exact ih1 _ _ _ _ _ _ _ _
      | exact impl_SymbolOf.mono _ _ _ _
      | exact impl_SymbolPlaces.mono _ _ _
      | exact impl_SymbolSame.mono _ _ _ _ _
      | exact laws_sameInts.mono _ _ _
      | exact spec_DrawSymbolSame.mono _ _
      | exact spec_SymbolSame.mono _ _ _ _ _
      | exact LeO.none _
      | refine LeO.ite ?_ ?_
      | refine LeO.bind ?_ (fun _ => ?_)
    · intro y0 y1 y2 y3 y4 y5 y6 y7
      unfold laws_FnSymbolSame.j1
      repeat' first
      | (with_reducible exact ih0 _ _ _)
      | (with_reducible exact ih1 _ _ _ _ _ _ _ _)
      | (with_reducible exact impl_SymbolOf.mono _ _ _ _)
      | (with_reducible exact impl_SymbolPlaces.mono _ _ _)
      | (with_reducible exact impl_SymbolSame.mono _ _ _ _ _)
      | (with_reducible exact laws_sameInts.mono _ _ _)
      | (with_reducible exact spec_DrawSymbolSame.mono _ _)
      | (with_reducible exact spec_SymbolSame.mono _ _ _ _ _)
      | (with_reducible exact LeO.refl _)
      | (with_reducible exact LeO.none _)
      | (with_reducible refine LeO.ite ?_ ?_)
      | (with_reducible refine LeO.bind ?_ (fun _ => ?_))
      | exact ih0 _ _ _
      | exact ih1 _ _ _ _ _ _ _ _
      | exact impl_SymbolOf.mono _ _ _ _
      | exact impl_SymbolPlaces.mono _ _ _
      | exact impl_SymbolSame.mono _ _ _ _ _
      | exact laws_sameInts.mono _ _ _
      | exact spec_DrawSymbolSame.mono _ _
      | exact spec_SymbolSame.mono _ _ _ _ _
      | exact LeO.none _
      | refine LeO.ite ?_ ?_
      | refine LeO.bind ?_ (fun _ => ?_)
theorem laws_FnSymbolSame.mono : ∀ a0 a1 k, LeO (laws_FnSymbolSame.f k a0 a1) (laws_FnSymbolSame.f (k + 1) a0 a1) := by
  intro a0 a1 k
  obtain ⟨ih0, ih1⟩ := laws_FnSymbolSame.mono_l k
  unfold laws_FnSymbolSame.f
  repeat' first
      | (with_reducible exact ih0 _ _ _)
      | (with_reducible exact ih1 _ _ _ _ _ _ _ _)
      | (with_reducible exact impl_SymbolOf.mono _ _ _ _)
      | (with_reducible exact impl_SymbolPlaces.mono _ _ _)
      | (with_reducible exact impl_SymbolSame.mono _ _ _ _ _)
      | (with_reducible exact laws_sameInts.mono _ _ _)
      | (with_reducible exact spec_DrawSymbolSame.mono _ _)
      | (with_reducible exact spec_SymbolSame.mono _ _ _ _ _)
      | (with_reducible exact LeO.refl _)
      | (with_reducible exact LeO.none _)
      | (with_reducible refine LeO.ite ?_ ?_)
      | (with_reducible refine LeO.bind ?_ (fun _ => ?_))
      | exact ih0 _ _ _
      | exact ih1 _ _ _ _ _ _ _ _
      | exact impl_SymbolOf.mono _ _ _ _
      | exact impl_SymbolPlaces.mono _ _ _
      | exact impl_SymbolSame.mono _ _ _ _ _
      | exact laws_sameInts.mono _ _ _
      | exact spec_DrawSymbolSame.mono _ _
      | exact spec_SymbolSame.mono _ _ _ _ _
      | exact LeO.none _
      | refine LeO.ite ?_ ?_
      | refine LeO.bind ?_ (fun _ => ?_)
set_option maxHeartbeats 8000000 in
set_option maxRecDepth 100000 in
theorem laws_FnSymbolSame.calls (k : Nat) (A0 : Option Addr) (c0 : Nat) (l0 : List Int) (A1 : Option Addr) (c1 : Nat) (l1 : List Int) (r : Bool) (w : World) (hr0 : Kd.C (Kd.int .u8) w A0 l0.length l0) (hc0 : l0.length ≤ c0) (hr1 : Kd.C (Kd.int .u8) w A1 l1.length l1) (hc1 : l1.length ≤ c1) (h : laws_FnSymbolSame.f k l0 l1 = some r) :
    Calls Try.prog 7 #[.slice A0 l0.length c0, .slice A1 l1.length c1] w fun e w' => e = .returned (.bool r) ∧ Below w.heap.size w w' := by
  have HR0 := Aside0.mk hr0
  have HC0 := Aside0.mk hc0
  clear hr0 hc0
  have HR1 := Aside0.mk hr1
  have HC1 := Aside0.mk hc1
  clear hr1 hc1
  have HB := Aside0.mk (Below.refl w.heap.size w)
  have H : (if (l0.length : Int) > 1048576 then (laws_FnSymbolSame.j0 k l0 l1 true) else (laws_FnSymbolSame.j0 k l0 l1 (decide ((l1.length : Int) > 1048576)))) = some r := h
  clear h
  have HC3 := Aside0.mk H
  clear H
  go_enter Try.func7, Try.ntmps7
  go_upto_region 1 with (fail)
  go_cut [19] (fun v19 wc => ∃ (kq : Nat) (x19_2 : Bool), v19 = .bool x19_2 ∧ Aside0 (laws_FnSymbolSame.j0 kq l0 l1 x19_2 = some r) ∧ Aside0 (kq ≤ k) ∧ Aside0 (Below w.heap.size w wc))
  case first =>
    have H := HC3.out
    clear HC3
    by_cases c4 : (l0.length : Int) > 1048576
    · rw [if_pos c4] at H
      have c4b0 : decide (1048576 < (l0.length : Int)) = true := decide_eq_true c4
      have c4b1 : decide (1048576 < l0.length) = true := decide_eq_true (by omega)
      clear c4
      (first | rw [c4b0] | (simp only [i64_w, i32_w]; rw [c4b0]) | skip)
      have H' := Aside0.mk H
      clear H
      go_wp2
      go_meet
      case rel => exact ⟨_, (true), (by first | rfl | (simp; done) | (simp [*]; done)), H', ⟨by first | omega | exact Nat.le_refl _⟩, ⟨by repeat (first | (with_reducible first | exact HB.out | apply below_alloc | apply pw_below_drewN | apply below_drew1) | exact HB.out)⟩⟩
    · rw [if_neg c4] at H
      have c4b0 : decide (1048576 < (l0.length : Int)) = false := decide_eq_false c4
      have c4b1 : decide (1048576 < l0.length) = false := decide_eq_false (by omega)
      clear c4
      (first | rw [c4b0] | (simp only [i64_w, i32_w]; rw [c4b0]) | skip)
      have H' := Aside0.mk H
      clear H
      go_wp2
      go_meet
      case rel => exact ⟨_, (decide ((l1.length : Int) > 1048576)), (by first | rfl | (simp; done) | (simp [*]; done)), H', ⟨by first | omega | exact Nat.le_refl _⟩, ⟨by repeat (first | (with_reducible first | exact HB.out | apply below_alloc | apply pw_below_drewN | apply below_drew1) | exact HB.out)⟩⟩
  case rest =>
    clear HC3
    try clear c1
    try clear p2
    try clear c4
    try clear c4b0
    try clear c4b1
    obtain ⟨kq, x19_2, rfl, HA, HJ2, HB⟩ := hcut
    cases kq with
    | zero => exact absurd HA.out (by simp [laws_FnSymbolSame.j0])
    | succ kj2 =>
      have H := HA.out
      clear HA
      simp only [laws_FnSymbolSame.j0] at H
      by_cases c5 : x19_2 = true
      · subst c5
        have H1 : (some true) = some r := by rw [if_pos rfl] at H; exact H
        clear H
        have H := H1
        clear H1
        obtain rfl := Option.some.inj H
        go_wp2
        go_ret
        exact ⟨by first | rfl | (simp [errW_none, errW_some] <;> rfl) | (simp [*, errW_none, errW_some] <;> rfl), by repeat (first | (with_reducible first | exact HB.out | apply below_alloc | apply pw_below_drewN | apply below_drew1) | exact HB.out)⟩
      · replace c5 := Bool.eq_false_iff.mpr c5
        subst c5
        have H1 : ((spec_DrawSymbolSame.f kj2 l0).bind fun bt312 => ((impl_SymbolSame.f kj2 bt312.1 bt312.2.1 bt312.2.2.1 bt312.2.2.2).bind fun t316 => ((spec_SymbolSame.f kj2 bt312.1 bt312.2.1 bt312.2.2.1 bt312.2.2.2).bind fun t317 => (if (t316 != t317) = true then (laws_FnSymbolSame.j1 kj2 l1 bt312.1 bt312.2.1 bt312.2.2.1 bt312.2.2.2 t316 t317 true) else (laws_FnSymbolSame.j1 kj2 l1 bt312.1 bt312.2.1 bt312.2.2.1 bt312.2.2.2 t316 t317 (!t316)))))) = some r := by rw [if_neg (show ¬ (false = true) by decide)] at H; exact H
        clear H
        have H := H1
        clear H1
        replace H := Option.bind_eq_some_iff.mp H
        obtain ⟨⟨t312, t313, t314, t315⟩, A60, H⟩ := H
        replace H : ((impl_SymbolSame.f kj2 t312 t313 t314 t315).bind fun t316 => ((spec_SymbolSame.f kj2 t312 t313 t314 t315).bind fun t317 => (if (t316 != t317) = true then (laws_FnSymbolSame.j1 kj2 l1 t312 t313 t314 t315 t316 t317 true) else (laws_FnSymbolSame.j1 kj2 l1 t312 t313 t314 t315 t316 t317 (!t316))))) = some r := H
        have A6 := Aside0.mk A60
        clear A60
        replace H := Option.bind_eq_some_iff.mp H
        obtain ⟨t316, A70, H⟩ := H
        replace H : ((spec_SymbolSame.f kj2 t312 t313 t314 t315).bind fun t317 => (if (t316 != t317) = true then (laws_FnSymbolSame.j1 kj2 l1 t312 t313 t314 t315 t316 t317 true) else (laws_FnSymbolSame.j1 kj2 l1 t312 t313 t314 t315 t316 t317 (!t316)))) = some r := H
        have A7 := Aside0.mk A70
        clear A70
        replace H := Option.bind_eq_some_iff.mp H
        obtain ⟨t317, A80, H⟩ := H
        replace H : (if (t316 != t317) = true then (laws_FnSymbolSame.j1 kj2 l1 t312 t313 t314 t315 t316 t317 true) else (laws_FnSymbolSame.j1 kj2 l1 t312 t313 t314 t315 t316 t317 (!t316))) = some r := H
        have A8 := Aside0.mk A80
        clear A80
        have HC9 := Aside0.mk H
        clear H
        go_upto_region 6 with (first | ((with_reducible refine gate_callee (f := 31) rfl ?_); refine goesL_ (some 22) rfl rfl Try.func31 (by kernel_rfl) rfl #[.slice A0 l0.length c0] rfl (by (try simp only [List.map_toArray, List.map_cons, List.map_nil]); first | done | rfl | (simp only [List.length_drop, List.length_take]; rfl)) ?_; (with_reducible refine (spec_DrawSymbolSame.calls kj2 _ _ l0 t312 t313 t314 t315 _ ?side1 ?side2 A6.out).mono ?_); (case side1 => repeat (first | exact (Kd.C_below HR0.out HB.out) | (with_reducible refine Kd.C_alloc ?_ _) | (with_reducible refine Kd.C_drewN ?_ _) | (with_reducible refine Kd.C_drew ?_))); (case side2 => exact HC0.out); rintro e w10 ⟨rfl, hb⟩; refine ⟨_, rfl, ?_⟩; have n0_ := Aside0.mk (below_step (by repeat (first | (with_reducible first | exact HB.out | apply below_alloc | apply pw_below_drewN | apply below_drew1) | exact HB.out)) hb); clear HB; have HB := n0_; clear n0_; (try clear hb); (try clear hb2); (try clear hk); (try clear hi)) | ((with_reducible refine gate_callee (f := 32) rfl ?_); refine goesL_ (some 31) rfl rfl Try.func32 (by kernel_rfl) rfl #[.int .i64 t312, .int .i64 t313, .int .i64 t314, .int .i64 t315] rfl (by (try simp only [List.map_toArray, List.map_cons, List.map_nil]); first | done | rfl | (simp only [List.length_drop, List.length_take]; rfl)) ?_; (with_reducible refine (impl_SymbolSame.calls kj2 t312 t313 t314 t315 t316 _ A7.out).mono ?_); rintro e w11 ⟨rfl, hb⟩; refine ⟨_, rfl, ?_⟩; have n0_ := Aside0.mk (below_step (by repeat (first | (with_reducible first | exact HB.out | apply below_alloc | apply pw_below_drewN | apply below_drew1) | exact HB.out)) hb); clear HB; have HB := n0_; clear n0_; (try clear hb); (try clear hb2); (try clear hk); (try clear hi)) | ((with_reducible refine gate_callee (f := 33) rfl ?_); refine goesL_ (some 36) rfl rfl Try.func33 (by kernel_rfl) rfl #[.int .i64 t312, .int .i64 t313, .int .i64 t314, .int .i64 t315] rfl (by (try simp only [List.map_toArray, List.map_cons, List.map_nil]); first | done | rfl | (simp only [List.length_drop, List.length_take]; rfl)) ?_; (with_reducible refine (spec_SymbolSame.calls kj2 t312 t313 t314 t315 t317 _ A8.out).mono ?_); rintro e w12 ⟨rfl, hb⟩; refine ⟨_, rfl, ?_⟩; have n0_ := Aside0.mk (below_step (by repeat (first | (with_reducible first | exact HB.out | apply below_alloc | apply pw_below_drewN | apply below_drew1) | exact HB.out)) hb); clear HB; have HB := n0_; clear n0_; (try clear hb); (try clear hb2); (try clear hk); (try clear hi)))
        (try simp only [Act.put, List.setIfInBounds_toArray, List.set_cons_zero, List.set_cons_succ])
        go_cut [43] (fun v43 wc => ∃ (kq : Nat) (x43_8 : Bool), v43 = .bool x43_8 ∧ Aside0 (laws_FnSymbolSame.j1 kq l1 t312 t313 t314 t315 t316 t317 x43_8 = some r) ∧ Aside0 (kq ≤ kj2) ∧ Aside0 (Below w.heap.size w wc))
        case first =>
          have H := HC9.out
          clear HC9
          by_cases c13 : (t316 != t317) = true
          · rw [if_pos c13] at H
            have c13b0 : (t316 != t317) = true := c13
            (try (have c13b1 : decide (t316 = t317) = false := by simpa using c13))
            (try (have c13b2 : (t316 == t317) = false := by simpa using c13))
            (try (have c13b3 : ¬ (t316 = t317) := by simpa using c13))
            clear c13
            (first | rw [c13b0] | (simp only [i64_w, i32_w]; rw [c13b0]) | skip)
            have H' := Aside0.mk H
            clear H
            go_wp2
            go_meet
            case rel => exact ⟨_, (true), (by first | rfl | (simp; done) | (simp [*]; done)), H', ⟨by have := HJ2.out; first | omega | exact Nat.le_refl _⟩, ⟨by repeat (first | (with_reducible first | exact HB.out | apply below_alloc | apply pw_below_drewN | apply below_drew1) | exact HB.out)⟩⟩
          · rw [if_neg c13] at H
            have c13b0 : (t316 != t317) = false := by simpa using c13
            (try (have c13b1 : decide (t316 = t317) = true := by simpa using c13))
            (try (have c13b2 : (t316 == t317) = true := by simpa using c13))
            clear c13
            (first | rw [c13b0] | (simp only [i64_w, i32_w]; rw [c13b0]) | skip)
            have H' := Aside0.mk H
            clear H
            go_wp2
            go_meet
            case rel => exact ⟨_, (!t316), (by first | rfl | (simp; done) | (simp [*]; done)), H', ⟨by have := HJ2.out; first | omega | exact Nat.le_refl _⟩, ⟨by repeat (first | (with_reducible first | exact HB.out | apply below_alloc | apply pw_below_drewN | apply below_drew1) | exact HB.out)⟩⟩
        case rest =>
          clear HC9
          try clear c1
          try clear p2
          try clear c3
          try clear c4
          try clear c4b0
          try clear c4b1
          try clear c5
          try clear c7
          try clear c13
          try clear c13b0
          try clear c13b1
          try clear c13b2
          try clear p2
          obtain ⟨kq, x43_8, rfl, HA, HJ8, HB⟩ := hcut
          cases kq with
          | zero => exact absurd HA.out (by simp [laws_FnSymbolSame.j1])
          | succ kj8 =>
            have H := HA.out
            clear HA
            simp only [laws_FnSymbolSame.j1] at H
            by_cases c14 : x43_8 = true
            · subst c14
              have H1 : (some (t316 == t317)) = some r := by rw [if_pos rfl] at H; exact H
              clear H
              have H := H1
              clear H1
              obtain rfl := Option.some.inj H
              go_wp2
              go_ret
              exact ⟨by first | rfl | (simp [errW_none, errW_some] <;> rfl) | (simp [*, errW_none, errW_some] <;> rfl), by repeat (first | (with_reducible first | exact HB.out | apply below_alloc | apply pw_below_drewN | apply below_drew1) | exact HB.out)⟩
            · replace c14 := Bool.eq_false_iff.mpr c14
              subst c14
              have H1 : ((some (([0, 2, 3, 5, 7, 11] : List Int) : List Int)).bind fun y318 => (if 0 ≤ ((l1.length : Int) % 6) then (if ((l1.length : Int) % 6) < (y318.length : Int) then ((impl_SymbolSame.f kj8 t314 t315 t312 t313).bind fun t322 => (if t322 = true then ((impl_SymbolOf.f kj8 t312 t313 (rd y318 ((l1.length : Int) % 6))).bind fun t323 => ((impl_SymbolOf.f kj8 t314 t315 (rd y318 ((l1.length : Int) % 6))).bind fun t324 => (if t323 = t324 then ((impl_SymbolPlaces.f kj8 t312 t313).bind fun t325 => ((impl_SymbolPlaces.f kj8 t314 t315).bind fun t328 => ((laws_sameInts.f kj8 t325 t328).bind fun t331 => (some t331)))) else (some false)))) else (some false))) else (none)) else (none))) = some r := by rw [if_neg (show ¬ (false = true) by decide)] at H; exact H
              clear H
              have H := H1
              clear H1
              obtain ⟨y318, hy318⟩ : ∃ y_ : List Int, y_ = (([0, 2, 3, 5, 7, 11] : List Int)) := ⟨_, rfl⟩
              replace H : (if 0 ≤ ((l1.length : Int) % 6) then (if ((l1.length : Int) % 6) < (y318.length : Int) then ((impl_SymbolSame.f kj8 t314 t315 t312 t313).bind fun t322 => (if t322 = true then ((impl_SymbolOf.f kj8 t312 t313 (rd y318 ((l1.length : Int) % 6))).bind fun t323 => ((impl_SymbolOf.f kj8 t314 t315 (rd y318 ((l1.length : Int) % 6))).bind fun t324 => (if t323 = t324 then ((impl_SymbolPlaces.f kj8 t312 t313).bind fun t325 => ((impl_SymbolPlaces.f kj8 t314 t315).bind fun t328 => ((laws_sameInts.f kj8 t325 t328).bind fun t331 => (some t331)))) else (some false)))) else (some false))) else (none)) else (none)) = some r := by first | (rw [hy318]; with_reducible exact H) | (have H2_ := (Option.bind_some _ _).symm.trans H; rw [hy318]; with_reducible exact H2_) | (have H2_ := (Option.bind_some _ _).symm.trans H; with_reducible exact H2_) | with_reducible exact H | (rw [hy318]; exact H) | exact H
              have Ny318 := Aside0.mk hy318
              clear hy318
              obtain ⟨ji15, hji15⟩ : ∃ j_ : Int, ((l1.length : Int) % 6) = j_ := ⟨_, rfl⟩
              replace H : (if 0 ≤ (ji15) then (if (ji15) < (y318.length : Int) then ((impl_SymbolSame.f kj8 t314 t315 t312 t313).bind fun t322 => (if t322 = true then ((impl_SymbolOf.f kj8 t312 t313 (rd y318 (ji15))).bind fun t323 => ((impl_SymbolOf.f kj8 t314 t315 (rd y318 (ji15))).bind fun t324 => (if t323 = t324 then ((impl_SymbolPlaces.f kj8 t312 t313).bind fun t325 => ((impl_SymbolPlaces.f kj8 t314 t315).bind fun t328 => ((laws_sameInts.f kj8 t325 t328).bind fun t331 => (some t331)))) else (some false)))) else (some false))) else (none)) else (none)) = some r := by first | (rw [hji15] at H; exact H) | (simp only [hji15] at H ⊢; exact H)
              by_cases c16 : 0 ≤ (ji15)
              · rw [if_pos c16] at H
                have c16b0 : decide (0 ≤ (ji15)) = true := decide_eq_true c16
                clear c16
                by_cases c17 : (ji15) < (y318.length : Int)
                · rw [if_pos c17] at H
                  have c17b0 : decide ((ji15) < (y318.length : Int)) = true := decide_eq_true c17
                  clear c17
                  replace H := Option.bind_eq_some_iff.mp H
                  obtain ⟨t322, A180, H⟩ := H
                  replace H : (if t322 = true then ((impl_SymbolOf.f kj8 t312 t313 (rd y318 (ji15))).bind fun t323 => ((impl_SymbolOf.f kj8 t314 t315 (rd y318 (ji15))).bind fun t324 => (if t323 = t324 then ((impl_SymbolPlaces.f kj8 t312 t313).bind fun t325 => ((impl_SymbolPlaces.f kj8 t314 t315).bind fun t328 => ((laws_sameInts.f kj8 t325 t328).bind fun t331 => (some t331)))) else (some false)))) else (some false)) = some r := H
                  have A18 := Aside0.mk A180
                  clear A180
                  by_cases c19 : t322 = true
                  · subst c19
                    have H1 : ((impl_SymbolOf.f kj8 t312 t313 (rd y318 (ji15))).bind fun t323 => ((impl_SymbolOf.f kj8 t314 t315 (rd y318 (ji15))).bind fun t324 => (if t323 = t324 then ((impl_SymbolPlaces.f kj8 t312 t313).bind fun t325 => ((impl_SymbolPlaces.f kj8 t314 t315).bind fun t328 => ((laws_sameInts.f kj8 t325 t328).bind fun t331 => (some t331)))) else (some false)))) = some r := by rw [if_pos rfl] at H; exact H
                    clear H
                    have H := H1
                    clear H1
                    replace H := Option.bind_eq_some_iff.mp H
                    obtain ⟨t323, A200, H⟩ := H
                    replace H : ((impl_SymbolOf.f kj8 t314 t315 (rd y318 (ji15))).bind fun t324 => (if t323 = t324 then ((impl_SymbolPlaces.f kj8 t312 t313).bind fun t325 => ((impl_SymbolPlaces.f kj8 t314 t315).bind fun t328 => ((laws_sameInts.f kj8 t325 t328).bind fun t331 => (some t331)))) else (some false))) = some r := H
                    have A20 := Aside0.mk A200
                    clear A200
                    replace H := Option.bind_eq_some_iff.mp H
                    obtain ⟨t324, A210, H⟩ := H
                    replace H : (if t323 = t324 then ((impl_SymbolPlaces.f kj8 t312 t313).bind fun t325 => ((impl_SymbolPlaces.f kj8 t314 t315).bind fun t328 => ((laws_sameInts.f kj8 t325 t328).bind fun t331 => (some t331)))) else (some false)) = some r := H
                    have A21 := Aside0.mk A210
                    clear A210
                    by_cases c22 : t323 = t324
                    · rw [if_pos c22] at H
                      have c22b0 : (t323 == t324) = true := beq_iff_eq.mpr c22
                      have c22b1 : (t323 != t324) = false := bne_eq_false_iff_eq.mpr c22
                      clear c22
                      replace H := Option.bind_eq_some_iff.mp H
                      obtain ⟨t325, A230, H⟩ := H
                      replace H : ((impl_SymbolPlaces.f kj8 t314 t315).bind fun t328 => ((laws_sameInts.f kj8 t325 t328).bind fun t331 => (some t331))) = some r := H
                      have A23 := Aside0.mk A230
                      clear A230
                      replace H := Option.bind_eq_some_iff.mp H
                      obtain ⟨t328, A240, H⟩ := H
                      replace H : ((laws_sameInts.f kj8 t325 t328).bind fun t331 => (some t331)) = some r := H
                      have A24 := Aside0.mk A240
                      clear A240
                      replace H := Option.bind_eq_some_iff.mp H
                      obtain ⟨t331, A250, H⟩ := H
                      replace H : (some t331) = some r := H
                      have A25 := Aside0.mk A250
                      clear A250
                      obtain rfl := Option.some.inj H
                      go_wp2_with (first | ((with_reducible refine gate_dst (N := 47) rfl ?_); (try (refine gate_guard (by rfl) ?_; dsimp only)); refine Kd.R_lit (Kd.int .i64) _ 3 ?hg (N := 47) ?hd (xs := ([0, 2, 3, 5, 7, 11] : List Int)) (inner := [.int .i64 0, .int .i64 2, .int .i64 3, .int .i64 5, .int .i64 7, .int .i64 11]) (ok := fun _ => True) (okp := fun _ => True) ?hr ?hp (fun _ hk => hk) trivial (Below.refl _ _) (Nat.le_refl _) (by simp) ?_; (case hd => rfl); (case hg => rfl); (case hr => first | (go_simp; done) | (go_simp; rfl)); (case hp => exact (Reps.one (show Kd.M (Kd.int .i64) _ _ _ 0 [.int .i64 0] from rfl) (Reps.one (show Kd.M (Kd.int .i64) _ _ _ 2 [.int .i64 2] from rfl) (Reps.one (show Kd.M (Kd.int .i64) _ _ _ 3 [.int .i64 3] from rfl) (Reps.one (show Kd.M (Kd.int .i64) _ _ _ 5 [.int .i64 5] from rfl) (Reps.one (show Kd.M (Kd.int .i64) _ _ _ 7 [.int .i64 7] from rfl) (Reps.one (show Kd.M (Kd.int .i64) _ _ _ 11 [.int .i64 11] from rfl) (Reps.none _ _)))))))); intro v319 w26 ho27 hb hg_ hnew_; clear hg_ hnew_; (first | rw [← Ny318.out] at ho27 | (simp only [Int.reduceToNat] at ho27; rw [← Ny318.out] at ho27)); have n0_ := Aside0.mk (Kd.R_lower ho27 (below_size (by repeat (first | (with_reducible first | exact HB.out | apply below_alloc | apply pw_below_drewN | apply below_drew1) | exact HB.out)))); have n1_ := Aside0.mk (below_step (by repeat (first | (with_reducible first | exact HB.out | apply below_alloc | apply pw_below_drewN | apply below_drew1) | exact HB.out)) hb); clear HB; have HO320 := n0_; have HB := n1_; clear n0_ n1_; clear hb ho27; obtain ⟨Ao28, co28, eo28⟩ := Kd.R_slice HO320.out; subst eo28; have p321 : 0 ≤ ((ji15) : Int) := of_decide_eq_true (by first | (with_reducible assumption) | assumption); have q321 : (ji15) < (y318.length : Int) := of_decide_eq_true (by first | (with_reducible assumption) | assumption); obtain ⟨ad321, e321, hx321_0⟩ := Kd.at_int (Kd.R_reads' HO320.out).2.2 (ji15) p321 q321; cases e321; replace p321 := eq_true p321; replace q321 := eq_true q321) | ((with_reducible refine gate_callee (f := 32) rfl ?_); refine goesL_ (some 57) rfl rfl Try.func32 (by kernel_rfl) rfl #[.int .i64 t314, .int .i64 t315, .int .i64 t312, .int .i64 t313] rfl (by (try simp only [List.map_toArray, List.map_cons, List.map_nil]); first | done | rfl | (simp only [List.length_drop, List.length_take]; rfl)) ?_; (with_reducible refine (impl_SymbolSame.calls kj8 t314 t315 t312 t313 true _ A18.out).mono ?_); rintro e w29 ⟨rfl, hb⟩; refine ⟨_, rfl, ?_⟩; have n0_ := Aside0.mk (Kd.R_below (by (with_reducible repeat (first | apply Kd.R_alloc | apply Kd.R_drewN | apply Kd.R_drew)); exact HO320.out) hb); have n1_ := Aside0.mk (below_step (by repeat (first | (with_reducible first | exact HB.out | apply below_alloc | apply pw_below_drewN | apply below_drew1) | exact HB.out)) hb); clear HO320; clear HB; have HO320 := n0_; have HB := n1_; clear n0_ n1_; (try clear hb); (try clear hb2); (try clear hk); (try clear hi)) | (go_at_call 29; (with_reducible refine (impl_SymbolOf.calls kj8 t312 t313 (rd y318 (ji15)) t323 _ A20.out).mono ?_); rintro e w' ⟨rfl, ⟨nd, rfl⟩⟩) | (go_at_call 29; (with_reducible refine (impl_SymbolOf.calls kj8 t314 t315 (rd y318 (ji15)) t324 _ A21.out).mono ?_); rintro e w' ⟨rfl, ⟨nd, rfl⟩⟩) | (go_at_call 26; (with_reducible refine (impl_SymbolPlaces.calls kj8 t312 t313 t325 _ A23.out).mono ?_); rintro e w30 ⟨v326, rfl, ho0, hb⟩; have n0_ := Aside0.mk (Kd.R_elder' (by (with_reducible repeat (first | apply Kd.R_alloc | apply Kd.R_drewN | apply Kd.R_drew)); exact HO320.out) (Kd.R_base ho0) hb); have n1_ := Aside0.mk (Kd.R_lower (Kd.R_new' ho0 (Kd.R_lt (by (with_reducible repeat (first | apply Kd.R_alloc | apply Kd.R_drewN | apply Kd.R_drew)); exact HO320.out))) (below_size (by repeat (first | (with_reducible first | exact HB.out | apply below_alloc | apply pw_below_drewN | apply below_drew1) | exact HB.out)))); have n2_ := Aside0.mk (below_step (by repeat (first | (with_reducible first | exact HB.out | apply below_alloc | apply pw_below_drewN | apply below_drew1) | exact HB.out)) hb); clear HO320; clear HB; have HO320 := n0_; have HO327 := n1_; have HB := n2_; clear n0_ n1_ n2_; (try clear hb); (try clear hb2); (try clear hk); (try clear hi); (try clear ho0)) | (go_at_call 26; (with_reducible refine (impl_SymbolPlaces.calls kj8 t314 t315 t328 _ A24.out).mono ?_); rintro e w31 ⟨v329, rfl, ho0, hb⟩; have n0_ := Aside0.mk (Kd.R_elder' (by (with_reducible repeat (first | apply Kd.R_alloc | apply Kd.R_drewN | apply Kd.R_drew)); exact HO320.out) (Kd.R_base ho0) hb); have n1_ := Aside0.mk (Kd.R_elder' (by (with_reducible repeat (first | apply Kd.R_alloc | apply Kd.R_drewN | apply Kd.R_drew)); exact HO327.out) (Kd.R_base ho0) hb); have n2_ := Aside0.mk (Kd.R_lower (Kd.R_new' (Kd.R_new' ho0 (Kd.R_lt (by (with_reducible repeat (first | apply Kd.R_alloc | apply Kd.R_drewN | apply Kd.R_drew)); exact HO320.out))) (Kd.R_lt (by (with_reducible repeat (first | apply Kd.R_alloc | apply Kd.R_drewN | apply Kd.R_drew)); exact HO327.out))) (below_size (by repeat (first | (with_reducible first | exact HB.out | apply below_alloc | apply pw_below_drewN | apply below_drew1) | exact HB.out)))); have n3_ := Aside0.mk (below_step (by repeat (first | (with_reducible first | exact HB.out | apply below_alloc | apply pw_below_drewN | apply below_drew1) | exact HB.out)) hb); clear HO320; clear HO327; clear HB; have HO320 := n0_; have HO327 := n1_; have HO330 := n2_; have HB := n3_; clear n0_ n1_ n2_ n3_; (try clear hb); (try clear hb2); (try clear hk); (try clear hi); (try clear ho0); obtain ⟨Ao32, co32, eo32⟩ := Kd.R_slice HO327.out; subst eo32; obtain ⟨Ao33, co33, eo33⟩ := Kd.R_slice HO330.out; subst eo33) | (go_at_call 28; (with_reducible refine (laws_sameInts.calls kj8 _ _ t325 _ _ t328 t331 _ ?side1 ?side2 ?side3 ?side4 A25.out).mono ?_); (case side1 => repeat (first | exact (Kd.R_reads' HO327.out).2.2 | (with_reducible refine Kd.C_alloc ?_ _) | (with_reducible refine Kd.C_drewN ?_ _) | (with_reducible refine Kd.C_drew ?_))); (case side2 => exact (Kd.R_reads' HO327.out).2.1); (case side3 => repeat (first | exact (Kd.R_reads' HO330.out).2.2 | (with_reducible refine Kd.C_alloc ?_ _) | (with_reducible refine Kd.C_drewN ?_ _) | (with_reducible refine Kd.C_drew ?_))); (case side4 => exact (Kd.R_reads' HO330.out).2.1); rintro e w' ⟨rfl, ⟨nd, rfl⟩⟩))
                      go_ret
                      exact ⟨by first | rfl | (simp [errW_none, errW_some] <;> rfl) | (simp only [← hji15]; first | rfl | (simp [errW_none, errW_some] <;> rfl)) | (simp [*, errW_none, errW_some] <;> rfl), by repeat (first | (with_reducible first | exact HB.out | apply below_alloc | apply pw_below_drewN | apply below_drew1) | exact HB.out)⟩
                    · rw [if_neg c22] at H
                      have c22b0 : (t323 == t324) = false := beq_eq_false_iff_ne.mpr c22
                      have c22b1 : (t323 != t324) = true := bne_iff_ne.mpr c22
                      obtain rfl := Option.some.inj H
                      go_wp2_with (first | ((with_reducible refine gate_dst (N := 47) rfl ?_); (try (refine gate_guard (by rfl) ?_; dsimp only)); refine Kd.R_lit (Kd.int .i64) _ 3 ?hg (N := 47) ?hd (xs := ([0, 2, 3, 5, 7, 11] : List Int)) (inner := [.int .i64 0, .int .i64 2, .int .i64 3, .int .i64 5, .int .i64 7, .int .i64 11]) (ok := fun _ => True) (okp := fun _ => True) ?hr ?hp (fun _ hk => hk) trivial (Below.refl _ _) (Nat.le_refl _) (by simp) ?_; (case hd => rfl); (case hg => rfl); (case hr => first | (go_simp; done) | (go_simp; rfl)); (case hp => exact (Reps.one (show Kd.M (Kd.int .i64) _ _ _ 0 [.int .i64 0] from rfl) (Reps.one (show Kd.M (Kd.int .i64) _ _ _ 2 [.int .i64 2] from rfl) (Reps.one (show Kd.M (Kd.int .i64) _ _ _ 3 [.int .i64 3] from rfl) (Reps.one (show Kd.M (Kd.int .i64) _ _ _ 5 [.int .i64 5] from rfl) (Reps.one (show Kd.M (Kd.int .i64) _ _ _ 7 [.int .i64 7] from rfl) (Reps.one (show Kd.M (Kd.int .i64) _ _ _ 11 [.int .i64 11] from rfl) (Reps.none _ _)))))))); intro v319 w34 ho35 hb hg_ hnew_; clear hg_ hnew_; (first | rw [← Ny318.out] at ho35 | (simp only [Int.reduceToNat] at ho35; rw [← Ny318.out] at ho35)); have n0_ := Aside0.mk (Kd.R_lower ho35 (below_size (by repeat (first | (with_reducible first | exact HB.out | apply below_alloc | apply pw_below_drewN | apply below_drew1) | exact HB.out)))); have n1_ := Aside0.mk (below_step (by repeat (first | (with_reducible first | exact HB.out | apply below_alloc | apply pw_below_drewN | apply below_drew1) | exact HB.out)) hb); clear HB; have HO320 := n0_; have HB := n1_; clear n0_ n1_; clear hb ho35; obtain ⟨Ao36, co36, eo36⟩ := Kd.R_slice HO320.out; subst eo36; have p321 : 0 ≤ ((ji15) : Int) := of_decide_eq_true (by first | (with_reducible assumption) | assumption); have q321 : (ji15) < (y318.length : Int) := of_decide_eq_true (by first | (with_reducible assumption) | assumption); obtain ⟨ad321, e321, hx321_0⟩ := Kd.at_int (Kd.R_reads' HO320.out).2.2 (ji15) p321 q321; cases e321; replace p321 := eq_true p321; replace q321 := eq_true q321) | ((with_reducible refine gate_callee (f := 32) rfl ?_); refine goesL_ (some 57) rfl rfl Try.func32 (by kernel_rfl) rfl #[.int .i64 t314, .int .i64 t315, .int .i64 t312, .int .i64 t313] rfl (by (try simp only [List.map_toArray, List.map_cons, List.map_nil]); first | done | rfl | (simp only [List.length_drop, List.length_take]; rfl)) ?_; (with_reducible refine (impl_SymbolSame.calls kj8 t314 t315 t312 t313 true _ A18.out).mono ?_); rintro e w37 ⟨rfl, hb⟩; refine ⟨_, rfl, ?_⟩; have n0_ := Aside0.mk (Kd.R_below (by (with_reducible repeat (first | apply Kd.R_alloc | apply Kd.R_drewN | apply Kd.R_drew)); exact HO320.out) hb); have n1_ := Aside0.mk (below_step (by repeat (first | (with_reducible first | exact HB.out | apply below_alloc | apply pw_below_drewN | apply below_drew1) | exact HB.out)) hb); clear HO320; clear HB; have HO320 := n0_; have HB := n1_; clear n0_ n1_; (try clear hb); (try clear hb2); (try clear hk); (try clear hi)) | (go_at_call 29; (with_reducible refine (impl_SymbolOf.calls kj8 t312 t313 (rd y318 (ji15)) t323 _ A20.out).mono ?_); rintro e w' ⟨rfl, ⟨nd, rfl⟩⟩) | (go_at_call 29; (with_reducible refine (impl_SymbolOf.calls kj8 t314 t315 (rd y318 (ji15)) t324 _ A21.out).mono ?_); rintro e w' ⟨rfl, ⟨nd, rfl⟩⟩))
                      go_ret
                      exact ⟨by first | rfl | (simp [errW_none, errW_some] <;> rfl) | (simp only [← hji15]; first | rfl | (simp [errW_none, errW_some] <;> rfl)) | (simp [*, errW_none, errW_some] <;> rfl), by repeat (first | (with_reducible first | exact HB.out | apply below_alloc | apply pw_below_drewN | apply below_drew1) | exact HB.out)⟩
                  · replace c19 := Bool.eq_false_iff.mpr c19
                    subst c19
                    have H1 : (some false) = some r := by rw [if_neg (show ¬ (false = true) by decide)] at H; exact H
                    clear H
                    have H := H1
                    clear H1
                    obtain rfl := Option.some.inj H
                    go_wp2_with (first | ((with_reducible refine gate_dst (N := 47) rfl ?_); (try (refine gate_guard (by rfl) ?_; dsimp only)); refine Kd.R_lit (Kd.int .i64) _ 3 ?hg (N := 47) ?hd (xs := ([0, 2, 3, 5, 7, 11] : List Int)) (inner := [.int .i64 0, .int .i64 2, .int .i64 3, .int .i64 5, .int .i64 7, .int .i64 11]) (ok := fun _ => True) (okp := fun _ => True) ?hr ?hp (fun _ hk => hk) trivial (Below.refl _ _) (Nat.le_refl _) (by simp) ?_; (case hd => rfl); (case hg => rfl); (case hr => first | (go_simp; done) | (go_simp; rfl)); (case hp => exact (Reps.one (show Kd.M (Kd.int .i64) _ _ _ 0 [.int .i64 0] from rfl) (Reps.one (show Kd.M (Kd.int .i64) _ _ _ 2 [.int .i64 2] from rfl) (Reps.one (show Kd.M (Kd.int .i64) _ _ _ 3 [.int .i64 3] from rfl) (Reps.one (show Kd.M (Kd.int .i64) _ _ _ 5 [.int .i64 5] from rfl) (Reps.one (show Kd.M (Kd.int .i64) _ _ _ 7 [.int .i64 7] from rfl) (Reps.one (show Kd.M (Kd.int .i64) _ _ _ 11 [.int .i64 11] from rfl) (Reps.none _ _)))))))); intro v319 w38 ho39 hb hg_ hnew_; clear hg_ hnew_; (first | rw [← Ny318.out] at ho39 | (simp only [Int.reduceToNat] at ho39; rw [← Ny318.out] at ho39)); have n0_ := Aside0.mk (Kd.R_lower ho39 (below_size (by repeat (first | (with_reducible first | exact HB.out | apply below_alloc | apply pw_below_drewN | apply below_drew1) | exact HB.out)))); have n1_ := Aside0.mk (below_step (by repeat (first | (with_reducible first | exact HB.out | apply below_alloc | apply pw_below_drewN | apply below_drew1) | exact HB.out)) hb); clear HB; have HO320 := n0_; have HB := n1_; clear n0_ n1_; clear hb ho39; obtain ⟨Ao40, co40, eo40⟩ := Kd.R_slice HO320.out; subst eo40; have p321 : 0 ≤ ((ji15) : Int) := of_decide_eq_true (by first | (with_reducible assumption) | assumption); have q321 : (ji15) < (y318.length : Int) := of_decide_eq_true (by first | (with_reducible assumption) | assumption); obtain ⟨ad321, e321, hx321_0⟩ := Kd.at_int (Kd.R_reads' HO320.out).2.2 (ji15) p321 q321; cases e321; replace p321 := eq_true p321; replace q321 := eq_true q321) | ((with_reducible refine gate_callee (f := 32) rfl ?_); refine goesL_ (some 57) rfl rfl Try.func32 (by kernel_rfl) rfl #[.int .i64 t314, .int .i64 t315, .int .i64 t312, .int .i64 t313] rfl (by (try simp only [List.map_toArray, List.map_cons, List.map_nil]); first | done | rfl | (simp only [List.length_drop, List.length_take]; rfl)) ?_; (with_reducible refine (impl_SymbolSame.calls kj8 t314 t315 t312 t313 false _ A18.out).mono ?_); rintro e w41 ⟨rfl, hb⟩; refine ⟨_, rfl, ?_⟩; have n0_ := Aside0.mk (Kd.R_below (by (with_reducible repeat (first | apply Kd.R_alloc | apply Kd.R_drewN | apply Kd.R_drew)); exact HO320.out) hb); have n1_ := Aside0.mk (below_step (by repeat (first | (with_reducible first | exact HB.out | apply below_alloc | apply pw_below_drewN | apply below_drew1) | exact HB.out)) hb); clear HO320; clear HB; have HO320 := n0_; have HB := n1_; clear n0_ n1_; (try clear hb); (try clear hb2); (try clear hk); (try clear hi)))
                    go_ret
                    exact ⟨by first | rfl | (simp [errW_none, errW_some] <;> rfl) | (simp only [← hji15]; first | rfl | (simp [errW_none, errW_some] <;> rfl)) | (simp [*, errW_none, errW_some] <;> rfl), by repeat (first | (with_reducible first | exact HB.out | apply below_alloc | apply pw_below_drewN | apply below_drew1) | exact HB.out)⟩
                · rw [if_neg c17] at H
                  exact absurd H (by simp)
              · rw [if_neg c16] at H
                exact absurd H (by simp)

/-- THE ONE PURE STATEMENT of laws_FnSymbolSame: yours. -/
def laws_FnSymbolSame.Pure : Prop := ∀ (l0 : List Int) (l1 : List Int), l0.length ≤ maxLen → l0.length * 1 ≤ 140737488351232 → (∀ x ∈ l0, (Lit.int .u8 x).wf = true) → l1.length ≤ maxLen → l1.length * 1 ≤ 140737488351232 → (∀ x ∈ l1, (Lit.int .u8 x).wf = true) → ∃ k, laws_FnSymbolSame.f k l0 l1 = some true
theorem laws_FnSymbolSame.walk (P : laws_FnSymbolSame.Pure) (a0 : Option Addr) (len0 cap0 : Nat) (z0 : List Int) (a1 : Option Addr) (len1 cap1 : Nat) (z1 : List Int) (w : World) (w0 : (a0 = none ∧ len0 = 0 ∧ cap0 = 0 ∧ z0 = []) ∨ ∃ x, a0 = some x ∧ len0 ≤ cap0 ∧ cap0 ≤ maxLen ∧ z0.length = cap0 ∧ (∀ i, i < z0.length → w.cell? (x.add i) = some (.int .u8 (z0.getD i 0))) ∧ ∀ n ∈ z0, (Lit.int .u8 n).wf = true) (y0 : len0 * 1 ≤ 140737488351232) (w1 : (a1 = none ∧ len1 = 0 ∧ cap1 = 0 ∧ z1 = []) ∨ ∃ x, a1 = some x ∧ len1 ≤ cap1 ∧ cap1 ≤ maxLen ∧ z1.length = cap1 ∧ (∀ i, i < z1.length → w.cell? (x.add i) = some (.int .u8 (z1.getD i 0))) ∧ ∀ n ∈ z1, (Lit.int .u8 n).wf = true) (y1 : len1 * 1 ≤ 140737488351232) :
    Calls Try.prog 7 #[.slice a0 len0 cap0, .slice a1 len1 cap1] w fun e w' => e = .returned (.bool true) ∧ Below w.heap.size w w' := by
  obtain ⟨l0, rfl, hr0, hm0, hw0, hc0⟩ := ReadsInt.ofRowC w0
  obtain ⟨l1, rfl, hr1, hm1, hw1, hc1⟩ := ReadsInt.ofRowC w1
  obtain ⟨k, h⟩ := P l0 l1 hm0 y0 hw0 hm1 y1 hw1
  refine (laws_FnSymbolSame.calls k _ _ l0 _ _ l1 true w (Kd.C_of_reads (d := (0 : Int)) (h1 := fun _ => rfl) hr0) hc0 (Kd.C_of_reads (d := (0 : Int)) (h1 := fun _ => rfl) hr1) hc1 h).mono ?_
  rintro e w' ⟨rfl, hd⟩
  exact ⟨rfl, hd⟩

end Go.Proofs.Ytcboggdombllcaa.PFnSymbolSame

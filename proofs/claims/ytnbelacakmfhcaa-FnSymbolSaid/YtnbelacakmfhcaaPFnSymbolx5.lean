-- PRINTED BY print.sh 35421559b90ae4d0a3588c463048766b98c2df88dd9212a6774a882060cdf62d: not written by this session
import Derived.Test.YtnbelacakmfhcaaPFnSymbolx0
import Derived.Test.YtnbelacakmfhcaaPFnSymbolx1
import Derived.Test.YtnbelacakmfhcaaPFnSymbolx2
import Derived.Test.YtnbelacakmfhcaaPFnSymbolx3
import Derived.Test.YtnbelacakmfhcaaPFnSymbolx4
namespace Go.Proofs.Ytnbelacakmfhcaa.PFnSymbol
open Go.RowKit Go.Proofs.YtnbelacakmfhcaaW.PrintWords Go.Proofs.YtnbelacakmfhcaaW.PrintLast Go.Proofs.YtnbelacakmfhcaaW.PrintMore
attribute [local go_sem] max2_int min2_int max_two min_two max_three min_three max_four min_four   -- for this text's walks alone
set_option linter.unusedVariables false
set_option linter.unusedSimpArgs false

/-! ### laws_FnSymbol: function 11 -/
mutual
def laws_FnSymbol.j0 : Nat → List Int → List Int → Bool → Option (Bool)
  | 0, _, _, _ => none
  | k + 1, x0, x1, x27 => if x27 = true then (some true) else ((spec_DrawSymbolOf.f k x0).bind fun bt230 => ((impl_SymbolOf.f k bt230.1 bt230.2.1 bt230.2.2).bind fun t233 => ((spec_SymbolOf.f k bt230.1 bt230.2.1 bt230.2.2).bind fun t234 => (if t233 = t234 then (laws_FnSymbol.j1 k x1 bt230.1 bt230.2.1 bt230.2.2 t233 t234 (t233 == 0)) else (laws_FnSymbol.j1 k x1 bt230.1 bt230.2.1 bt230.2.2 t233 t234 true)))))
def laws_FnSymbol.j1 : Nat → List Int → Int → Int → Int → Int → Int → Bool → Option (Bool)
  | 0, _, _, _, _, _, _, _ => none
  | k + 1, x1, x5, x6, x7, x8, x9, x48 => if x48 = true then (some (x8 == x9)) else ((impl_LocalName.f k x5 x7).bind fun bt235 => ((impl_LocalName.f k x6 x7).bind fun bt237 => ((impl_LocalNames.f k x7).bind fun bt239 => (if (bt239.1.length : Int) = 0 then (none) else (if 0 ≤ ((x1.length : Int) % (bt239.1.length : Int)) then (if ((x1.length : Int) % (bt239.1.length : Int)) < (bt239.1.length : Int) then ((impl_LocalMul.f k x6 (rd bt239.1 ((x1.length : Int) % (bt239.1.length : Int))) x7).bind fun bt244 => (if bt235.2 = true then (if bt237.2 = true then (if bt239.2 = true then (if bt244.2 = true then ((impl_SymbolOf.f k x6 x5 x7).bind fun t246 => (if t246 = x8 then ((impl_SymbolOf.f k bt235.1 bt237.1 x7).bind fun t247 => (if t247 = x8 then ((impl_SymbolOf.f k x5 bt244.1 x7).bind fun t248 => ((impl_SymbolOf.f k x5 (rd bt239.1 ((x1.length : Int) % (bt239.1.length : Int))) x7).bind fun t249 => (if t248 = (wrap64 (x8 * t249)) then ((impl_SymbolOf.f k x5 (wrap64 (-x5)) x7).bind fun t250 => (some (t250 == 1))) else (some false)))) else (some false))) else (some false))) else (some false)) else (some false)) else (some false)) else (some false))) else (none)) else (none))))))
end
def laws_FnSymbol.f (k : Nat) (l0 : List Int) (l1 : List Int) : Option (Bool) := if (l0.length : Int) > 1048576 then (laws_FnSymbol.j0 k l0 l1 true) else (laws_FnSymbol.j0 k l0 l1 (decide ((l1.length : Int) > 1048576)))
theorem laws_FnSymbol.mono_l : ∀ k, (∀ y0 y1 y2, LeO (laws_FnSymbol.j0 k y0 y1 y2) (laws_FnSymbol.j0 (k + 1) y0 y1 y2)) ∧ (∀ y0 y1 y2 y3 y4 y5 y6, LeO (laws_FnSymbol.j1 k y0 y1 y2 y3 y4 y5 y6) (laws_FnSymbol.j1 (k + 1) y0 y1 y2 y3 y4 y5 y6))
  | 0 => ⟨fun _ _ _ r h => by simp [laws_FnSymbol.j0] at h, fun _ _ _ _ _ _ _ r h => by simp [laws_FnSymbol.j1] at h⟩
  | k + 1 => by
    obtain ⟨ih0, ih1⟩ := laws_FnSymbol.mono_l k
    refine ⟨?_, ?_⟩
    · intro y0 y1 y2
      unfold laws_FnSymbol.j0
      repeat' first
      | (with_reducible exact ih0 _ _ _)
      | (with_reducible exact ih1 _ _ _ _ _ _ _)
      | (with_reducible exact impl_LocalMul.mono _ _ _ _)
      | (with_reducible exact impl_LocalName.mono _ _ _)
      | (with_reducible exact impl_LocalNames.mono _ _)
      | (with_reducible exact impl_SymbolOf.mono _ _ _ _)
      | (with_reducible exact spec_DrawSymbolOf.mono _ _)
      | (with_reducible exact spec_SymbolOf.mono _ _ _ _)
      | (with_reducible exact LeO.refl _)
      | (with_reducible exact LeO.none _)
      | (with_reducible refine LeO.ite ?_ ?_)
      | (with_reducible refine LeO.bind ?_ (fun _ => ?_))
      | exact ih0 _ _ _
      | exact ih1 _ _ _ _ _ _ _
      | exact impl_LocalMul.mono _ _ _ _
      | exact impl_LocalName.mono _ _ _
      | exact impl_LocalNames.mono _ _
      | exact impl_SymbolOf.mono _ _ _ _
      | exact spec_DrawSymbolOf.mono _ _
      | exact spec_SymbolOf.mono _ _ _ _
      | exact LeO.none _
      | refine LeO.ite ?_ ?_
      | refine LeO.bind ?_ (fun _ => ?_)
    · intro y0 y1 y2 y3 y4 y5 y6
      unfold laws_FnSymbol.j1
      repeat' first
      | (with_reducible exact ih0 _ _ _)
      | (with_reducible exact ih1 _ _ _ _ _ _ _)
      | (with_reducible exact impl_LocalMul.mono _ _ _ _)
      | (with_reducible exact impl_LocalName.mono _ _ _)
      | (with_reducible exact impl_LocalNames.mono _ _)
      | (with_reducible exact impl_SymbolOf.mono _ _ _ _)
      | (with_reducible exact spec_DrawSymbolOf.mono _ _)
      | (with_reducible exact spec_SymbolOf.mono _ _ _ _)
      | (with_reducible exact LeO.refl _)
      | (with_reducible exact LeO.none _)
      | (with_reducible refine LeO.ite ?_ ?_)
      | (with_reducible refine LeO.bind ?_ (fun _ => ?_))
      | exact ih0 _ _ _
      | exact ih1 _ _ _ _ _ _ _
      | exact impl_LocalMul.mono _ _ _ _
      | exact impl_LocalName.mono _ _ _
      | exact impl_LocalNames.mono _ _
      | exact impl_SymbolOf.mono _ _ _ _
      | exact spec_DrawSymbolOf.mono _ _
      | exact spec_SymbolOf.mono _ _ _ _
      | exact LeO.none _
      | refine LeO.ite ?_ ?_
      | refine LeO.bind ?_ (fun _ => ?_)
theorem laws_FnSymbol.mono : ∀ a0 a1 k, LeO (laws_FnSymbol.f k a0 a1) (laws_FnSymbol.f (k + 1) a0 a1) := by
  intro a0 a1 k
  obtain ⟨ih0, ih1⟩ := laws_FnSymbol.mono_l k
  unfold laws_FnSymbol.f
  repeat' first
      | (with_reducible exact ih0 _ _ _)
      | (with_reducible exact ih1 _ _ _ _ _ _ _)
      | (with_reducible exact impl_LocalMul.mono _ _ _ _)
      | (with_reducible exact impl_LocalName.mono _ _ _)
      | (with_reducible exact impl_LocalNames.mono _ _)
      | (with_reducible exact impl_SymbolOf.mono _ _ _ _)
      | (with_reducible exact spec_DrawSymbolOf.mono _ _)
      | (with_reducible exact spec_SymbolOf.mono _ _ _ _)
      | (with_reducible exact LeO.refl _)
      | (with_reducible exact LeO.none _)
      | (with_reducible refine LeO.ite ?_ ?_)
      | (with_reducible refine LeO.bind ?_ (fun _ => ?_))
      | exact ih0 _ _ _
      | exact ih1 _ _ _ _ _ _ _
      | exact impl_LocalMul.mono _ _ _ _
      | exact impl_LocalName.mono _ _ _
      | exact impl_LocalNames.mono _ _
      | exact impl_SymbolOf.mono _ _ _ _
      | exact spec_DrawSymbolOf.mono _ _
      | exact spec_SymbolOf.mono _ _ _ _
      | exact LeO.none _
      | refine LeO.ite ?_ ?_
      | refine LeO.bind ?_ (fun _ => ?_)
set_option maxHeartbeats 8000000 in
set_option maxRecDepth 100000 in
theorem laws_FnSymbol.calls (k : Nat) (A0 : Option Addr) (c0 : Nat) (l0 : List Int) (A1 : Option Addr) (c1 : Nat) (l1 : List Int) (r : Bool) (w : World) (hr0 : Kd.C (Kd.int .u8) w A0 l0.length l0) (hc0 : l0.length ≤ c0) (hr1 : Kd.C (Kd.int .u8) w A1 l1.length l1) (hc1 : l1.length ≤ c1) (h : laws_FnSymbol.f k l0 l1 = some r) :
    Calls Try.prog 11 #[.slice A0 l0.length c0, .slice A1 l1.length c1] w fun e w' => e = .returned (.bool r) ∧ Below w.heap.size w w' := by
  have HR0 := Aside0.mk hr0
  have HC0 := Aside0.mk hc0
  clear hr0 hc0
  have HR1 := Aside0.mk hr1
  have HC1 := Aside0.mk hc1
  clear hr1 hc1
  have HB := Aside0.mk (Below.refl w.heap.size w)
  have H : (if (l0.length : Int) > 1048576 then (laws_FnSymbol.j0 k l0 l1 true) else (laws_FnSymbol.j0 k l0 l1 (decide ((l1.length : Int) > 1048576)))) = some r := h
  clear h
  have HC3 := Aside0.mk H
  clear H
  go_enter Try.func11, Try.ntmps11
  go_upto_region 1 with (fail)
  go_cut [27] (fun v27 wc => ∃ (kq : Nat) (x27_2 : Bool), v27 = .bool x27_2 ∧ Aside0 (laws_FnSymbol.j0 kq l0 l1 x27_2 = some r) ∧ Aside0 (kq ≤ k) ∧ Aside0 (Below w.heap.size w wc))
  case first =>
    have H := HC3.out
    clear HC3
    by_cases c4 : (l0.length : Int) > 1048576
    · rw [if_pos c4] at H
      have c4b0 : decide (1048576 < (l0.length : Int)) = true := decide_eq_true c4
      have c4b1 : decide (1048576 < l0.length) = true := decide_eq_true (by omega)
      clear c4
      (first | rw [c4b0] | (simp only [i64_w, i32_w]; rw [c4b0]) | skip)
      have H' := Aside0.mk H
      clear H
      go_wp2
      go_meet
      case rel => exact ⟨_, (true), (by first | rfl | (simp; done) | (simp [*]; done)), H', ⟨by first | omega | exact Nat.le_refl _⟩, ⟨by repeat (first | (with_reducible first | exact HB.out | apply below_alloc | apply pw_below_drewN | apply below_drew1) | exact HB.out)⟩⟩
    · rw [if_neg c4] at H
      have c4b0 : decide (1048576 < (l0.length : Int)) = false := decide_eq_false c4
      have c4b1 : decide (1048576 < l0.length) = false := decide_eq_false (by omega)
      clear c4
      (first | rw [c4b0] | (simp only [i64_w, i32_w]; rw [c4b0]) | skip)
      have H' := Aside0.mk H
      clear H
      go_wp2
      go_meet
      case rel => exact ⟨_, (decide ((l1.length : Int) > 1048576)), (by first | rfl | (simp; done) | (simp [*]; done)), H', ⟨by first | omega | exact Nat.le_refl _⟩, ⟨by repeat (first | (with_reducible first | exact HB.out | apply below_alloc | apply pw_below_drewN | apply below_drew1) | exact HB.out)⟩⟩
  case rest =>
    clear HC3
    try clear c1
    try clear p2
    try clear c4
    try clear c4b0
    try clear c4b1
    obtain ⟨kq, x27_2, rfl, HA, HJ2, HB⟩ := hcut
    cases kq with
    | zero => exact absurd HA.out (by simp [laws_FnSymbol.j0])
    | succ kj2 =>
      have H := HA.out
      clear HA
      simp only [laws_FnSymbol.j0] at H
      by_cases c5 : x27_2 = true
      · subst c5
        have H1 : (some true) = some r := by rw [if_pos rfl] at H; exact H
        clear H
        have H := H1
        clear H1
        obtain rfl := Option.some.inj H
        go_wp2
        go_ret
        exact ⟨by first | rfl | (simp [errW_none, errW_some] <;> rfl) | (simp [*, errW_none, errW_some] <;> rfl), by repeat (first | (with_reducible first | exact HB.out | apply below_alloc | apply pw_below_drewN | apply below_drew1) | exact HB.out)⟩
      · replace c5 := Bool.eq_false_iff.mpr c5
        subst c5
        have H1 : ((spec_DrawSymbolOf.f kj2 l0).bind fun bt230 => ((impl_SymbolOf.f kj2 bt230.1 bt230.2.1 bt230.2.2).bind fun t233 => ((spec_SymbolOf.f kj2 bt230.1 bt230.2.1 bt230.2.2).bind fun t234 => (if t233 = t234 then (laws_FnSymbol.j1 kj2 l1 bt230.1 bt230.2.1 bt230.2.2 t233 t234 (t233 == 0)) else (laws_FnSymbol.j1 kj2 l1 bt230.1 bt230.2.1 bt230.2.2 t233 t234 true))))) = some r := by rw [if_neg (show ¬ (false = true) by decide)] at H; exact H
        clear H
        have H := H1
        clear H1
        replace H := Option.bind_eq_some_iff.mp H
        obtain ⟨⟨t230, t231, t232⟩, A60, H⟩ := H
        replace H : ((impl_SymbolOf.f kj2 t230 t231 t232).bind fun t233 => ((spec_SymbolOf.f kj2 t230 t231 t232).bind fun t234 => (if t233 = t234 then (laws_FnSymbol.j1 kj2 l1 t230 t231 t232 t233 t234 (t233 == 0)) else (laws_FnSymbol.j1 kj2 l1 t230 t231 t232 t233 t234 true)))) = some r := H
        have A6 := Aside0.mk A60
        clear A60
        replace H := Option.bind_eq_some_iff.mp H
        obtain ⟨t233, A70, H⟩ := H
        replace H : ((spec_SymbolOf.f kj2 t230 t231 t232).bind fun t234 => (if t233 = t234 then (laws_FnSymbol.j1 kj2 l1 t230 t231 t232 t233 t234 (t233 == 0)) else (laws_FnSymbol.j1 kj2 l1 t230 t231 t232 t233 t234 true))) = some r := H
        have A7 := Aside0.mk A70
        clear A70
        replace H := Option.bind_eq_some_iff.mp H
        obtain ⟨t234, A80, H⟩ := H
        replace H : (if t233 = t234 then (laws_FnSymbol.j1 kj2 l1 t230 t231 t232 t233 t234 (t233 == 0)) else (laws_FnSymbol.j1 kj2 l1 t230 t231 t232 t233 t234 true)) = some r := H
        have A8 := Aside0.mk A80
        clear A80
        have HC9 := Aside0.mk H
        clear H
        go_upto_region 6 with (first | ((with_reducible refine gate_callee (f := 28) rfl ?_); refine goesL_ (some 30) rfl rfl Try.func28 (by kernel_rfl) rfl #[.slice A0 l0.length c0] rfl (by (try simp only [List.map_toArray, List.map_cons, List.map_nil]); first | done | rfl | (simp only [List.length_drop, List.length_take]; rfl)) ?_; (with_reducible refine (spec_DrawSymbolOf.calls kj2 _ _ l0 t230 t231 t232 _ ?side1 ?side2 A6.out).mono ?_); (case side1 => repeat (first | exact (Kd.C_below HR0.out HB.out) | (with_reducible refine Kd.C_alloc ?_ _) | (with_reducible refine Kd.C_drewN ?_ _) | (with_reducible refine Kd.C_drew ?_))); (case side2 => exact HC0.out); rintro e w10 ⟨rfl, hb⟩; refine ⟨_, rfl, ?_⟩; have n0_ := Aside0.mk (below_step (by repeat (first | (with_reducible first | exact HB.out | apply below_alloc | apply pw_below_drewN | apply below_drew1) | exact HB.out)) hb); clear HB; have HB := n0_; clear n0_; (try clear hb); (try clear hb2); (try clear hk); (try clear hi)) | ((with_reducible refine gate_callee (f := 29) rfl ?_); refine goesL_ (some 37) rfl rfl Try.func29 (by kernel_rfl) rfl #[.int .i64 t230, .int .i64 t231, .int .i64 t232] rfl (by (try simp only [List.map_toArray, List.map_cons, List.map_nil]); first | done | rfl | (simp only [List.length_drop, List.length_take]; rfl)) ?_; (with_reducible refine (impl_SymbolOf.calls kj2 t230 t231 t232 t233 _ A7.out).mono ?_); rintro e w' ⟨rfl, ⟨nd, rfl⟩⟩; refine ⟨_, rfl, ?_⟩) | ((with_reducible refine gate_callee (f := 30) rfl ?_); refine goesL_ (some 41) rfl rfl Try.func30 (by kernel_rfl) rfl #[.int .i64 t230, .int .i64 t231, .int .i64 t232] rfl (by (try simp only [List.map_toArray, List.map_cons, List.map_nil]); first | done | rfl | (simp only [List.length_drop, List.length_take]; rfl)) ?_; (with_reducible refine (spec_SymbolOf.calls kj2 t230 t231 t232 t234 _ A8.out).mono ?_); rintro e w' ⟨rfl, ⟨nd, rfl⟩⟩; refine ⟨_, rfl, ?_⟩))
        (try simp only [Act.put, List.setIfInBounds_toArray, List.set_cons_zero, List.set_cons_succ])
        go_cut [48] (fun v48 wc => ∃ (kq : Nat) (x48_8 : Bool), v48 = .bool x48_8 ∧ Aside0 (laws_FnSymbol.j1 kq l1 t230 t231 t232 t233 t234 x48_8 = some r) ∧ Aside0 (kq ≤ kj2) ∧ Aside0 (Below w.heap.size w wc))
        case first =>
          have H := HC9.out
          clear HC9
          by_cases c11 : t233 = t234
          · rw [if_pos c11] at H
            have c11b0 : (t233 == t234) = true := beq_iff_eq.mpr c11
            have c11b1 : (t233 != t234) = false := bne_eq_false_iff_eq.mpr c11
            clear c11
            (first | rw [c11b0] | (simp only [i64_w, i32_w]; rw [c11b0]) | skip)
            have H' := Aside0.mk H
            clear H
            go_wp2
            go_meet
            case rel => exact ⟨_, ((t233 == 0)), (by first | rfl | (simp; done) | (simp [*]; done)), H', ⟨by have := HJ2.out; first | omega | exact Nat.le_refl _⟩, ⟨by repeat (first | (with_reducible first | exact HB.out | apply below_alloc | apply pw_below_drewN | apply below_drew1) | exact HB.out)⟩⟩
          · rw [if_neg c11] at H
            have c11b0 : (t233 == t234) = false := beq_eq_false_iff_ne.mpr c11
            have c11b1 : (t233 != t234) = true := bne_iff_ne.mpr c11
            (first | rw [c11b0] | (simp only [i64_w, i32_w]; rw [c11b0]) | skip)
            have H' := Aside0.mk H
            clear H
            go_wp2
            go_meet
            case rel => exact ⟨_, (true), (by first | rfl | (simp; done) | (simp [*]; done)), H', ⟨by have := HJ2.out; first | omega | exact Nat.le_refl _⟩, ⟨by repeat (first | (with_reducible first | exact HB.out | apply below_alloc | apply pw_below_drewN | apply below_drew1) | exact HB.out)⟩⟩
        case rest =>
          clear HC9
          try clear c1
          try clear c2
          try clear p2
          try clear c3
          try clear c4
          try clear c4b0
          try clear c4b1
          try clear c5
          try clear c11
          try clear c11b0
          try clear c11b1
          try clear p2
          obtain ⟨kq, x48_8, rfl, HA, HJ8, HB⟩ := hcut
          cases kq with
          | zero => exact absurd HA.out (by simp [laws_FnSymbol.j1])
          | succ kj8 =>
            have H := HA.out
            clear HA
            simp only [laws_FnSymbol.j1] at H
            by_cases c12 : x48_8 = true
            · subst c12
              have H1 : (some (t233 == t234)) = some r := by rw [if_pos rfl] at H; exact H
              clear H
              have H := H1
              clear H1
              obtain rfl := Option.some.inj H
              go_wp2
              go_ret
              exact ⟨by first | rfl | (simp [errW_none, errW_some] <;> rfl) | (simp [*, errW_none, errW_some] <;> rfl), by repeat (first | (with_reducible first | exact HB.out | apply below_alloc | apply pw_below_drewN | apply below_drew1) | exact HB.out)⟩
            · replace c12 := Bool.eq_false_iff.mpr c12
              subst c12
              have H1 : ((impl_LocalName.f kj8 t230 t232).bind fun bt235 => ((impl_LocalName.f kj8 t231 t232).bind fun bt237 => ((impl_LocalNames.f kj8 t232).bind fun bt239 => (if (bt239.1.length : Int) = 0 then (none) else (if 0 ≤ ((l1.length : Int) % (bt239.1.length : Int)) then (if ((l1.length : Int) % (bt239.1.length : Int)) < (bt239.1.length : Int) then ((impl_LocalMul.f kj8 t231 (rd bt239.1 ((l1.length : Int) % (bt239.1.length : Int))) t232).bind fun bt244 => (if bt235.2 = true then (if bt237.2 = true then (if bt239.2 = true then (if bt244.2 = true then ((impl_SymbolOf.f kj8 t231 t230 t232).bind fun t246 => (if t246 = t233 then ((impl_SymbolOf.f kj8 bt235.1 bt237.1 t232).bind fun t247 => (if t247 = t233 then ((impl_SymbolOf.f kj8 t230 bt244.1 t232).bind fun t248 => ((impl_SymbolOf.f kj8 t230 (rd bt239.1 ((l1.length : Int) % (bt239.1.length : Int))) t232).bind fun t249 => (if t248 = (wrap64 (t233 * t249)) then ((impl_SymbolOf.f kj8 t230 (wrap64 (-t230)) t232).bind fun t250 => (some (t250 == 1))) else (some false)))) else (some false))) else (some false))) else (some false)) else (some false)) else (some false)) else (some false))) else (none)) else (none)))))) = some r := by rw [if_neg (show ¬ (false = true) by decide)] at H; exact H
              clear H
              have H := H1
              clear H1
              replace H := Option.bind_eq_some_iff.mp H
              obtain ⟨⟨t235, t236⟩, A130, H⟩ := H
              replace H : ((impl_LocalName.f kj8 t231 t232).bind fun bt237 => ((impl_LocalNames.f kj8 t232).bind fun bt239 => (if (bt239.1.length : Int) = 0 then (none) else (if 0 ≤ ((l1.length : Int) % (bt239.1.length : Int)) then (if ((l1.length : Int) % (bt239.1.length : Int)) < (bt239.1.length : Int) then ((impl_LocalMul.f kj8 t231 (rd bt239.1 ((l1.length : Int) % (bt239.1.length : Int))) t232).bind fun bt244 => (if t236 = true then (if bt237.2 = true then (if bt239.2 = true then (if bt244.2 = true then ((impl_SymbolOf.f kj8 t231 t230 t232).bind fun t246 => (if t246 = t233 then ((impl_SymbolOf.f kj8 t235 bt237.1 t232).bind fun t247 => (if t247 = t233 then ((impl_SymbolOf.f kj8 t230 bt244.1 t232).bind fun t248 => ((impl_SymbolOf.f kj8 t230 (rd bt239.1 ((l1.length : Int) % (bt239.1.length : Int))) t232).bind fun t249 => (if t248 = (wrap64 (t233 * t249)) then ((impl_SymbolOf.f kj8 t230 (wrap64 (-t230)) t232).bind fun t250 => (some (t250 == 1))) else (some false)))) else (some false))) else (some false))) else (some false)) else (some false)) else (some false)) else (some false))) else (none)) else (none))))) = some r := H
              have A13 := Aside0.mk A130
              clear A130
              replace H := Option.bind_eq_some_iff.mp H
              obtain ⟨⟨t237, t238⟩, A140, H⟩ := H
              replace H : ((impl_LocalNames.f kj8 t232).bind fun bt239 => (if (bt239.1.length : Int) = 0 then (none) else (if 0 ≤ ((l1.length : Int) % (bt239.1.length : Int)) then (if ((l1.length : Int) % (bt239.1.length : Int)) < (bt239.1.length : Int) then ((impl_LocalMul.f kj8 t231 (rd bt239.1 ((l1.length : Int) % (bt239.1.length : Int))) t232).bind fun bt244 => (if t236 = true then (if t238 = true then (if bt239.2 = true then (if bt244.2 = true then ((impl_SymbolOf.f kj8 t231 t230 t232).bind fun t246 => (if t246 = t233 then ((impl_SymbolOf.f kj8 t235 t237 t232).bind fun t247 => (if t247 = t233 then ((impl_SymbolOf.f kj8 t230 bt244.1 t232).bind fun t248 => ((impl_SymbolOf.f kj8 t230 (rd bt239.1 ((l1.length : Int) % (bt239.1.length : Int))) t232).bind fun t249 => (if t248 = (wrap64 (t233 * t249)) then ((impl_SymbolOf.f kj8 t230 (wrap64 (-t230)) t232).bind fun t250 => (some (t250 == 1))) else (some false)))) else (some false))) else (some false))) else (some false)) else (some false)) else (some false)) else (some false))) else (none)) else (none)))) = some r := H
              have A14 := Aside0.mk A140
              clear A140
              replace H := Option.bind_eq_some_iff.mp H
              obtain ⟨⟨t239, t240⟩, A150, H⟩ := H
              replace H : (if (t239.length : Int) = 0 then (none) else (if 0 ≤ ((l1.length : Int) % (t239.length : Int)) then (if ((l1.length : Int) % (t239.length : Int)) < (t239.length : Int) then ((impl_LocalMul.f kj8 t231 (rd t239 ((l1.length : Int) % (t239.length : Int))) t232).bind fun bt244 => (if t236 = true then (if t238 = true then (if t240 = true then (if bt244.2 = true then ((impl_SymbolOf.f kj8 t231 t230 t232).bind fun t246 => (if t246 = t233 then ((impl_SymbolOf.f kj8 t235 t237 t232).bind fun t247 => (if t247 = t233 then ((impl_SymbolOf.f kj8 t230 bt244.1 t232).bind fun t248 => ((impl_SymbolOf.f kj8 t230 (rd t239 ((l1.length : Int) % (t239.length : Int))) t232).bind fun t249 => (if t248 = (wrap64 (t233 * t249)) then ((impl_SymbolOf.f kj8 t230 (wrap64 (-t230)) t232).bind fun t250 => (some (t250 == 1))) else (some false)))) else (some false))) else (some false))) else (some false)) else (some false)) else (some false)) else (some false))) else (none)) else (none))) = some r := H
              have A15 := Aside0.mk A150
              clear A150
              by_cases c16 : (t239.length : Int) = 0
              · rw [if_pos c16] at H
                exact absurd H (by simp)
              · rw [if_neg c16] at H
                have c16b0 : ((t239.length : Int) == 0) = false := beq_eq_false_iff_ne.mpr c16
                have c16b1 : ((t239.length : Int) != 0) = true := bne_iff_ne.mpr c16
                have c16b2 : ¬ (t239 = []) := fun h_ => c16 (by rw [h_]; rfl)
                obtain ⟨ji17, hji17⟩ : ∃ j_ : Int, ((l1.length : Int) % (t239.length : Int)) = j_ := ⟨_, rfl⟩
                replace H : (if 0 ≤ (ji17) then (if (ji17) < (t239.length : Int) then ((impl_LocalMul.f kj8 t231 (rd t239 (ji17)) t232).bind fun bt244 => (if t236 = true then (if t238 = true then (if t240 = true then (if bt244.2 = true then ((impl_SymbolOf.f kj8 t231 t230 t232).bind fun t246 => (if t246 = t233 then ((impl_SymbolOf.f kj8 t235 t237 t232).bind fun t247 => (if t247 = t233 then ((impl_SymbolOf.f kj8 t230 bt244.1 t232).bind fun t248 => ((impl_SymbolOf.f kj8 t230 (rd t239 (ji17)) t232).bind fun t249 => (if t248 = (wrap64 (t233 * t249)) then ((impl_SymbolOf.f kj8 t230 (wrap64 (-t230)) t232).bind fun t250 => (some (t250 == 1))) else (some false)))) else (some false))) else (some false))) else (some false)) else (some false)) else (some false)) else (some false))) else (none)) else (none)) = some r := by first | (rw [hji17] at H; exact H) | (simp only [hji17] at H ⊢; exact H)
                (try rw [hji17] at A13)
                (try rw [hji17] at A14)
                (try rw [hji17] at A15)
                by_cases c18 : 0 ≤ (ji17)
                · rw [if_pos c18] at H
                  have c18b0 : decide (0 ≤ (ji17)) = true := decide_eq_true c18
                  clear c18
                  by_cases c19 : (ji17) < (t239.length : Int)
                  · rw [if_pos c19] at H
                    have c19b0 : decide ((ji17) < (t239.length : Int)) = true := decide_eq_true c19
                    clear c19
                    replace H := Option.bind_eq_some_iff.mp H
                    obtain ⟨⟨t244, t245⟩, A200, H⟩ := H
                    replace H : (if t236 = true then (if t238 = true then (if t240 = true then (if t245 = true then ((impl_SymbolOf.f kj8 t231 t230 t232).bind fun t246 => (if t246 = t233 then ((impl_SymbolOf.f kj8 t235 t237 t232).bind fun t247 => (if t247 = t233 then ((impl_SymbolOf.f kj8 t230 t244 t232).bind fun t248 => ((impl_SymbolOf.f kj8 t230 (rd t239 (ji17)) t232).bind fun t249 => (if t248 = (wrap64 (t233 * t249)) then ((impl_SymbolOf.f kj8 t230 (wrap64 (-t230)) t232).bind fun t250 => (some (t250 == 1))) else (some false)))) else (some false))) else (some false))) else (some false)) else (some false)) else (some false)) else (some false)) = some r := H
                    have A20 := Aside0.mk A200
                    clear A200
                    by_cases c21 : t236 = true
                    · subst c21
                      have H1 : (if t238 = true then (if t240 = true then (if t245 = true then ((impl_SymbolOf.f kj8 t231 t230 t232).bind fun t246 => (if t246 = t233 then ((impl_SymbolOf.f kj8 t235 t237 t232).bind fun t247 => (if t247 = t233 then ((impl_SymbolOf.f kj8 t230 t244 t232).bind fun t248 => ((impl_SymbolOf.f kj8 t230 (rd t239 (ji17)) t232).bind fun t249 => (if t248 = (wrap64 (t233 * t249)) then ((impl_SymbolOf.f kj8 t230 (wrap64 (-t230)) t232).bind fun t250 => (some (t250 == 1))) else (some false)))) else (some false))) else (some false))) else (some false)) else (some false)) else (some false)) = some r := by rw [if_pos rfl] at H; exact H
                      clear H
                      have H := H1
                      clear H1
                      by_cases c22 : t238 = true
                      · subst c22
                        have H1 : (if t240 = true then (if t245 = true then ((impl_SymbolOf.f kj8 t231 t230 t232).bind fun t246 => (if t246 = t233 then ((impl_SymbolOf.f kj8 t235 t237 t232).bind fun t247 => (if t247 = t233 then ((impl_SymbolOf.f kj8 t230 t244 t232).bind fun t248 => ((impl_SymbolOf.f kj8 t230 (rd t239 (ji17)) t232).bind fun t249 => (if t248 = (wrap64 (t233 * t249)) then ((impl_SymbolOf.f kj8 t230 (wrap64 (-t230)) t232).bind fun t250 => (some (t250 == 1))) else (some false)))) else (some false))) else (some false))) else (some false)) else (some false)) = some r := by rw [if_pos rfl] at H; exact H
                        clear H
                        have H := H1
                        clear H1
                        by_cases c23 : t240 = true
                        · subst c23
                          have H1 : (if t245 = true then ((impl_SymbolOf.f kj8 t231 t230 t232).bind fun t246 => (if t246 = t233 then ((impl_SymbolOf.f kj8 t235 t237 t232).bind fun t247 => (if t247 = t233 then ((impl_SymbolOf.f kj8 t230 t244 t232).bind fun t248 => ((impl_SymbolOf.f kj8 t230 (rd t239 (ji17)) t232).bind fun t249 => (if t248 = (wrap64 (t233 * t249)) then ((impl_SymbolOf.f kj8 t230 (wrap64 (-t230)) t232).bind fun t250 => (some (t250 == 1))) else (some false)))) else (some false))) else (some false))) else (some false)) = some r := by rw [if_pos rfl] at H; exact H
                          clear H
                          have H := H1
                          clear H1
                          by_cases c24 : t245 = true
                          · subst c24
                            have H1 : ((impl_SymbolOf.f kj8 t231 t230 t232).bind fun t246 => (if t246 = t233 then ((impl_SymbolOf.f kj8 t235 t237 t232).bind fun t247 => (if t247 = t233 then ((impl_SymbolOf.f kj8 t230 t244 t232).bind fun t248 => ((impl_SymbolOf.f kj8 t230 (rd t239 (ji17)) t232).bind fun t249 => (if t248 = (wrap64 (t233 * t249)) then ((impl_SymbolOf.f kj8 t230 (wrap64 (-t230)) t232).bind fun t250 => (some (t250 == 1))) else (some false)))) else (some false))) else (some false))) = some r := by rw [if_pos rfl] at H; exact H
                            clear H
                            have H := H1
                            clear H1
                            replace H := Option.bind_eq_some_iff.mp H
                            obtain ⟨t246, A250, H⟩ := H
                            replace H : (if t246 = t233 then ((impl_SymbolOf.f kj8 t235 t237 t232).bind fun t247 => (if t247 = t233 then ((impl_SymbolOf.f kj8 t230 t244 t232).bind fun t248 => ((impl_SymbolOf.f kj8 t230 (rd t239 (ji17)) t232).bind fun t249 => (if t248 = (wrap64 (t233 * t249)) then ((impl_SymbolOf.f kj8 t230 (wrap64 (-t230)) t232).bind fun t250 => (some (t250 == 1))) else (some false)))) else (some false))) else (some false)) = some r := H
                            have A25 := Aside0.mk A250
                            clear A250
                            by_cases c26 : t246 = t233
                            · rw [if_pos c26] at H
                              have c26b0 : (t246 == t233) = true := beq_iff_eq.mpr c26
                              have c26b1 : (t246 != t233) = false := bne_eq_false_iff_eq.mpr c26
                              clear c26
                              replace H := Option.bind_eq_some_iff.mp H
                              obtain ⟨t247, A270, H⟩ := H
                              replace H : (if t247 = t233 then ((impl_SymbolOf.f kj8 t230 t244 t232).bind fun t248 => ((impl_SymbolOf.f kj8 t230 (rd t239 (ji17)) t232).bind fun t249 => (if t248 = (wrap64 (t233 * t249)) then ((impl_SymbolOf.f kj8 t230 (wrap64 (-t230)) t232).bind fun t250 => (some (t250 == 1))) else (some false)))) else (some false)) = some r := H
                              have A27 := Aside0.mk A270
                              clear A270
                              by_cases c28 : t247 = t233
                              · rw [if_pos c28] at H
                                have c28b0 : (t247 == t233) = true := beq_iff_eq.mpr c28
                                have c28b1 : (t247 != t233) = false := bne_eq_false_iff_eq.mpr c28
                                clear c28
                                replace H := Option.bind_eq_some_iff.mp H
                                obtain ⟨t248, A290, H⟩ := H
                                replace H : ((impl_SymbolOf.f kj8 t230 (rd t239 (ji17)) t232).bind fun t249 => (if t248 = (wrap64 (t233 * t249)) then ((impl_SymbolOf.f kj8 t230 (wrap64 (-t230)) t232).bind fun t250 => (some (t250 == 1))) else (some false))) = some r := H
                                have A29 := Aside0.mk A290
                                clear A290
                                replace H := Option.bind_eq_some_iff.mp H
                                obtain ⟨t249, A300, H⟩ := H
                                replace H : (if t248 = (wrap64 (t233 * t249)) then ((impl_SymbolOf.f kj8 t230 (wrap64 (-t230)) t232).bind fun t250 => (some (t250 == 1))) else (some false)) = some r := H
                                have A30 := Aside0.mk A300
                                clear A300
                                by_cases c31 : t248 = (wrap64 (t233 * t249))
                                · rw [if_pos c31] at H
                                  have c31b0 : (t248 == (wrap64 (t233 * t249))) = true := beq_iff_eq.mpr c31
                                  have c31b1 : (t248 != (wrap64 (t233 * t249))) = false := bne_eq_false_iff_eq.mpr c31
                                  clear c31
                                  replace H := Option.bind_eq_some_iff.mp H
                                  obtain ⟨t250, A320, H⟩ := H
                                  replace H : (some (t250 == 1)) = some r := H
                                  have A32 := Aside0.mk A320
                                  clear A320
                                  obtain rfl := Option.some.inj H
                                  go_wp2_with (first | ((with_reducible refine gate_callee (f := 36) rfl ?_); refine goesL_ (some 55) rfl rfl Try.func36 (by kernel_rfl) rfl #[.int .i64 t230, .int .i64 t232] rfl (by (try simp only [List.map_toArray, List.map_cons, List.map_nil]); first | done | rfl | (simp only [List.length_drop, List.length_take]; rfl)) ?_; (with_reducible refine (impl_LocalName.calls kj8 t230 t232 t235 true _ A13.out).mono ?_); rintro e w33 ⟨rfl, hb⟩; refine ⟨_, rfl, ?_⟩; have n0_ := Aside0.mk (below_step (by repeat (first | (with_reducible first | exact HB.out | apply below_alloc | apply pw_below_drewN | apply below_drew1) | exact HB.out)) hb); clear HB; have HB := n0_; clear n0_; (try clear hb); (try clear hb2); (try clear hk); (try clear hi)) | ((with_reducible refine gate_callee (f := 36) rfl ?_); refine goesL_ (some 61) rfl rfl Try.func36 (by kernel_rfl) rfl #[.int .i64 t231, .int .i64 t232] rfl (by (try simp only [List.map_toArray, List.map_cons, List.map_nil]); first | done | rfl | (simp only [List.length_drop, List.length_take]; rfl)) ?_; (with_reducible refine (impl_LocalName.calls kj8 t231 t232 t237 true _ A14.out).mono ?_); rintro e w34 ⟨rfl, hb⟩; refine ⟨_, rfl, ?_⟩; have n0_ := Aside0.mk (below_step (by repeat (first | (with_reducible first | exact HB.out | apply below_alloc | apply pw_below_drewN | apply below_drew1) | exact HB.out)) hb); clear HB; have HB := n0_; clear n0_; (try clear hb); (try clear hb2); (try clear hk); (try clear hi)) | ((with_reducible refine gate_callee (f := 37) rfl ?_); refine goesL_ (some 66) rfl rfl Try.func37 (by kernel_rfl) rfl #[.int .i64 t232] rfl (by (try simp only [List.map_toArray, List.map_cons, List.map_nil]); first | done | rfl | (simp only [List.length_drop, List.length_take]; rfl)) ?_; (with_reducible refine (impl_LocalNames.calls kj8 t232 t239 true _ A15.out).mono ?_); rintro e w35 ⟨v241, rfl, ho0, hb⟩; refine ⟨_, rfl, ?_⟩; have n0_ := Aside0.mk (Kd.R_lower ho0 (below_size (by repeat (first | (with_reducible first | exact HB.out | apply below_alloc | apply pw_below_drewN | apply below_drew1) | exact HB.out)))); have n1_ := Aside0.mk (below_step (by repeat (first | (with_reducible first | exact HB.out | apply below_alloc | apply pw_below_drewN | apply below_drew1) | exact HB.out)) hb); clear HB; have HO242 := n0_; have HB := n1_; clear n0_ n1_; (try clear hb); (try clear hb2); (try clear hk); (try clear hi); (try clear ho0); obtain ⟨Ao36, co36, eo36⟩ := Kd.R_slice HO242.out; subst eo36; have p243 : 0 ≤ ((ji17) : Int) := of_decide_eq_true (by first | (with_reducible assumption) | assumption); have q243 : (ji17) < (t239.length : Int) := of_decide_eq_true (by first | (with_reducible assumption) | assumption); obtain ⟨ad243, e243, hx243_0⟩ := Kd.at_int (Kd.R_reads' HO242.out).2.2 (ji17) p243 q243; cases e243; replace p243 := eq_true p243; replace q243 := eq_true q243) | ((with_reducible refine gate_callee (f := 38) rfl ?_); refine goesL_ (some 81) rfl rfl Try.func38 (by kernel_rfl) rfl #[.int .i64 t231, .int .i64 (rd t239 (ji17)), .int .i64 t232] rfl (by (try simp only [List.map_toArray, List.map_cons, List.map_nil]); first | done | (simp only [hji17]; rfl) | rfl | (simp only [List.length_drop, List.length_take]; rfl)) ?_; (with_reducible refine (impl_LocalMul.calls kj8 t231 (rd t239 (ji17)) t232 t244 true _ A20.out).mono ?_); rintro e w37 ⟨rfl, hb⟩; refine ⟨_, rfl, ?_⟩; have n0_ := Aside0.mk (Kd.R_below (by (with_reducible repeat (first | apply Kd.R_alloc | apply Kd.R_drewN | apply Kd.R_drew)); exact HO242.out) hb); have n1_ := Aside0.mk (below_step (by repeat (first | (with_reducible first | exact HB.out | apply below_alloc | apply pw_below_drewN | apply below_drew1) | exact HB.out)) hb); clear HO242; clear HB; have HO242 := n0_; have HB := n1_; clear n0_ n1_; (try clear hb); (try clear hb2); (try clear hk); (try clear hi)) | (go_at_call 29; (with_reducible refine (impl_SymbolOf.calls kj8 t231 t230 t232 t246 _ A25.out).mono ?_); rintro e w' ⟨rfl, ⟨nd, rfl⟩⟩) | (go_at_call 29; (with_reducible refine (impl_SymbolOf.calls kj8 t235 t237 t232 t247 _ A27.out).mono ?_); rintro e w' ⟨rfl, ⟨nd, rfl⟩⟩) | (go_at_call 29; (with_reducible refine (impl_SymbolOf.calls kj8 t230 t244 t232 t248 _ A29.out).mono ?_); rintro e w' ⟨rfl, ⟨nd, rfl⟩⟩) | (go_at_call 29; (with_reducible refine (impl_SymbolOf.calls kj8 t230 (rd t239 (ji17)) t232 t249 _ A30.out).mono ?_); rintro e w' ⟨rfl, ⟨nd, rfl⟩⟩) | (go_at_call 29; (with_reducible refine (impl_SymbolOf.calls kj8 t230 (wrap64 (-t230)) t232 t250 _ A32.out).mono ?_); rintro e w' ⟨rfl, ⟨nd, rfl⟩⟩))
                                  go_ret
                                  exact ⟨by first | rfl | (simp [errW_none, errW_some] <;> rfl) | (simp only [← hji17]; first | rfl | (simp [errW_none, errW_some] <;> rfl)) | (simp [*, errW_none, errW_some] <;> rfl), by repeat (first | (with_reducible first | exact HB.out | apply below_alloc | apply pw_below_drewN | apply below_drew1) | exact HB.out)⟩
                                · rw [if_neg c31] at H
                                  have c31b0 : (t248 == (wrap64 (t233 * t249))) = false := beq_eq_false_iff_ne.mpr c31
                                  have c31b1 : (t248 != (wrap64 (t233 * t249))) = true := bne_iff_ne.mpr c31
                                  obtain rfl := Option.some.inj H
                                  go_wp2_with (first | ((with_reducible refine gate_callee (f := 36) rfl ?_); refine goesL_ (some 55) rfl rfl Try.func36 (by kernel_rfl) rfl #[.int .i64 t230, .int .i64 t232] rfl (by (try simp only [List.map_toArray, List.map_cons, List.map_nil]); first | done | rfl | (simp only [List.length_drop, List.length_take]; rfl)) ?_; (with_reducible refine (impl_LocalName.calls kj8 t230 t232 t235 true _ A13.out).mono ?_); rintro e w38 ⟨rfl, hb⟩; refine ⟨_, rfl, ?_⟩; have n0_ := Aside0.mk (below_step (by repeat (first | (with_reducible first | exact HB.out | apply below_alloc | apply pw_below_drewN | apply below_drew1) | exact HB.out)) hb); clear HB; have HB := n0_; clear n0_; (try clear hb); (try clear hb2); (try clear hk); (try clear hi)) | ((with_reducible refine gate_callee (f := 36) rfl ?_); refine goesL_ (some 61) rfl rfl Try.func36 (by kernel_rfl) rfl #[.int .i64 t231, .int .i64 t232] rfl (by (try simp only [List.map_toArray, List.map_cons, List.map_nil]); first | done | rfl | (simp only [List.length_drop, List.length_take]; rfl)) ?_; (with_reducible refine (impl_LocalName.calls kj8 t231 t232 t237 true _ A14.out).mono ?_); rintro e w39 ⟨rfl, hb⟩; refine ⟨_, rfl, ?_⟩; have n0_ := Aside0.mk (below_step (by repeat (first | (with_reducible first | exact HB.out | apply below_alloc | apply pw_below_drewN | apply below_drew1) | exact HB.out)) hb); clear HB; have HB := n0_; clear n0_; (try clear hb); (try clear hb2); (try clear hk); (try clear hi)) | ((with_reducible refine gate_callee (f := 37) rfl ?_); refine goesL_ (some 66) rfl rfl Try.func37 (by kernel_rfl) rfl #[.int .i64 t232] rfl (by (try simp only [List.map_toArray, List.map_cons, List.map_nil]); first | done | rfl | (simp only [List.length_drop, List.length_take]; rfl)) ?_; (with_reducible refine (impl_LocalNames.calls kj8 t232 t239 true _ A15.out).mono ?_); rintro e w40 ⟨v241, rfl, ho0, hb⟩; refine ⟨_, rfl, ?_⟩; have n0_ := Aside0.mk (Kd.R_lower ho0 (below_size (by repeat (first | (with_reducible first | exact HB.out | apply below_alloc | apply pw_below_drewN | apply below_drew1) | exact HB.out)))); have n1_ := Aside0.mk (below_step (by repeat (first | (with_reducible first | exact HB.out | apply below_alloc | apply pw_below_drewN | apply below_drew1) | exact HB.out)) hb); clear HB; have HO242 := n0_; have HB := n1_; clear n0_ n1_; (try clear hb); (try clear hb2); (try clear hk); (try clear hi); (try clear ho0); obtain ⟨Ao41, co41, eo41⟩ := Kd.R_slice HO242.out; subst eo41; have p243 : 0 ≤ ((ji17) : Int) := of_decide_eq_true (by first | (with_reducible assumption) | assumption); have q243 : (ji17) < (t239.length : Int) := of_decide_eq_true (by first | (with_reducible assumption) | assumption); obtain ⟨ad243, e243, hx243_0⟩ := Kd.at_int (Kd.R_reads' HO242.out).2.2 (ji17) p243 q243; cases e243; replace p243 := eq_true p243; replace q243 := eq_true q243) | ((with_reducible refine gate_callee (f := 38) rfl ?_); refine goesL_ (some 81) rfl rfl Try.func38 (by kernel_rfl) rfl #[.int .i64 t231, .int .i64 (rd t239 (ji17)), .int .i64 t232] rfl (by (try simp only [List.map_toArray, List.map_cons, List.map_nil]); first | done | (simp only [hji17]; rfl) | rfl | (simp only [List.length_drop, List.length_take]; rfl)) ?_; (with_reducible refine (impl_LocalMul.calls kj8 t231 (rd t239 (ji17)) t232 t244 true _ A20.out).mono ?_); rintro e w42 ⟨rfl, hb⟩; refine ⟨_, rfl, ?_⟩; have n0_ := Aside0.mk (Kd.R_below (by (with_reducible repeat (first | apply Kd.R_alloc | apply Kd.R_drewN | apply Kd.R_drew)); exact HO242.out) hb); have n1_ := Aside0.mk (below_step (by repeat (first | (with_reducible first | exact HB.out | apply below_alloc | apply pw_below_drewN | apply below_drew1) | exact HB.out)) hb); clear HO242; clear HB; have HO242 := n0_; have HB := n1_; clear n0_ n1_; (try clear hb); (try clear hb2); (try clear hk); (try clear hi)) | (go_at_call 29; (with_reducible refine (impl_SymbolOf.calls kj8 t231 t230 t232 t246 _ A25.out).mono ?_); rintro e w' ⟨rfl, ⟨nd, rfl⟩⟩) | (go_at_call 29; (with_reducible refine (impl_SymbolOf.calls kj8 t235 t237 t232 t247 _ A27.out).mono ?_); rintro e w' ⟨rfl, ⟨nd, rfl⟩⟩) | (go_at_call 29; (with_reducible refine (impl_SymbolOf.calls kj8 t230 t244 t232 t248 _ A29.out).mono ?_); rintro e w' ⟨rfl, ⟨nd, rfl⟩⟩) | (go_at_call 29; (with_reducible refine (impl_SymbolOf.calls kj8 t230 (rd t239 (ji17)) t232 t249 _ A30.out).mono ?_); rintro e w' ⟨rfl, ⟨nd, rfl⟩⟩))
                                  go_ret
                                  exact ⟨by first | rfl | (simp [errW_none, errW_some] <;> rfl) | (simp only [← hji17]; first | rfl | (simp [errW_none, errW_some] <;> rfl)) | (simp [*, errW_none, errW_some] <;> rfl), by repeat (first | (with_reducible first | exact HB.out | apply below_alloc | apply pw_below_drewN | apply below_drew1) | exact HB.out)⟩
                              · rw [if_neg c28] at H
                                have c28b0 : (t247 == t233) = false := beq_eq_false_iff_ne.mpr c28
                                have c28b1 : (t247 != t233) = true := bne_iff_ne.mpr c28
                                obtain rfl := Option.some.inj H
                                go_wp2_with (first | ((with_reducible refine gate_callee (f := 36) rfl ?_); refine goesL_ (some 55) rfl rfl Try.func36 (by kernel_rfl) rfl #[.int .i64 t230, .int .i64 t232] rfl (by (try simp only [List.map_toArray, List.map_cons, List.map_nil]); first | done | rfl | (simp only [List.length_drop, List.length_take]; rfl)) ?_; (with_reducible refine (impl_LocalName.calls kj8 t230 t232 t235 true _ A13.out).mono ?_); rintro e w43 ⟨rfl, hb⟩; refine ⟨_, rfl, ?_⟩; have n0_ := Aside0.mk (below_step (by repeat (first | (with_reducible first | exact HB.out | apply below_alloc | apply pw_below_drewN | apply below_drew1) | exact HB.out)) hb); clear HB; have HB := n0_; clear n0_; (try clear hb); (try clear hb2); (try clear hk); (try clear hi)) | ((with_reducible refine gate_callee (f := 36) rfl ?_); refine goesL_ (some 61) rfl rfl Try.func36 (by kernel_rfl) rfl #[.int .i64 t231, .int .i64 t232] rfl (by (try simp only [List.map_toArray, List.map_cons, List.map_nil]); first | done | rfl | (simp only [List.length_drop, List.length_take]; rfl)) ?_; (with_reducible refine (impl_LocalName.calls kj8 t231 t232 t237 true _ A14.out).mono ?_); rintro e w44 ⟨rfl, hb⟩; refine ⟨_, rfl, ?_⟩; have n0_ := Aside0.mk (below_step (by repeat (first | (with_reducible first | exact HB.out | apply below_alloc | apply pw_below_drewN | apply below_drew1) | exact HB.out)) hb); clear HB; have HB := n0_; clear n0_; (try clear hb); (try clear hb2); (try clear hk); (try clear hi)) | ((with_reducible refine gate_callee (f := 37) rfl ?_); refine goesL_ (some 66) rfl rfl Try.func37 (by kernel_rfl) rfl #[.int .i64 t232] rfl (by (try simp only [List.map_toArray, List.map_cons, List.map_nil]); first | done | rfl | (simp only [List.length_drop, List.length_take]; rfl)) ?_; (with_reducible refine (impl_LocalNames.calls kj8 t232 t239 true _ A15.out).mono ?_); rintro e w45 ⟨v241, rfl, ho0, hb⟩; refine ⟨_, rfl, ?_⟩; have n0_ := Aside0.mk (Kd.R_lower ho0 (below_size (by repeat (first | (with_reducible first | exact HB.out | apply below_alloc | apply pw_below_drewN | apply below_drew1) | exact HB.out)))); have n1_ := Aside0.mk (below_step (by repeat (first | (with_reducible first | exact HB.out | apply below_alloc | apply pw_below_drewN | apply below_drew1) | exact HB.out)) hb); clear HB; have HO242 := n0_; have HB := n1_; clear n0_ n1_; (try clear hb); (try clear hb2); (try clear hk); (try clear hi); (try clear ho0); obtain ⟨Ao46, co46, eo46⟩ := Kd.R_slice HO242.out; subst eo46; have p243 : 0 ≤ ((ji17) : Int) := of_decide_eq_true (by first | (with_reducible assumption) | assumption); have q243 : (ji17) < (t239.length : Int) := of_decide_eq_true (by first | (with_reducible assumption) | assumption); obtain ⟨ad243, e243, hx243_0⟩ := Kd.at_int (Kd.R_reads' HO242.out).2.2 (ji17) p243 q243; cases e243; replace p243 := eq_true p243; replace q243 := eq_true q243) | ((with_reducible refine gate_callee (f := 38) rfl ?_); refine goesL_ (some 81) rfl rfl Try.func38 (by kernel_rfl) rfl #[.int .i64 t231, .int .i64 (rd t239 (ji17)), .int .i64 t232] rfl (by (try simp only [List.map_toArray, List.map_cons, List.map_nil]); first | done | (simp only [hji17]; rfl) | rfl | (simp only [List.length_drop, List.length_take]; rfl)) ?_; (with_reducible refine (impl_LocalMul.calls kj8 t231 (rd t239 (ji17)) t232 t244 true _ A20.out).mono ?_); rintro e w47 ⟨rfl, hb⟩; refine ⟨_, rfl, ?_⟩; have n0_ := Aside0.mk (Kd.R_below (by (with_reducible repeat (first | apply Kd.R_alloc | apply Kd.R_drewN | apply Kd.R_drew)); exact HO242.out) hb); have n1_ := Aside0.mk (below_step (by repeat (first | (with_reducible first | exact HB.out | apply below_alloc | apply pw_below_drewN | apply below_drew1) | exact HB.out)) hb); clear HO242; clear HB; have HO242 := n0_; have HB := n1_; clear n0_ n1_; (try clear hb); (try clear hb2); (try clear hk); (try clear hi)) | (go_at_call 29; (with_reducible refine (impl_SymbolOf.calls kj8 t231 t230 t232 t246 _ A25.out).mono ?_); rintro e w' ⟨rfl, ⟨nd, rfl⟩⟩) | (go_at_call 29; (with_reducible refine (impl_SymbolOf.calls kj8 t235 t237 t232 t247 _ A27.out).mono ?_); rintro e w' ⟨rfl, ⟨nd, rfl⟩⟩))
                                go_ret
                                exact ⟨by first | rfl | (simp [errW_none, errW_some] <;> rfl) | (simp only [← hji17]; first | rfl | (simp [errW_none, errW_some] <;> rfl)) | (simp [*, errW_none, errW_some] <;> rfl), by repeat (first | (with_reducible first | exact HB.out | apply below_alloc | apply pw_below_drewN | apply below_drew1) | exact HB.out)⟩
                            · rw [if_neg c26] at H
                              have c26b0 : (t246 == t233) = false := beq_eq_false_iff_ne.mpr c26
                              have c26b1 : (t246 != t233) = true := bne_iff_ne.mpr c26
                              obtain rfl := Option.some.inj H
                              go_wp2_with (first | ((with_reducible refine gate_callee (f := 36) rfl ?_); refine goesL_ (some 55) rfl rfl Try.func36 (by kernel_rfl) rfl #[.int .i64 t230, .int .i64 t232] rfl (by (try simp only [List.map_toArray, List.map_cons, List.map_nil]); first | done | rfl | (simp only [List.length_drop, List.length_take]; rfl)) ?_; (with_reducible refine (impl_LocalName.calls kj8 t230 t232 t235 true _ A13.out).mono ?_); rintro e w48 ⟨rfl, hb⟩; refine ⟨_, rfl, ?_⟩; have n0_ := Aside0.mk (below_step (by repeat (first | (with_reducible first | exact HB.out | apply below_alloc | apply pw_below_drewN | apply below_drew1) | exact HB.out)) hb); clear HB; have HB := n0_; clear n0_; (try clear hb); (try clear hb2); (try clear hk); (try clear hi)) | ((with_reducible refine gate_callee (f := 36) rfl ?_); refine goesL_ (some 61) rfl rfl Try.func36 (by kernel_rfl) rfl #[.int .i64 t231, .int .i64 t232] rfl (by (try simp only [List.map_toArray, List.map_cons, List.map_nil]); first | done | rfl | (simp only [List.length_drop, List.length_take]; rfl)) ?_; (with_reducible refine (impl_LocalName.calls kj8 t231 t232 t237 true _ A14.out).mono ?_); rintro e w49 ⟨rfl, hb⟩; refine ⟨_, rfl, ?_⟩; have n0_ := Aside0.mk (below_step (by repeat (first | (with_reducible first | exact HB.out | apply below_alloc | apply pw_below_drewN | apply below_drew1) | exact HB.out)) hb); clear HB; have HB := n0_; clear n0_; (try clear hb); (try clear hb2); (try clear hk); (try clear hi)) | ((with_reducible refine gate_callee (f := 37) rfl ?_); refine goesL_ (some 66) rfl rfl Try.func37 (by kernel_rfl) rfl #[.int .i64 t232] rfl (by (try simp only [List.map_toArray, List.map_cons, List.map_nil]); first | done | rfl | (simp only [List.length_drop, List.length_take]; rfl)) ?_; (with_reducible refine (impl_LocalNames.calls kj8 t232 t239 true _ A15.out).mono ?_); rintro e w50 ⟨v241, rfl, ho0, hb⟩; refine ⟨_, rfl, ?_⟩; have n0_ := Aside0.mk (Kd.R_lower ho0 (below_size (by repeat (first | (with_reducible first | exact HB.out | apply below_alloc | apply pw_below_drewN | apply below_drew1) | exact HB.out)))); have n1_ := Aside0.mk (below_step (by repeat (first | (with_reducible first | exact HB.out | apply below_alloc | apply pw_below_drewN | apply below_drew1) | exact HB.out)) hb); clear HB; have HO242 := n0_; have HB := n1_; clear n0_ n1_; (try clear hb); (try clear hb2); (try clear hk); (try clear hi); (try clear ho0); obtain ⟨Ao51, co51, eo51⟩ := Kd.R_slice HO242.out; subst eo51; have p243 : 0 ≤ ((ji17) : Int) := of_decide_eq_true (by first | (with_reducible assumption) | assumption); have q243 : (ji17) < (t239.length : Int) := of_decide_eq_true (by first | (with_reducible assumption) | assumption); obtain ⟨ad243, e243, hx243_0⟩ := Kd.at_int (Kd.R_reads' HO242.out).2.2 (ji17) p243 q243; cases e243; replace p243 := eq_true p243; replace q243 := eq_true q243) | ((with_reducible refine gate_callee (f := 38) rfl ?_); refine goesL_ (some 81) rfl rfl Try.func38 (by kernel_rfl) rfl #[.int .i64 t231, .int .i64 (rd t239 (ji17)), .int .i64 t232] rfl (by (try simp only [List.map_toArray, List.map_cons, List.map_nil]); first | done | (simp only [hji17]; rfl) | rfl | (simp only [List.length_drop, List.length_take]; rfl)) ?_; (with_reducible refine (impl_LocalMul.calls kj8 t231 (rd t239 (ji17)) t232 t244 true _ A20.out).mono ?_); rintro e w52 ⟨rfl, hb⟩; refine ⟨_, rfl, ?_⟩; have n0_ := Aside0.mk (Kd.R_below (by (with_reducible repeat (first | apply Kd.R_alloc | apply Kd.R_drewN | apply Kd.R_drew)); exact HO242.out) hb); have n1_ := Aside0.mk (below_step (by repeat (first | (with_reducible first | exact HB.out | apply below_alloc | apply pw_below_drewN | apply below_drew1) | exact HB.out)) hb); clear HO242; clear HB; have HO242 := n0_; have HB := n1_; clear n0_ n1_; (try clear hb); (try clear hb2); (try clear hk); (try clear hi)) | (go_at_call 29; (with_reducible refine (impl_SymbolOf.calls kj8 t231 t230 t232 t246 _ A25.out).mono ?_); rintro e w' ⟨rfl, ⟨nd, rfl⟩⟩))
                              go_ret
                              exact ⟨by first | rfl | (simp [errW_none, errW_some] <;> rfl) | (simp only [← hji17]; first | rfl | (simp [errW_none, errW_some] <;> rfl)) | (simp [*, errW_none, errW_some] <;> rfl), by repeat (first | (with_reducible first | exact HB.out | apply below_alloc | apply pw_below_drewN | apply below_drew1) | exact HB.out)⟩
                          · replace c24 := Bool.eq_false_iff.mpr c24
                            subst c24
                            have H1 : (some false) = some r := by rw [if_neg (show ¬ (false = true) by decide)] at H; exact H
                            clear H
                            have H := H1
                            clear H1
                            obtain rfl := Option.some.inj H
                            go_wp2_with (first | ((with_reducible refine gate_callee (f := 36) rfl ?_); refine goesL_ (some 55) rfl rfl Try.func36 (by kernel_rfl) rfl #[.int .i64 t230, .int .i64 t232] rfl (by (try simp only [List.map_toArray, List.map_cons, List.map_nil]); first | done | rfl | (simp only [List.length_drop, List.length_take]; rfl)) ?_; (with_reducible refine (impl_LocalName.calls kj8 t230 t232 t235 true _ A13.out).mono ?_); rintro e w53 ⟨rfl, hb⟩; refine ⟨_, rfl, ?_⟩; have n0_ := Aside0.mk (below_step (by repeat (first | (with_reducible first | exact HB.out | apply below_alloc | apply pw_below_drewN | apply below_drew1) | exact HB.out)) hb); clear HB; have HB := n0_; clear n0_; (try clear hb); (try clear hb2); (try clear hk); (try clear hi)) | ((with_reducible refine gate_callee (f := 36) rfl ?_); refine goesL_ (some 61) rfl rfl Try.func36 (by kernel_rfl) rfl #[.int .i64 t231, .int .i64 t232] rfl (by (try simp only [List.map_toArray, List.map_cons, List.map_nil]); first | done | rfl | (simp only [List.length_drop, List.length_take]; rfl)) ?_; (with_reducible refine (impl_LocalName.calls kj8 t231 t232 t237 true _ A14.out).mono ?_); rintro e w54 ⟨rfl, hb⟩; refine ⟨_, rfl, ?_⟩; have n0_ := Aside0.mk (below_step (by repeat (first | (with_reducible first | exact HB.out | apply below_alloc | apply pw_below_drewN | apply below_drew1) | exact HB.out)) hb); clear HB; have HB := n0_; clear n0_; (try clear hb); (try clear hb2); (try clear hk); (try clear hi)) | ((with_reducible refine gate_callee (f := 37) rfl ?_); refine goesL_ (some 66) rfl rfl Try.func37 (by kernel_rfl) rfl #[.int .i64 t232] rfl (by (try simp only [List.map_toArray, List.map_cons, List.map_nil]); first | done | rfl | (simp only [List.length_drop, List.length_take]; rfl)) ?_; (with_reducible refine (impl_LocalNames.calls kj8 t232 t239 true _ A15.out).mono ?_); rintro e w55 ⟨v241, rfl, ho0, hb⟩; refine ⟨_, rfl, ?_⟩; have n0_ := Aside0.mk (Kd.R_lower ho0 (below_size (by repeat (first | (with_reducible first | exact HB.out | apply below_alloc | apply pw_below_drewN | apply below_drew1) | exact HB.out)))); have n1_ := Aside0.mk (below_step (by repeat (first | (with_reducible first | exact HB.out | apply below_alloc | apply pw_below_drewN | apply below_drew1) | exact HB.out)) hb); clear HB; have HO242 := n0_; have HB := n1_; clear n0_ n1_; (try clear hb); (try clear hb2); (try clear hk); (try clear hi); (try clear ho0); obtain ⟨Ao56, co56, eo56⟩ := Kd.R_slice HO242.out; subst eo56; have p243 : 0 ≤ ((ji17) : Int) := of_decide_eq_true (by first | (with_reducible assumption) | assumption); have q243 : (ji17) < (t239.length : Int) := of_decide_eq_true (by first | (with_reducible assumption) | assumption); obtain ⟨ad243, e243, hx243_0⟩ := Kd.at_int (Kd.R_reads' HO242.out).2.2 (ji17) p243 q243; cases e243; replace p243 := eq_true p243; replace q243 := eq_true q243) | ((with_reducible refine gate_callee (f := 38) rfl ?_); refine goesL_ (some 81) rfl rfl Try.func38 (by kernel_rfl) rfl #[.int .i64 t231, .int .i64 (rd t239 (ji17)), .int .i64 t232] rfl (by (try simp only [List.map_toArray, List.map_cons, List.map_nil]); first | done | (simp only [hji17]; rfl) | rfl | (simp only [List.length_drop, List.length_take]; rfl)) ?_; (with_reducible refine (impl_LocalMul.calls kj8 t231 (rd t239 (ji17)) t232 t244 false _ A20.out).mono ?_); rintro e w57 ⟨rfl, hb⟩; refine ⟨_, rfl, ?_⟩; have n0_ := Aside0.mk (Kd.R_below (by (with_reducible repeat (first | apply Kd.R_alloc | apply Kd.R_drewN | apply Kd.R_drew)); exact HO242.out) hb); have n1_ := Aside0.mk (below_step (by repeat (first | (with_reducible first | exact HB.out | apply below_alloc | apply pw_below_drewN | apply below_drew1) | exact HB.out)) hb); clear HO242; clear HB; have HO242 := n0_; have HB := n1_; clear n0_ n1_; (try clear hb); (try clear hb2); (try clear hk); (try clear hi)))
                            go_ret
                            exact ⟨by first | rfl | (simp [errW_none, errW_some] <;> rfl) | (simp only [← hji17]; first | rfl | (simp [errW_none, errW_some] <;> rfl)) | (simp [*, errW_none, errW_some] <;> rfl), by repeat (first | (with_reducible first | exact HB.out | apply below_alloc | apply pw_below_drewN | apply below_drew1) | exact HB.out)⟩
                        · replace c23 := Bool.eq_false_iff.mpr c23
                          subst c23
                          have H1 : (some false) = some r := by rw [if_neg (show ¬ (false = true) by decide)] at H; exact H
                          clear H
                          have H := H1
                          clear H1
                          obtain rfl := Option.some.inj H
                          go_wp2_with (first | ((with_reducible refine gate_callee (f := 36) rfl ?_); refine goesL_ (some 55) rfl rfl Try.func36 (by kernel_rfl) rfl #[.int .i64 t230, .int .i64 t232] rfl (by (try simp only [List.map_toArray, List.map_cons, List.map_nil]); first | done | rfl | (simp only [List.length_drop, List.length_take]; rfl)) ?_; (with_reducible refine (impl_LocalName.calls kj8 t230 t232 t235 true _ A13.out).mono ?_); rintro e w58 ⟨rfl, hb⟩; refine ⟨_, rfl, ?_⟩; have n0_ := Aside0.mk (below_step (by repeat (first | (with_reducible first | exact HB.out | apply below_alloc | apply pw_below_drewN | apply below_drew1) | exact HB.out)) hb); clear HB; have HB := n0_; clear n0_; (try clear hb); (try clear hb2); (try clear hk); (try clear hi)) | ((with_reducible refine gate_callee (f := 36) rfl ?_); refine goesL_ (some 61) rfl rfl Try.func36 (by kernel_rfl) rfl #[.int .i64 t231, .int .i64 t232] rfl (by (try simp only [List.map_toArray, List.map_cons, List.map_nil]); first | done | rfl | (simp only [List.length_drop, List.length_take]; rfl)) ?_; (with_reducible refine (impl_LocalName.calls kj8 t231 t232 t237 true _ A14.out).mono ?_); rintro e w59 ⟨rfl, hb⟩; refine ⟨_, rfl, ?_⟩; have n0_ := Aside0.mk (below_step (by repeat (first | (with_reducible first | exact HB.out | apply below_alloc | apply pw_below_drewN | apply below_drew1) | exact HB.out)) hb); clear HB; have HB := n0_; clear n0_; (try clear hb); (try clear hb2); (try clear hk); (try clear hi)) | ((with_reducible refine gate_callee (f := 37) rfl ?_); refine goesL_ (some 66) rfl rfl Try.func37 (by kernel_rfl) rfl #[.int .i64 t232] rfl (by (try simp only [List.map_toArray, List.map_cons, List.map_nil]); first | done | rfl | (simp only [List.length_drop, List.length_take]; rfl)) ?_; (with_reducible refine (impl_LocalNames.calls kj8 t232 t239 false _ A15.out).mono ?_); rintro e w60 ⟨v241, rfl, ho0, hb⟩; refine ⟨_, rfl, ?_⟩; have n0_ := Aside0.mk (Kd.R_lower ho0 (below_size (by repeat (first | (with_reducible first | exact HB.out | apply below_alloc | apply pw_below_drewN | apply below_drew1) | exact HB.out)))); have n1_ := Aside0.mk (below_step (by repeat (first | (with_reducible first | exact HB.out | apply below_alloc | apply pw_below_drewN | apply below_drew1) | exact HB.out)) hb); clear HB; have HO242 := n0_; have HB := n1_; clear n0_ n1_; (try clear hb); (try clear hb2); (try clear hk); (try clear hi); (try clear ho0); obtain ⟨Ao61, co61, eo61⟩ := Kd.R_slice HO242.out; subst eo61; have p243 : 0 ≤ ((ji17) : Int) := of_decide_eq_true (by first | (with_reducible assumption) | assumption); have q243 : (ji17) < (t239.length : Int) := of_decide_eq_true (by first | (with_reducible assumption) | assumption); obtain ⟨ad243, e243, hx243_0⟩ := Kd.at_int (Kd.R_reads' HO242.out).2.2 (ji17) p243 q243; cases e243; replace p243 := eq_true p243; replace q243 := eq_true q243) | ((with_reducible refine gate_callee (f := 38) rfl ?_); refine goesL_ (some 81) rfl rfl Try.func38 (by kernel_rfl) rfl #[.int .i64 t231, .int .i64 (rd t239 (ji17)), .int .i64 t232] rfl (by (try simp only [List.map_toArray, List.map_cons, List.map_nil]); first | done | (simp only [hji17]; rfl) | rfl | (simp only [List.length_drop, List.length_take]; rfl)) ?_; (with_reducible refine (impl_LocalMul.calls kj8 t231 (rd t239 (ji17)) t232 t244 t245 _ A20.out).mono ?_); rintro e w62 ⟨rfl, hb⟩; refine ⟨_, rfl, ?_⟩; have n0_ := Aside0.mk (Kd.R_below (by (with_reducible repeat (first | apply Kd.R_alloc | apply Kd.R_drewN | apply Kd.R_drew)); exact HO242.out) hb); have n1_ := Aside0.mk (below_step (by repeat (first | (with_reducible first | exact HB.out | apply below_alloc | apply pw_below_drewN | apply below_drew1) | exact HB.out)) hb); clear HO242; clear HB; have HO242 := n0_; have HB := n1_; clear n0_ n1_; (try clear hb); (try clear hb2); (try clear hk); (try clear hi)))
                          go_ret
                          exact ⟨by first | rfl | (simp [errW_none, errW_some] <;> rfl) | (simp only [← hji17]; first | rfl | (simp [errW_none, errW_some] <;> rfl)) | (simp [*, errW_none, errW_some] <;> rfl), by repeat (first | (with_reducible first | exact HB.out | apply below_alloc | apply pw_below_drewN | apply below_drew1) | exact HB.out)⟩
                      · replace c22 := Bool.eq_false_iff.mpr c22
                        subst c22
                        have H1 : (some false) = some r := by rw [if_neg (show ¬ (false = true) by decide)] at H; exact H
                        clear H
                        have H := H1
                        clear H1
                        obtain rfl := Option.some.inj H
                        go_wp2_with (first | ((with_reducible refine gate_callee (f := 36) rfl ?_); refine goesL_ (some 55) rfl rfl Try.func36 (by kernel_rfl) rfl #[.int .i64 t230, .int .i64 t232] rfl (by (try simp only [List.map_toArray, List.map_cons, List.map_nil]); first | done | rfl | (simp only [List.length_drop, List.length_take]; rfl)) ?_; (with_reducible refine (impl_LocalName.calls kj8 t230 t232 t235 true _ A13.out).mono ?_); rintro e w63 ⟨rfl, hb⟩; refine ⟨_, rfl, ?_⟩; have n0_ := Aside0.mk (below_step (by repeat (first | (with_reducible first | exact HB.out | apply below_alloc | apply pw_below_drewN | apply below_drew1) | exact HB.out)) hb); clear HB; have HB := n0_; clear n0_; (try clear hb); (try clear hb2); (try clear hk); (try clear hi)) | ((with_reducible refine gate_callee (f := 36) rfl ?_); refine goesL_ (some 61) rfl rfl Try.func36 (by kernel_rfl) rfl #[.int .i64 t231, .int .i64 t232] rfl (by (try simp only [List.map_toArray, List.map_cons, List.map_nil]); first | done | rfl | (simp only [List.length_drop, List.length_take]; rfl)) ?_; (with_reducible refine (impl_LocalName.calls kj8 t231 t232 t237 false _ A14.out).mono ?_); rintro e w64 ⟨rfl, hb⟩; refine ⟨_, rfl, ?_⟩; have n0_ := Aside0.mk (below_step (by repeat (first | (with_reducible first | exact HB.out | apply below_alloc | apply pw_below_drewN | apply below_drew1) | exact HB.out)) hb); clear HB; have HB := n0_; clear n0_; (try clear hb); (try clear hb2); (try clear hk); (try clear hi)) | ((with_reducible refine gate_callee (f := 37) rfl ?_); refine goesL_ (some 66) rfl rfl Try.func37 (by kernel_rfl) rfl #[.int .i64 t232] rfl (by (try simp only [List.map_toArray, List.map_cons, List.map_nil]); first | done | rfl | (simp only [List.length_drop, List.length_take]; rfl)) ?_; (with_reducible refine (impl_LocalNames.calls kj8 t232 t239 t240 _ A15.out).mono ?_); rintro e w65 ⟨v241, rfl, ho0, hb⟩; refine ⟨_, rfl, ?_⟩; have n0_ := Aside0.mk (Kd.R_lower ho0 (below_size (by repeat (first | (with_reducible first | exact HB.out | apply below_alloc | apply pw_below_drewN | apply below_drew1) | exact HB.out)))); have n1_ := Aside0.mk (below_step (by repeat (first | (with_reducible first | exact HB.out | apply below_alloc | apply pw_below_drewN | apply below_drew1) | exact HB.out)) hb); clear HB; have HO242 := n0_; have HB := n1_; clear n0_ n1_; (try clear hb); (try clear hb2); (try clear hk); (try clear hi); (try clear ho0); obtain ⟨Ao66, co66, eo66⟩ := Kd.R_slice HO242.out; subst eo66; have p243 : 0 ≤ ((ji17) : Int) := of_decide_eq_true (by first | (with_reducible assumption) | assumption); have q243 : (ji17) < (t239.length : Int) := of_decide_eq_true (by first | (with_reducible assumption) | assumption); obtain ⟨ad243, e243, hx243_0⟩ := Kd.at_int (Kd.R_reads' HO242.out).2.2 (ji17) p243 q243; cases e243; replace p243 := eq_true p243; replace q243 := eq_true q243) | ((with_reducible refine gate_callee (f := 38) rfl ?_); refine goesL_ (some 81) rfl rfl Try.func38 (by kernel_rfl) rfl #[.int .i64 t231, .int .i64 (rd t239 (ji17)), .int .i64 t232] rfl (by (try simp only [List.map_toArray, List.map_cons, List.map_nil]); first | done | (simp only [hji17]; rfl) | rfl | (simp only [List.length_drop, List.length_take]; rfl)) ?_; (with_reducible refine (impl_LocalMul.calls kj8 t231 (rd t239 (ji17)) t232 t244 t245 _ A20.out).mono ?_); rintro e w67 ⟨rfl, hb⟩; refine ⟨_, rfl, ?_⟩; have n0_ := Aside0.mk (Kd.R_below (by (with_reducible repeat (first | apply Kd.R_alloc | apply Kd.R_drewN | apply Kd.R_drew)); exact HO242.out) hb); have n1_ := Aside0.mk (below_step (by repeat (first | (with_reducible first | exact HB.out | apply below_alloc | apply pw_below_drewN | apply below_drew1) | exact HB.out)) hb); clear HO242; clear HB; have HO242 := n0_; have HB := n1_; clear n0_ n1_; (try clear hb); (try clear hb2); (try clear hk); (try clear hi)))
                        go_ret
                        exact ⟨by first | rfl | (simp [errW_none, errW_some] <;> rfl) | (simp only [← hji17]; first | rfl | (simp [errW_none, errW_some] <;> rfl)) | (simp [*, errW_none, errW_some] <;> rfl), by repeat (first | (with_reducible first | exact HB.out | apply below_alloc | apply pw_below_drewN | apply below_drew1) | exact HB.out)⟩
                    · replace c21 := Bool.eq_false_iff.mpr c21
                      subst c21
                      have H1 : (some false) = some r := by rw [if_neg (show ¬ (false = true) by decide)] at H; exact H
                      clear H
                      have H := H1
                      clear H1
                      obtain rfl := Option.some.inj H
                      go_wp2_with (first | ((with_reducible refine gate_callee (f := 36) rfl ?_); refine goesL_ (some 55) rfl rfl Try.func36 (by kernel_rfl) rfl #[.int .i64 t230, .int .i64 t232] rfl (by (try simp only [List.map_toArray, List.map_cons, List.map_nil]); first | done | rfl | (simp only [List.length_drop, List.length_take]; rfl)) ?_; (with_reducible refine (impl_LocalName.calls kj8 t230 t232 t235 false _ A13.out).mono ?_); rintro e w68 ⟨rfl, hb⟩; refine ⟨_, rfl, ?_⟩; have n0_ := Aside0.mk (below_step (by repeat (first | (with_reducible first | exact HB.out | apply below_alloc | apply pw_below_drewN | apply below_drew1) | exact HB.out)) hb); clear HB; have HB := n0_; clear n0_; (try clear hb); (try clear hb2); (try clear hk); (try clear hi)) | ((with_reducible refine gate_callee (f := 36) rfl ?_); refine goesL_ (some 61) rfl rfl Try.func36 (by kernel_rfl) rfl #[.int .i64 t231, .int .i64 t232] rfl (by (try simp only [List.map_toArray, List.map_cons, List.map_nil]); first | done | rfl | (simp only [List.length_drop, List.length_take]; rfl)) ?_; (with_reducible refine (impl_LocalName.calls kj8 t231 t232 t237 t238 _ A14.out).mono ?_); rintro e w69 ⟨rfl, hb⟩; refine ⟨_, rfl, ?_⟩; have n0_ := Aside0.mk (below_step (by repeat (first | (with_reducible first | exact HB.out | apply below_alloc | apply pw_below_drewN | apply below_drew1) | exact HB.out)) hb); clear HB; have HB := n0_; clear n0_; (try clear hb); (try clear hb2); (try clear hk); (try clear hi)) | ((with_reducible refine gate_callee (f := 37) rfl ?_); refine goesL_ (some 66) rfl rfl Try.func37 (by kernel_rfl) rfl #[.int .i64 t232] rfl (by (try simp only [List.map_toArray, List.map_cons, List.map_nil]); first | done | rfl | (simp only [List.length_drop, List.length_take]; rfl)) ?_; (with_reducible refine (impl_LocalNames.calls kj8 t232 t239 t240 _ A15.out).mono ?_); rintro e w70 ⟨v241, rfl, ho0, hb⟩; refine ⟨_, rfl, ?_⟩; have n0_ := Aside0.mk (Kd.R_lower ho0 (below_size (by repeat (first | (with_reducible first | exact HB.out | apply below_alloc | apply pw_below_drewN | apply below_drew1) | exact HB.out)))); have n1_ := Aside0.mk (below_step (by repeat (first | (with_reducible first | exact HB.out | apply below_alloc | apply pw_below_drewN | apply below_drew1) | exact HB.out)) hb); clear HB; have HO242 := n0_; have HB := n1_; clear n0_ n1_; (try clear hb); (try clear hb2); (try clear hk); (try clear hi); (try clear ho0); obtain ⟨Ao71, co71, eo71⟩ := Kd.R_slice HO242.out; subst eo71; have p243 : 0 ≤ ((ji17) : Int) := of_decide_eq_true (by first | (with_reducible assumption) | assumption); have q243 : (ji17) < (t239.length : Int) := of_decide_eq_true (by first | (with_reducible assumption) | assumption); obtain ⟨ad243, e243, hx243_0⟩ := Kd.at_int (Kd.R_reads' HO242.out).2.2 (ji17) p243 q243; cases e243; replace p243 := eq_true p243; replace q243 := eq_true q243) | ((with_reducible refine gate_callee (f := 38) rfl ?_); refine goesL_ (some 81) rfl rfl Try.func38 (by kernel_rfl) rfl #[.int .i64 t231, .int .i64 (rd t239 (ji17)), .int .i64 t232] rfl (by (try simp only [List.map_toArray, List.map_cons, List.map_nil]); first | done | (simp only [hji17]; rfl) | rfl | (simp only [List.length_drop, List.length_take]; rfl)) ?_; (with_reducible refine (impl_LocalMul.calls kj8 t231 (rd t239 (ji17)) t232 t244 t245 _ A20.out).mono ?_); rintro e w72 ⟨rfl, hb⟩; refine ⟨_, rfl, ?_⟩; have n0_ := Aside0.mk (Kd.R_below (by (with_reducible repeat (first | apply Kd.R_alloc | apply Kd.R_drewN | apply Kd.R_drew)); exact HO242.out) hb); have n1_ := Aside0.mk (below_step (by repeat (first | (with_reducible first | exact HB.out | apply below_alloc | apply pw_below_drewN | apply below_drew1) | exact HB.out)) hb); clear HO242; clear HB; have HO242 := n0_; have HB := n1_; clear n0_ n1_; (try clear hb); (try clear hb2); (try clear hk); (try clear hi)))
                      go_ret
                      exact ⟨by first | rfl | (simp [errW_none, errW_some] <;> rfl) | (simp only [← hji17]; first | rfl | (simp [errW_none, errW_some] <;> rfl)) | (simp [*, errW_none, errW_some] <;> rfl), by repeat (first | (with_reducible first | exact HB.out | apply below_alloc | apply pw_below_drewN | apply below_drew1) | exact HB.out)⟩
                  · rw [if_neg c19] at H
                    exact absurd H (by simp)
                · rw [if_neg c18] at H
                  exact absurd H (by simp)

/-- THE ONE PURE STATEMENT of laws_FnSymbol: yours. -/
def laws_FnSymbol.Pure : Prop := ∀ (l0 : List Int) (l1 : List Int), l0.length ≤ maxLen → l0.length * 1 ≤ 140737488351232 → (∀ x ∈ l0, (Lit.int .u8 x).wf = true) → l1.length ≤ maxLen → l1.length * 1 ≤ 140737488351232 → (∀ x ∈ l1, (Lit.int .u8 x).wf = true) → ∃ k, laws_FnSymbol.f k l0 l1 = some true
theorem laws_FnSymbol.walk (P : laws_FnSymbol.Pure) (a0 : Option Addr) (len0 cap0 : Nat) (z0 : List Int) (a1 : Option Addr) (len1 cap1 : Nat) (z1 : List Int) (w : World) (w0 : (a0 = none ∧ len0 = 0 ∧ cap0 = 0 ∧ z0 = []) ∨ ∃ x, a0 = some x ∧ len0 ≤ cap0 ∧ cap0 ≤ maxLen ∧ z0.length = cap0 ∧ (∀ i, i < z0.length → w.cell? (x.add i) = some (.int .u8 (z0.getD i 0))) ∧ ∀ n ∈ z0, (Lit.int .u8 n).wf = true) (y0 : len0 * 1 ≤ 140737488351232) (w1 : (a1 = none ∧ len1 = 0 ∧ cap1 = 0 ∧ z1 = []) ∨ ∃ x, a1 = some x ∧ len1 ≤ cap1 ∧ cap1 ≤ maxLen ∧ z1.length = cap1 ∧ (∀ i, i < z1.length → w.cell? (x.add i) = some (.int .u8 (z1.getD i 0))) ∧ ∀ n ∈ z1, (Lit.int .u8 n).wf = true) (y1 : len1 * 1 ≤ 140737488351232) :
    Calls Try.prog 11 #[.slice a0 len0 cap0, .slice a1 len1 cap1] w fun e w' => e = .returned (.bool true) ∧ Below w.heap.size w w' := by
  obtain ⟨l0, rfl, hr0, hm0, hw0, hc0⟩ := ReadsInt.ofRowC w0
  obtain ⟨l1, rfl, hr1, hm1, hw1, hc1⟩ := ReadsInt.ofRowC w1
  obtain ⟨k, h⟩ := P l0 l1 hm0 y0 hw0 hm1 y1 hw1
  refine (laws_FnSymbol.calls k _ _ l0 _ _ l1 true w (Kd.C_of_reads (d := (0 : Int)) (h1 := fun _ => rfl) hr0) hc0 (Kd.C_of_reads (d := (0 : Int)) (h1 := fun _ => rfl) hr1) hc1 h).mono ?_
  rintro e w' ⟨rfl, hd⟩
  exact ⟨rfl, hd⟩

end Go.Proofs.Ytnbelacakmfhcaa.PFnSymbol

-- PRINTED BY print.sh 35421559b90ae4d0a3588c463048766b98c2df88dd9212a6774a882060cdf62d: not written by this session
import Derived.Test.YtnbelacakmfhcaaPFnModuloBackx0
import Derived.Test.YtnbelacakmfhcaaPFnModuloBackx1
import Derived.Test.YtnbelacakmfhcaaPFnModuloBackx2
import Derived.Test.YtnbelacakmfhcaaPFnModuloBackx3
namespace Go.Proofs.Ytnbelacakmfhcaa.PFnModuloBack
open Go.RowKit Go.Proofs.YtnbelacakmfhcaaW.PrintWords Go.Proofs.YtnbelacakmfhcaaW.PrintLast Go.Proofs.YtnbelacakmfhcaaW.PrintMore
attribute [local go_sem] max2_int min2_int max_two min_two max_three min_three max_four min_four   -- for this text's walks alone
set_option linter.unusedVariables false
set_option linter.unusedSimpArgs false

/-! ### impl_waysModulo: function 68 -/
mutual
def impl_waysModulo.l0 : Nat → Int → Int → Int → Int → Int → Int → Int → Option (Int)
  | 0, _, _, _, _, _, _, _ => none
  | k + 1, x0, x1, x2, x3, x9, x13, x14 => if x14 < x13 then (impl_waysModulo.l1 k x0 x1 x2 x3 x9 x14 x13 x14 x3 0) else (some x9)
def impl_waysModulo.l1 : Nat → Int → Int → Int → Int → Int → Int → Int → Int → Int → Int → Option (Int)
  | 0, _, _, _, _, _, _, _, _, _, _ => none
  | k + 1, x0, x1, x2, x3, x9, x10, x13, x14, x17, x18 => if x18 < x17 then (impl_waysModulo.l2 k x0 x1 x2 x3 x9 x10 x18 x13 x14 x17 x18 x3 0) else (impl_waysModulo.l0 k x0 x1 x2 x3 x9 x13 (wrap64 (x14 + 1)))
def impl_waysModulo.l2 : Nat → Int → Int → Int → Int → Int → Int → Int → Int → Int → Int → Int → Int → Int → Option (Int)
  | 0, _, _, _, _, _, _, _, _, _, _, _, _, _ => none
  | k + 1, x0, x1, x2, x3, x9, x10, x11, x13, x14, x17, x18, x21, x22 => if x22 < x21 then (if x2 = 0 then (none) else (if (Int.tmod x10 x2) = 0 then (if (Int.tmod x11 x2) = 0 then (if (Int.tmod x22 x2) = 0 then (impl_waysModulo.l2 k x0 x1 x2 x3 x9 x10 x11 x13 x14 x17 x18 x21 (wrap64 (x22 + 1))) else ((impl_rest.f (wrap64 ((wrap64 ((wrap64 (x22 * x22)) - (wrap64 ((wrap64 (x0 * x10)) * x10)))) - (wrap64 ((wrap64 (x1 * x11)) * x11)))) x3).bind fun t199 => (if t199 = 0 then (impl_waysModulo.l2 k x0 x1 x2 x3 (wrap64 (x9 + 1)) x10 x11 x13 x14 x17 x18 x21 (wrap64 (x22 + 1))) else (impl_waysModulo.l2 k x0 x1 x2 x3 x9 x10 x11 x13 x14 x17 x18 x21 (wrap64 (x22 + 1)))))) else ((impl_rest.f (wrap64 ((wrap64 ((wrap64 (x22 * x22)) - (wrap64 ((wrap64 (x0 * x10)) * x10)))) - (wrap64 ((wrap64 (x1 * x11)) * x11)))) x3).bind fun t200 => (if t200 = 0 then (impl_waysModulo.l2 k x0 x1 x2 x3 (wrap64 (x9 + 1)) x10 x11 x13 x14 x17 x18 x21 (wrap64 (x22 + 1))) else (impl_waysModulo.l2 k x0 x1 x2 x3 x9 x10 x11 x13 x14 x17 x18 x21 (wrap64 (x22 + 1)))))) else ((impl_rest.f (wrap64 ((wrap64 ((wrap64 (x22 * x22)) - (wrap64 ((wrap64 (x0 * x10)) * x10)))) - (wrap64 ((wrap64 (x1 * x11)) * x11)))) x3).bind fun t201 => (if t201 = 0 then (impl_waysModulo.l2 k x0 x1 x2 x3 (wrap64 (x9 + 1)) x10 x11 x13 x14 x17 x18 x21 (wrap64 (x22 + 1))) else (impl_waysModulo.l2 k x0 x1 x2 x3 x9 x10 x11 x13 x14 x17 x18 x21 (wrap64 (x22 + 1))))))) else (impl_waysModulo.l1 k x0 x1 x2 x3 x9 x10 x13 x14 x17 (wrap64 (x18 + 1)))
end
def impl_waysModulo.f (k : Nat) (a0 : Int) (a1 : Int) (a2 : Int) (a3 : Int) : Option (Int) := impl_waysModulo.l0 k a0 a1 a2 a3 0 a3 0
theorem impl_waysModulo.mono_l : ∀ k, (∀ y0 y1 y2 y3 y4 y5 y6, LeO (impl_waysModulo.l0 k y0 y1 y2 y3 y4 y5 y6) (impl_waysModulo.l0 (k + 1) y0 y1 y2 y3 y4 y5 y6)) ∧ (∀ y0 y1 y2 y3 y4 y5 y6 y7 y8 y9, LeO (impl_waysModulo.l1 k y0 y1 y2 y3 y4 y5 y6 y7 y8 y9) (impl_waysModulo.l1 (k + 1) y0 y1 y2 y3 y4 y5 y6 y7 y8 y9)) ∧ (∀ y0 y1 y2 y3 y4 y5 y6 y7 y8 y9 y10 y11 y12, LeO (impl_waysModulo.l2 k y0 y1 y2 y3 y4 y5 y6 y7 y8 y9 y10 y11 y12) (impl_waysModulo.l2 (k + 1) y0 y1 y2 y3 y4 y5 y6 y7 y8 y9 y10 y11 y12))
  | 0 => ⟨fun _ _ _ _ _ _ _ r h => by simp [impl_waysModulo.l0] at h, fun _ _ _ _ _ _ _ _ _ _ r h => by simp [impl_waysModulo.l1] at h, fun _ _ _ _ _ _ _ _ _ _ _ _ _ r h => by simp [impl_waysModulo.l2] at h⟩
  | k + 1 => by
    obtain ⟨ih0, ih1, ih2⟩ := impl_waysModulo.mono_l k
    refine ⟨?_, ?_, ?_⟩
    · intro y0 y1 y2 y3 y4 y5 y6
      unfold impl_waysModulo.l0
      repeat' first
      | (with_reducible exact ih0 _ _ _ _ _ _ _)
      | (with_reducible exact ih1 _ _ _ _ _ _ _ _ _ _)
      | (with_reducible exact ih2 _ _ _ _ _ _ _ _ _ _ _ _ _)
      | (with_reducible exact LeO.refl _)
      | (with_reducible exact LeO.none _)
      | (with_reducible refine LeO.ite ?_ ?_)
      | (with_reducible refine LeO.bind ?_ (fun _ => ?_))
      | exact ih0 _ _ _ _ _ _ _
      | exact ih1 _ _ _ _ _ _ _ _ _ _
      | exact ih2 _ _ _ _ _ _ _ _ _ _ _ _ _
      | exact LeO.none _
      | refine LeO.ite ?_ ?_
      | refine LeO.bind ?_ (fun _ => ?_)
    · intro y0 y1 y2 y3 y4 y5 y6 y7 y8 y9
      unfold impl_waysModulo.l1
      repeat' first
      | (with_reducible exact ih0 _ _ _ _ _ _ _)
      | (with_reducible exact ih1 _ _ _ _ _ _ _ _ _ _)
      | (with_reducible exact ih2 _ _ _ _ _ _ _ _ _ _ _ _ _)
      | (with_reducible exact LeO.refl _)
      | (with_reducible exact LeO.none _)
      | (with_reducible refine LeO.ite ?_ ?_)
      | (with_reducible refine LeO.bind ?_ (fun _ => ?_))
      | exact ih0 _ _ _ _ _ _ _
      | exact ih1 _ _ _ _ _ _ _ _ _ _
      | exact ih2 _ _ _ _ _ _ _ _ _ _ _ _ _
      | exact LeO.none _
      | refine LeO.ite ?_ ?_
      | refine LeO.bind ?_ (fun _ => ?_)
    · intro y0 y1 y2 y3 y4 y5 y6 y7 y8 y9 y10 y11 y12
      unfold impl_waysModulo.l2
      repeat' first
      | (with_reducible exact ih0 _ _ _ _ _ _ _)
      | (with_reducible exact ih1 _ _ _ _ _ _ _ _ _ _)
      | (with_reducible exact ih2 _ _ _ _ _ _ _ _ _ _ _ _ _)
      | (with_reducible exact LeO.refl _)
      | (with_reducible exact LeO.none _)
      | (with_reducible refine LeO.ite ?_ ?_)
      | (with_reducible refine LeO.bind ?_ (fun _ => ?_))
      | exact ih0 _ _ _ _ _ _ _
      | exact ih1 _ _ _ _ _ _ _ _ _ _
      | exact ih2 _ _ _ _ _ _ _ _ _ _ _ _ _
      | exact LeO.none _
      | refine LeO.ite ?_ ?_
      | refine LeO.bind ?_ (fun _ => ?_)
theorem impl_waysModulo.mono : ∀ a0 a1 a2 a3 k, LeO (impl_waysModulo.f k a0 a1 a2 a3) (impl_waysModulo.f (k + 1) a0 a1 a2 a3) := by
  intro a0 a1 a2 a3 k
  obtain ⟨ih0, ih1, ih2⟩ := impl_waysModulo.mono_l k
  unfold impl_waysModulo.f
  repeat' first
      | (with_reducible exact ih0 _ _ _ _ _ _ _)
      | (with_reducible exact ih1 _ _ _ _ _ _ _ _ _ _)
      | (with_reducible exact ih2 _ _ _ _ _ _ _ _ _ _ _ _ _)
      | (with_reducible exact LeO.refl _)
      | (with_reducible exact LeO.none _)
      | (with_reducible refine LeO.ite ?_ ?_)
      | (with_reducible refine LeO.bind ?_ (fun _ => ?_))
      | exact ih0 _ _ _ _ _ _ _
      | exact ih1 _ _ _ _ _ _ _ _ _ _
      | exact ih2 _ _ _ _ _ _ _ _ _ _ _ _ _
      | exact LeO.none _
      | refine LeO.ite ?_ ?_
      | refine LeO.bind ?_ (fun _ => ?_)
set_option maxHeartbeats 8000000 in
set_option maxRecDepth 100000 in
theorem impl_waysModulo.calls (k : Nat) (a0 : Int) (a1 : Int) (a2 : Int) (a3 : Int) (r : Int) (w : World) (h : impl_waysModulo.f k a0 a1 a2 a3 = some r) :
    Calls Try.prog 68 #[.int .i64 a0, .int .i64 a1, .int .i64 a2, .int .i64 a3] w fun e w' => e = .returned (.int .i64 r) ∧ Drawn0 w w' := by
  have H : (impl_waysModulo.l0 k a0 a1 a2 a3 0 a3 0) = some r := h
  clear h
  have H' := Aside0.mk H
  clear H
  go_enter Try.func68, Try.ntmps68
  go_wp2
  go_loopg [9, 14] k (fun kq v9 v14 w' => ∃ (x9_1 : Int) (x14_1 : Int), v9 = .int .i64 x9_1 ∧ v14 = .int .i64 x14_1 ∧ Aside0 (impl_waysModulo.l0 kq a0 a1 a2 a3 x9_1 a3 x14_1 = some r) ∧ Aside0 (kq ≤ k) ∧ Drawn0 w w')
  case atStart => exact ⟨(0), (0), (by first | rfl | (simp; done) | (simp [*]; done)), (by first | rfl | (simp; done) | (simp [*]; done)), H', ⟨Nat.le_refl _⟩, by repeat (first | exact Drawn0.refl _ | apply Drawn0.step)⟩
  case round =>
    clear H'
    try clear p2
    obtain ⟨x9_1, x14_1, rfl, rfl, HA, HK1, ⟨m1, rfl⟩⟩ := hrel
    cases gk with
    | zero => exact absurd HA.out (by simp [impl_waysModulo.l0])
    | succ k1 =>
      have H := HA.out
      clear HA
      simp only [impl_waysModulo.l0] at H
      by_cases c5 : x14_1 < a3
      · rw [if_pos c5] at H
        have c5b0 : decide (x14_1 < a3) = true := decide_eq_true c5
        clear c5
        have H' := Aside0.mk H
        clear H
        go_wp2
        go_loopg [9, 18] k1 (fun kq v9 v18 w' => ∃ (x9_2 : Int) (x18_2 : Int), v9 = .int .i64 x9_2 ∧ v18 = .int .i64 x18_2 ∧ Aside0 (impl_waysModulo.l1 kq a0 a1 a2 a3 x9_2 x14_1 a3 x14_1 a3 x18_2 = some r) ∧ Aside0 (kq ≤ k1) ∧ Drawn0 w w')
        case atStart => exact ⟨(x9_1), (0), (by first | rfl | (simp; done) | (simp [*]; done)), (by first | rfl | (simp; done) | (simp [*]; done)), H', ⟨Nat.le_refl _⟩, by repeat (first | exact Drawn0.refl _ | apply Drawn0.step)⟩
        case round =>
          clear H'
          try clear p2
          try clear c5
          try clear c5b0
          try clear p2
          obtain ⟨x9_2, x18_2, rfl, rfl, HA, HK2, ⟨m2, rfl⟩⟩ := hrel
          cases gk with
          | zero => exact absurd HA.out (by simp [impl_waysModulo.l1])
          | succ k2 =>
            have H := HA.out
            clear HA
            simp only [impl_waysModulo.l1] at H
            by_cases c6 : x18_2 < a3
            · rw [if_pos c6] at H
              have c6b0 : decide (x18_2 < a3) = true := decide_eq_true c6
              clear c6
              have H' := Aside0.mk H
              clear H
              go_wp2
              go_loopg [9, 22] k2 (fun kq v9 v22 w' => ∃ (x9_3 : Int) (x22_3 : Int), v9 = .int .i64 x9_3 ∧ v22 = .int .i64 x22_3 ∧ Aside0 (impl_waysModulo.l2 kq a0 a1 a2 a3 x9_3 x14_1 x18_2 a3 x14_1 a3 x18_2 a3 x22_3 = some r) ∧ Aside0 (kq ≤ k2) ∧ Drawn0 w w')
              case atStart => exact ⟨(x9_2), (0), (by first | rfl | (simp; done) | (simp [*]; done)), (by first | rfl | (simp; done) | (simp [*]; done)), H', ⟨Nat.le_refl _⟩, by repeat (first | exact Drawn0.refl _ | apply Drawn0.step)⟩
              case round =>
                clear H'
                try clear p2
                try clear c5
                try clear c5b0
                try clear c6
                try clear c6b0
                try clear p2
                obtain ⟨x9_3, x22_3, rfl, rfl, HA, HK3, ⟨m3, rfl⟩⟩ := hrel
                cases gk with
                | zero => exact absurd HA.out (by simp [impl_waysModulo.l2])
                | succ k3 =>
                  have H := HA.out
                  clear HA
                  simp only [impl_waysModulo.l2] at H
                  by_cases c7 : x22_3 < a3
                  · rw [if_pos c7] at H
                    have c7b0 : decide (x22_3 < a3) = true := decide_eq_true c7
                    clear c7
                    by_cases c8 : a2 = 0
                    · rw [if_pos c8] at H
                      exact absurd H (by simp)
                    · rw [if_neg c8] at H
                      have c8b0 : (a2 == 0) = false := beq_eq_false_iff_ne.mpr c8
                      have c8b1 : (a2 != 0) = true := bne_iff_ne.mpr c8
                      by_cases c9 : (Int.tmod x14_1 a2) = 0
                      · rw [if_pos c9] at H
                        have c9b0 : ((Int.tmod x14_1 a2) == 0) = true := beq_iff_eq.mpr c9
                        have c9b1 : ((Int.tmod x14_1 a2) != 0) = false := bne_eq_false_iff_eq.mpr c9
                        clear c9
                        by_cases c10 : (Int.tmod x18_2 a2) = 0
                        · rw [if_pos c10] at H
                          have c10b0 : ((Int.tmod x18_2 a2) == 0) = true := beq_iff_eq.mpr c10
                          have c10b1 : ((Int.tmod x18_2 a2) != 0) = false := bne_eq_false_iff_eq.mpr c10
                          clear c10
                          by_cases c11 : (Int.tmod x22_3 a2) = 0
                          · rw [if_pos c11] at H
                            have c11b0 : ((Int.tmod x22_3 a2) == 0) = true := beq_iff_eq.mpr c11
                            have c11b1 : ((Int.tmod x22_3 a2) != 0) = false := bne_eq_false_iff_eq.mpr c11
                            clear c11
                            have H' := Aside0.mk H
                            clear H
                            go_wp2
                            go_roundg k3
                            case measure => have := HK1.out; have := HK2.out; have := HK3.out; omega
                            case rel => exact ⟨(x9_3), (wrap64 (x22_3 + 1)), (by first | rfl | (simp; done) | (simp [*]; done)), (by first | rfl | (simp; done) | (simp [*]; done)), H', ⟨by have := HK1.out; have := HK2.out; have := HK3.out; omega⟩, by repeat (first | exact Drawn0.refl _ | apply Drawn0.step)⟩
                          · rw [if_neg c11] at H
                            have c11b0 : ((Int.tmod x22_3 a2) == 0) = false := beq_eq_false_iff_ne.mpr c11
                            have c11b1 : ((Int.tmod x22_3 a2) != 0) = true := bne_iff_ne.mpr c11
                            replace H := Option.bind_eq_some_iff.mp H
                            obtain ⟨t199, A120, H⟩ := H
                            replace H : (if t199 = 0 then (impl_waysModulo.l2 k3 a0 a1 a2 a3 (wrap64 (x9_3 + 1)) x14_1 x18_2 a3 x14_1 a3 x18_2 a3 (wrap64 (x22_3 + 1))) else (impl_waysModulo.l2 k3 a0 a1 a2 a3 x9_3 x14_1 x18_2 a3 x14_1 a3 x18_2 a3 (wrap64 (x22_3 + 1)))) = some r := H
                            have A12 := Aside0.mk A120
                            clear A120
                            by_cases c13 : t199 = 0
                            · rw [if_pos c13] at H
                              have c13b0 : (t199 == 0) = true := beq_iff_eq.mpr c13
                              have c13b1 : (t199 != 0) = false := bne_eq_false_iff_eq.mpr c13
                              clear c13
                              have H' := Aside0.mk H
                              clear H
                              go_wp2_with (first | (go_at_call 87; (with_reducible refine (impl_rest.calls (wrap64 ((wrap64 ((wrap64 (x22_3 * x22_3)) - (wrap64 ((wrap64 (a0 * x14_1)) * x14_1)))) - (wrap64 ((wrap64 (a1 * x18_2)) * x18_2)))) a3 t199 _ A12.out).mono ?_); rintro e w' ⟨rfl, ⟨nd, rfl⟩⟩))
                              go_roundg k3
                              case measure => have := HK1.out; have := HK2.out; have := HK3.out; omega
                              case rel => exact ⟨(wrap64 (x9_3 + 1)), (wrap64 (x22_3 + 1)), (by first | rfl | (simp; done) | (simp [*]; done)), (by first | rfl | (simp; done) | (simp [*]; done)), H', ⟨by have := HK1.out; have := HK2.out; have := HK3.out; omega⟩, by repeat (first | exact Drawn0.refl _ | apply Drawn0.step)⟩
                            · rw [if_neg c13] at H
                              have c13b0 : (t199 == 0) = false := beq_eq_false_iff_ne.mpr c13
                              have c13b1 : (t199 != 0) = true := bne_iff_ne.mpr c13
                              have H' := Aside0.mk H
                              clear H
                              go_wp2_with (first | (go_at_call 87; (with_reducible refine (impl_rest.calls (wrap64 ((wrap64 ((wrap64 (x22_3 * x22_3)) - (wrap64 ((wrap64 (a0 * x14_1)) * x14_1)))) - (wrap64 ((wrap64 (a1 * x18_2)) * x18_2)))) a3 t199 _ A12.out).mono ?_); rintro e w' ⟨rfl, ⟨nd, rfl⟩⟩))
                              go_roundg k3
                              case measure => have := HK1.out; have := HK2.out; have := HK3.out; omega
                              case rel => exact ⟨(x9_3), (wrap64 (x22_3 + 1)), (by first | rfl | (simp; done) | (simp [*]; done)), (by first | rfl | (simp; done) | (simp [*]; done)), H', ⟨by have := HK1.out; have := HK2.out; have := HK3.out; omega⟩, by repeat (first | exact Drawn0.refl _ | apply Drawn0.step)⟩
                        · rw [if_neg c10] at H
                          have c10b0 : ((Int.tmod x18_2 a2) == 0) = false := beq_eq_false_iff_ne.mpr c10
                          have c10b1 : ((Int.tmod x18_2 a2) != 0) = true := bne_iff_ne.mpr c10
                          replace H := Option.bind_eq_some_iff.mp H
                          obtain ⟨t200, A140, H⟩ := H
                          replace H : (if t200 = 0 then (impl_waysModulo.l2 k3 a0 a1 a2 a3 (wrap64 (x9_3 + 1)) x14_1 x18_2 a3 x14_1 a3 x18_2 a3 (wrap64 (x22_3 + 1))) else (impl_waysModulo.l2 k3 a0 a1 a2 a3 x9_3 x14_1 x18_2 a3 x14_1 a3 x18_2 a3 (wrap64 (x22_3 + 1)))) = some r := H
                          have A14 := Aside0.mk A140
                          clear A140
                          by_cases c15 : t200 = 0
                          · rw [if_pos c15] at H
                            have c15b0 : (t200 == 0) = true := beq_iff_eq.mpr c15
                            have c15b1 : (t200 != 0) = false := bne_eq_false_iff_eq.mpr c15
                            clear c15
                            have H' := Aside0.mk H
                            clear H
                            go_wp2_with (first | (go_at_call 87; (with_reducible refine (impl_rest.calls (wrap64 ((wrap64 ((wrap64 (x22_3 * x22_3)) - (wrap64 ((wrap64 (a0 * x14_1)) * x14_1)))) - (wrap64 ((wrap64 (a1 * x18_2)) * x18_2)))) a3 t200 _ A14.out).mono ?_); rintro e w' ⟨rfl, ⟨nd, rfl⟩⟩))
                            go_roundg k3
                            case measure => have := HK1.out; have := HK2.out; have := HK3.out; omega
                            case rel => exact ⟨(wrap64 (x9_3 + 1)), (wrap64 (x22_3 + 1)), (by first | rfl | (simp; done) | (simp [*]; done)), (by first | rfl | (simp; done) | (simp [*]; done)), H', ⟨by have := HK1.out; have := HK2.out; have := HK3.out; omega⟩, by repeat (first | exact Drawn0.refl _ | apply Drawn0.step)⟩
                          · rw [if_neg c15] at H
                            have c15b0 : (t200 == 0) = false := beq_eq_false_iff_ne.mpr c15
                            have c15b1 : (t200 != 0) = true := bne_iff_ne.mpr c15
                            have H' := Aside0.mk H
                            clear H
                            go_wp2_with (first | (go_at_call 87; (with_reducible refine (impl_rest.calls (wrap64 ((wrap64 ((wrap64 (x22_3 * x22_3)) - (wrap64 ((wrap64 (a0 * x14_1)) * x14_1)))) - (wrap64 ((wrap64 (a1 * x18_2)) * x18_2)))) a3 t200 _ A14.out).mono ?_); rintro e w' ⟨rfl, ⟨nd, rfl⟩⟩))
                            go_roundg k3
                            case measure => have := HK1.out; have := HK2.out; have := HK3.out; omega
                            case rel => exact ⟨(x9_3), (wrap64 (x22_3 + 1)), (by first | rfl | (simp; done) | (simp [*]; done)), (by first | rfl | (simp; done) | (simp [*]; done)), H', ⟨by have := HK1.out; have := HK2.out; have := HK3.out; omega⟩, by repeat (first | exact Drawn0.refl _ | apply Drawn0.step)⟩
                      · rw [if_neg c9] at H
                        have c9b0 : ((Int.tmod x14_1 a2) == 0) = false := beq_eq_false_iff_ne.mpr c9
                        have c9b1 : ((Int.tmod x14_1 a2) != 0) = true := bne_iff_ne.mpr c9
                        replace H := Option.bind_eq_some_iff.mp H
                        obtain ⟨t201, A160, H⟩ := H
                        replace H : (if t201 = 0 then (impl_waysModulo.l2 k3 a0 a1 a2 a3 (wrap64 (x9_3 + 1)) x14_1 x18_2 a3 x14_1 a3 x18_2 a3 (wrap64 (x22_3 + 1))) else (impl_waysModulo.l2 k3 a0 a1 a2 a3 x9_3 x14_1 x18_2 a3 x14_1 a3 x18_2 a3 (wrap64 (x22_3 + 1)))) = some r := H
                        have A16 := Aside0.mk A160
                        clear A160
                        by_cases c17 : t201 = 0
                        · rw [if_pos c17] at H
                          have c17b0 : (t201 == 0) = true := beq_iff_eq.mpr c17
                          have c17b1 : (t201 != 0) = false := bne_eq_false_iff_eq.mpr c17
                          clear c17
                          have H' := Aside0.mk H
                          clear H
                          go_wp2_with (first | (go_at_call 87; (with_reducible refine (impl_rest.calls (wrap64 ((wrap64 ((wrap64 (x22_3 * x22_3)) - (wrap64 ((wrap64 (a0 * x14_1)) * x14_1)))) - (wrap64 ((wrap64 (a1 * x18_2)) * x18_2)))) a3 t201 _ A16.out).mono ?_); rintro e w' ⟨rfl, ⟨nd, rfl⟩⟩))
                          go_roundg k3
                          case measure => have := HK1.out; have := HK2.out; have := HK3.out; omega
                          case rel => exact ⟨(wrap64 (x9_3 + 1)), (wrap64 (x22_3 + 1)), (by first | rfl | (simp; done) | (simp [*]; done)), (by first | rfl | (simp; done) | (simp [*]; done)), H', ⟨by have := HK1.out; have := HK2.out; have := HK3.out; omega⟩, by repeat (first | exact Drawn0.refl _ | apply Drawn0.step)⟩
                        · rw [if_neg c17] at H
                          have c17b0 : (t201 == 0) = false := beq_eq_false_iff_ne.mpr c17
                          have c17b1 : (t201 != 0) = true := bne_iff_ne.mpr c17
                          have H' := Aside0.mk H
                          clear H
                          go_wp2_with (first | (go_at_call 87; (with_reducible refine (impl_rest.calls (wrap64 ((wrap64 ((wrap64 (x22_3 * x22_3)) - (wrap64 ((wrap64 (a0 * x14_1)) * x14_1)))) - (wrap64 ((wrap64 (a1 * x18_2)) * x18_2)))) a3 t201 _ A16.out).mono ?_); rintro e w' ⟨rfl, ⟨nd, rfl⟩⟩))
                          go_roundg k3
                          case measure => have := HK1.out; have := HK2.out; have := HK3.out; omega
                          case rel => exact ⟨(x9_3), (wrap64 (x22_3 + 1)), (by first | rfl | (simp; done) | (simp [*]; done)), (by first | rfl | (simp; done) | (simp [*]; done)), H', ⟨by have := HK1.out; have := HK2.out; have := HK3.out; omega⟩, by repeat (first | exact Drawn0.refl _ | apply Drawn0.step)⟩
                  · rw [if_neg c7] at H
                    have c7b0 : decide (x22_3 < a3) = false := decide_eq_false c7
                    clear c7
                    have H' := Aside0.mk H
                    clear H
                    go_wp2
                    go_roundg k3
                    case measure => have := HK1.out; have := HK2.out; have := HK3.out; omega
                    case rel => exact ⟨(x9_3), (wrap64 (x18_2 + 1)), (by first | rfl | (simp; done) | (simp [*]; done)), (by first | rfl | (simp; done) | (simp [*]; done)), H', ⟨by have := HK1.out; have := HK2.out; have := HK3.out; omega⟩, by repeat (first | exact Drawn0.refl _ | apply Drawn0.step)⟩
            · rw [if_neg c6] at H
              have c6b0 : decide (x18_2 < a3) = false := decide_eq_false c6
              clear c6
              have H' := Aside0.mk H
              clear H
              go_wp2
              go_roundg k2
              case measure => have := HK1.out; have := HK2.out; omega
              case rel => exact ⟨(x9_2), (wrap64 (x14_1 + 1)), (by first | rfl | (simp; done) | (simp [*]; done)), (by first | rfl | (simp; done) | (simp [*]; done)), H', ⟨by have := HK1.out; have := HK2.out; omega⟩, by repeat (first | exact Drawn0.refl _ | apply Drawn0.step)⟩
      · rw [if_neg c5] at H
        have c5b0 : decide (x14_1 < a3) = false := decide_eq_false c5
        clear c5
        obtain rfl := Option.some.inj H
        go_wp2
        go_ret
        exact ⟨by first | rfl | (simp; done) | (simp [*]; done), by repeat (first | exact Drawn0.refl _ | apply Drawn0.step)⟩

/-! ### impl_SymbolModulo: function 33 -/
def impl_SymbolModulo.j0 : Nat → Int → Int → Int → Int → Bool → Option (Bool)
  | 0, _, _, _, _, _ => none
  | k + 1, x0, x1, x2, x3, x31 => if x31 = true then (some false) else ((impl_power.f k x2 x3).bind fun t205 => ((impl_waysModulo.f k x0 x1 x2 t205).bind fun t206 => (some (decide (t206 > 0)))))
def impl_SymbolModulo.f (k : Nat) (a0 : Int) (a1 : Int) (a2 : Int) (a3 : Int) : Option (Bool) := (impl_bothNumbers.f a0 a1).bind fun t202 => (if t202 = true then ((impl_PrimeIs.f k a2).bind fun t203 => (if t203 = true then (if a3 < 1 then (impl_SymbolModulo.j0 k a0 a1 a2 a3 true) else (if a3 > 5 then (impl_SymbolModulo.j0 k a0 a1 a2 a3 true) else ((impl_power.f k a2 a3).bind fun t204 => (impl_SymbolModulo.j0 k a0 a1 a2 a3 (decide (t204 > 32)))))) else (impl_SymbolModulo.j0 k a0 a1 a2 a3 true))) else (impl_SymbolModulo.j0 k a0 a1 a2 a3 true))
theorem impl_SymbolModulo.mono_l : ∀ k, (∀ y0 y1 y2 y3 y4, LeO (impl_SymbolModulo.j0 k y0 y1 y2 y3 y4) (impl_SymbolModulo.j0 (k + 1) y0 y1 y2 y3 y4))
  | 0 => fun _ _ _ _ _ r h => by simp [impl_SymbolModulo.j0] at h
  | k + 1 => by
    have ih0 := impl_SymbolModulo.mono_l k
    · intro y0 y1 y2 y3 y4
      unfold impl_SymbolModulo.j0
      repeat' first
      | (with_reducible exact ih0 _ _ _ _ _)
      | (with_reducible exact impl_PrimeIs.mono _ _)
      | (with_reducible exact impl_power.mono _ _ _)
      | (with_reducible exact impl_waysModulo.mono _ _ _ _ _)
      | (with_reducible exact LeO.refl _)
      | (with_reducible exact LeO.none _)
      | (with_reducible refine LeO.ite ?_ ?_)
      | (with_reducible refine LeO.bind ?_ (fun _ => ?_))
      | exact ih0 _ _ _ _ _
      | exact impl_PrimeIs.mono _ _
      | exact impl_power.mono _ _ _
      | exact impl_waysModulo.mono _ _ _ _ _
      | exact LeO.none _
      | refine LeO.ite ?_ ?_
      | refine LeO.bind ?_ (fun _ => ?_)
theorem impl_SymbolModulo.mono : ∀ a0 a1 a2 a3 k, LeO (impl_SymbolModulo.f k a0 a1 a2 a3) (impl_SymbolModulo.f (k + 1) a0 a1 a2 a3) := by
  intro a0 a1 a2 a3 k
  have ih0 := impl_SymbolModulo.mono_l k
  unfold impl_SymbolModulo.f
  repeat' first
      | (with_reducible exact ih0 _ _ _ _ _)
      | (with_reducible exact impl_PrimeIs.mono _ _)
      | (with_reducible exact impl_power.mono _ _ _)
      | (with_reducible exact impl_waysModulo.mono _ _ _ _ _)
      | (with_reducible exact LeO.refl _)
      | (with_reducible exact LeO.none _)
      | (with_reducible refine LeO.ite ?_ ?_)
      | (with_reducible refine LeO.bind ?_ (fun _ => ?_))
      | exact ih0 _ _ _ _ _
      | exact impl_PrimeIs.mono _ _
      | exact impl_power.mono _ _ _
      | exact impl_waysModulo.mono _ _ _ _ _
      | exact LeO.none _
      | refine LeO.ite ?_ ?_
      | refine LeO.bind ?_ (fun _ => ?_)
set_option maxHeartbeats 8000000 in
set_option maxRecDepth 100000 in
theorem impl_SymbolModulo.calls (k : Nat) (a0 : Int) (a1 : Int) (a2 : Int) (a3 : Int) (r : Bool) (w : World) (h : impl_SymbolModulo.f k a0 a1 a2 a3 = some r) :
    Calls Try.prog 33 #[.int .i64 a0, .int .i64 a1, .int .i64 a2, .int .i64 a3] w fun e w' => e = .returned (.bool r) ∧ Drawn0 w w' := by
  have H : ((impl_bothNumbers.f a0 a1).bind fun t202 => (if t202 = true then ((impl_PrimeIs.f k a2).bind fun t203 => (if t203 = true then (if a3 < 1 then (impl_SymbolModulo.j0 k a0 a1 a2 a3 true) else (if a3 > 5 then (impl_SymbolModulo.j0 k a0 a1 a2 a3 true) else ((impl_power.f k a2 a3).bind fun t204 => (impl_SymbolModulo.j0 k a0 a1 a2 a3 (decide (t204 > 32)))))) else (impl_SymbolModulo.j0 k a0 a1 a2 a3 true))) else (impl_SymbolModulo.j0 k a0 a1 a2 a3 true))) = some r := h
  clear h
  have HC5 := Aside0.mk H
  clear H
  go_enter Try.func33, Try.ntmps33
  go_upto_region 1 with (fail)
  go_cut [31] (fun v31 wc => ∃ (kq : Nat) (x31_4 : Bool), v31 = .bool x31_4 ∧ Aside0 (impl_SymbolModulo.j0 kq a0 a1 a2 a3 x31_4 = some r) ∧ Aside0 (kq ≤ k) ∧ Drawn0 w wc)
  case first =>
    have H := HC5.out
    clear HC5
    replace H := Option.bind_eq_some_iff.mp H
    obtain ⟨t202, A60, H⟩ := H
    replace H : (if t202 = true then ((impl_PrimeIs.f k a2).bind fun t203 => (if t203 = true then (if a3 < 1 then (impl_SymbolModulo.j0 k a0 a1 a2 a3 true) else (if a3 > 5 then (impl_SymbolModulo.j0 k a0 a1 a2 a3 true) else ((impl_power.f k a2 a3).bind fun t204 => (impl_SymbolModulo.j0 k a0 a1 a2 a3 (decide (t204 > 32)))))) else (impl_SymbolModulo.j0 k a0 a1 a2 a3 true))) else (impl_SymbolModulo.j0 k a0 a1 a2 a3 true)) = some r := H
    have A6 := Aside0.mk A60
    clear A60
    by_cases c7 : t202 = true
    · subst c7
      have H1 : ((impl_PrimeIs.f k a2).bind fun t203 => (if t203 = true then (if a3 < 1 then (impl_SymbolModulo.j0 k a0 a1 a2 a3 true) else (if a3 > 5 then (impl_SymbolModulo.j0 k a0 a1 a2 a3 true) else ((impl_power.f k a2 a3).bind fun t204 => (impl_SymbolModulo.j0 k a0 a1 a2 a3 (decide (t204 > 32)))))) else (impl_SymbolModulo.j0 k a0 a1 a2 a3 true))) = some r := by rw [if_pos rfl] at H; exact H
      clear H
      have H := H1
      clear H1
      replace H := Option.bind_eq_some_iff.mp H
      obtain ⟨t203, A80, H⟩ := H
      replace H : (if t203 = true then (if a3 < 1 then (impl_SymbolModulo.j0 k a0 a1 a2 a3 true) else (if a3 > 5 then (impl_SymbolModulo.j0 k a0 a1 a2 a3 true) else ((impl_power.f k a2 a3).bind fun t204 => (impl_SymbolModulo.j0 k a0 a1 a2 a3 (decide (t204 > 32)))))) else (impl_SymbolModulo.j0 k a0 a1 a2 a3 true)) = some r := H
      have A8 := Aside0.mk A80
      clear A80
      by_cases c9 : t203 = true
      · subst c9
        have H1 : (if a3 < 1 then (impl_SymbolModulo.j0 k a0 a1 a2 a3 true) else (if a3 > 5 then (impl_SymbolModulo.j0 k a0 a1 a2 a3 true) else ((impl_power.f k a2 a3).bind fun t204 => (impl_SymbolModulo.j0 k a0 a1 a2 a3 (decide (t204 > 32)))))) = some r := by rw [if_pos rfl] at H; exact H
        clear H
        have H := H1
        clear H1
        by_cases c10 : a3 < 1
        · rw [if_pos c10] at H
          have c10b0 : decide (a3 < 1) = true := decide_eq_true c10
          clear c10
          (first | rw [c10b0] | (simp only [i64_w, i32_w]; rw [c10b0]) | skip)
          have H' := Aside0.mk H
          clear H
          go_wp2_with (first | ((with_reducible refine gate_callee (f := 53) rfl ?_); refine goesL_ (some 11) rfl rfl Try.func53 (by kernel_rfl) rfl #[.int .i64 a0, .int .i64 a1] rfl (by (try simp only [List.map_toArray, List.map_cons, List.map_nil]); first | done | rfl | (simp only [List.length_drop, List.length_take]; rfl)) ?_; (with_reducible refine (impl_bothNumbers.calls a0 a1 true _ A6.out).mono ?_); rintro e w' ⟨rfl, ⟨nd, rfl⟩⟩; refine ⟨_, rfl, ?_⟩) | (go_at_call 66; (with_reducible refine (impl_PrimeIs.calls k a2 true _ A8.out).mono ?_); rintro e w' ⟨rfl, ⟨nd, rfl⟩⟩))
          go_meet
          case rel => exact ⟨_, (true), (by first | rfl | (simp; done) | (simp [*]; done)), H', ⟨by first | omega | exact Nat.le_refl _⟩, by repeat (first | exact Drawn0.refl _ | apply Drawn0.step)⟩
        · rw [if_neg c10] at H
          have c10b0 : decide (a3 < 1) = false := decide_eq_false c10
          clear c10
          (first | rw [c10b0] | (simp only [i64_w, i32_w]; rw [c10b0]) | skip)
          by_cases c11 : a3 > 5
          · rw [if_pos c11] at H
            have c11b0 : decide (5 < a3) = true := decide_eq_true c11
            clear c11
            have H' := Aside0.mk H
            clear H
            go_wp2_with (first | ((with_reducible refine gate_callee (f := 53) rfl ?_); refine goesL_ (some 11) rfl rfl Try.func53 (by kernel_rfl) rfl #[.int .i64 a0, .int .i64 a1] rfl (by (try simp only [List.map_toArray, List.map_cons, List.map_nil]); first | done | rfl | (simp only [List.length_drop, List.length_take]; rfl)) ?_; (with_reducible refine (impl_bothNumbers.calls a0 a1 true _ A6.out).mono ?_); rintro e w' ⟨rfl, ⟨nd, rfl⟩⟩; refine ⟨_, rfl, ?_⟩) | (go_at_call 66; (with_reducible refine (impl_PrimeIs.calls k a2 true _ A8.out).mono ?_); rintro e w' ⟨rfl, ⟨nd, rfl⟩⟩))
            go_meet
            case rel => exact ⟨_, (true), (by first | rfl | (simp; done) | (simp [*]; done)), H', ⟨by first | omega | exact Nat.le_refl _⟩, by repeat (first | exact Drawn0.refl _ | apply Drawn0.step)⟩
          · rw [if_neg c11] at H
            have c11b0 : decide (5 < a3) = false := decide_eq_false c11
            clear c11
            replace H := Option.bind_eq_some_iff.mp H
            obtain ⟨t204, A120, H⟩ := H
            replace H : (impl_SymbolModulo.j0 k a0 a1 a2 a3 (decide (t204 > 32))) = some r := H
            have A12 := Aside0.mk A120
            clear A120
            have H' := Aside0.mk H
            clear H
            go_wp2_with (first | ((with_reducible refine gate_callee (f := 53) rfl ?_); refine goesL_ (some 11) rfl rfl Try.func53 (by kernel_rfl) rfl #[.int .i64 a0, .int .i64 a1] rfl (by (try simp only [List.map_toArray, List.map_cons, List.map_nil]); first | done | rfl | (simp only [List.length_drop, List.length_take]; rfl)) ?_; (with_reducible refine (impl_bothNumbers.calls a0 a1 true _ A6.out).mono ?_); rintro e w' ⟨rfl, ⟨nd, rfl⟩⟩; refine ⟨_, rfl, ?_⟩) | (go_at_call 66; (with_reducible refine (impl_PrimeIs.calls k a2 true _ A8.out).mono ?_); rintro e w' ⟨rfl, ⟨nd, rfl⟩⟩) | (go_at_call 67; (with_reducible refine (impl_power.calls k a2 a3 t204 _ A12.out).mono ?_); rintro e w' ⟨rfl, ⟨nd, rfl⟩⟩))
            go_meet
            case rel => exact ⟨_, (decide (t204 > 32)), (by first | rfl | (simp; done) | (simp [*]; done)), H', ⟨by first | omega | exact Nat.le_refl _⟩, by repeat (first | exact Drawn0.refl _ | apply Drawn0.step)⟩
      · replace c9 := Bool.eq_false_iff.mpr c9
        subst c9
        have H1 : (impl_SymbolModulo.j0 k a0 a1 a2 a3 true) = some r := by rw [if_neg (show ¬ (false = true) by decide)] at H; exact H
        clear H
        have H := H1
        clear H1
        have H' := Aside0.mk H
        clear H
        go_wp2_with (first | ((with_reducible refine gate_callee (f := 53) rfl ?_); refine goesL_ (some 11) rfl rfl Try.func53 (by kernel_rfl) rfl #[.int .i64 a0, .int .i64 a1] rfl (by (try simp only [List.map_toArray, List.map_cons, List.map_nil]); first | done | rfl | (simp only [List.length_drop, List.length_take]; rfl)) ?_; (with_reducible refine (impl_bothNumbers.calls a0 a1 true _ A6.out).mono ?_); rintro e w' ⟨rfl, ⟨nd, rfl⟩⟩; refine ⟨_, rfl, ?_⟩) | (go_at_call 66; (with_reducible refine (impl_PrimeIs.calls k a2 false _ A8.out).mono ?_); rintro e w' ⟨rfl, ⟨nd, rfl⟩⟩))
        go_meet
        case rel => exact ⟨_, (true), (by first | rfl | (simp; done) | (simp [*]; done)), H', ⟨by first | omega | exact Nat.le_refl _⟩, by repeat (first | exact Drawn0.refl _ | apply Drawn0.step)⟩
    · replace c7 := Bool.eq_false_iff.mpr c7
      subst c7
      have H1 : (impl_SymbolModulo.j0 k a0 a1 a2 a3 true) = some r := by rw [if_neg (show ¬ (false = true) by decide)] at H; exact H
      clear H
      have H := H1
      clear H1
      have H' := Aside0.mk H
      clear H
      go_wp2_with (first | ((with_reducible refine gate_callee (f := 53) rfl ?_); refine goesL_ (some 11) rfl rfl Try.func53 (by kernel_rfl) rfl #[.int .i64 a0, .int .i64 a1] rfl (by (try simp only [List.map_toArray, List.map_cons, List.map_nil]); first | done | rfl | (simp only [List.length_drop, List.length_take]; rfl)) ?_; (with_reducible refine (impl_bothNumbers.calls a0 a1 false _ A6.out).mono ?_); rintro e w' ⟨rfl, ⟨nd, rfl⟩⟩; refine ⟨_, rfl, ?_⟩))
      go_meet
      case rel => exact ⟨_, (true), (by first | rfl | (simp; done) | (simp [*]; done)), H', ⟨by first | omega | exact Nat.le_refl _⟩, by repeat (first | exact Drawn0.refl _ | apply Drawn0.step)⟩
  case rest =>
    clear HC5
    try clear c1
    try clear p2
    try clear c3
    try clear c5
    try clear c7
    try clear c9
    try clear c10
    try clear c10b0
    try clear c11
    try clear c11b0
    obtain ⟨kq, x31_4, rfl, HA, HJ4, ⟨mc4, rfl⟩⟩ := hcut
    cases kq with
    | zero => exact absurd HA.out (by simp [impl_SymbolModulo.j0])
    | succ kj4 =>
      have H := HA.out
      clear HA
      simp only [impl_SymbolModulo.j0] at H
      by_cases c13 : x31_4 = true
      · subst c13
        have H1 : (some false) = some r := by rw [if_pos rfl] at H; exact H
        clear H
        have H := H1
        clear H1
        obtain rfl := Option.some.inj H
        go_wp2
        go_ret
        exact ⟨by first | rfl | (simp; done) | (simp [*]; done), by repeat (first | exact Drawn0.refl _ | apply Drawn0.step)⟩
      · replace c13 := Bool.eq_false_iff.mpr c13
        subst c13
        have H1 : ((impl_power.f kj4 a2 a3).bind fun t205 => ((impl_waysModulo.f kj4 a0 a1 a2 t205).bind fun t206 => (some (decide (t206 > 0))))) = some r := by rw [if_neg (show ¬ (false = true) by decide)] at H; exact H
        clear H
        have H := H1
        clear H1
        replace H := Option.bind_eq_some_iff.mp H
        obtain ⟨t205, A140, H⟩ := H
        replace H : ((impl_waysModulo.f kj4 a0 a1 a2 t205).bind fun t206 => (some (decide (t206 > 0)))) = some r := H
        have A14 := Aside0.mk A140
        clear A140
        replace H := Option.bind_eq_some_iff.mp H
        obtain ⟨t206, A150, H⟩ := H
        replace H : (some (decide (t206 > 0))) = some r := H
        have A15 := Aside0.mk A150
        clear A150
        obtain rfl := Option.some.inj H
        go_wp2_with (first | ((with_reducible refine gate_callee (f := 67) rfl ?_); refine goesL_ (some 37) rfl rfl Try.func67 (by kernel_rfl) rfl #[.int .i64 a2, .int .i64 a3] rfl (by (try simp only [List.map_toArray, List.map_cons, List.map_nil]); first | done | rfl | (simp only [List.length_drop, List.length_take]; rfl)) ?_; (with_reducible refine (impl_power.calls kj4 a2 a3 t205 _ A14.out).mono ?_); rintro e w' ⟨rfl, ⟨nd, rfl⟩⟩; refine ⟨_, rfl, ?_⟩) | ((with_reducible refine gate_callee (f := 68) rfl ?_); refine goesL_ (some 38) rfl rfl Try.func68 (by kernel_rfl) rfl #[.int .i64 a0, .int .i64 a1, .int .i64 a2, .int .i64 t205] rfl (by (try simp only [List.map_toArray, List.map_cons, List.map_nil]); first | done | rfl | (simp only [List.length_drop, List.length_take]; rfl)) ?_; (with_reducible refine (impl_waysModulo.calls kj4 a0 a1 a2 t205 t206 _ A15.out).mono ?_); rintro e w' ⟨rfl, ⟨nd, rfl⟩⟩; refine ⟨_, rfl, ?_⟩))
        go_ret
        exact ⟨by first | rfl | (simp; done) | (simp [*]; done), by repeat (first | exact Drawn0.refl _ | apply Drawn0.step)⟩

/-! ### laws_FnModuloBack: function 10 -/
mutual
def laws_FnModuloBack.j0 : Nat → Int → Int → Int → Int → Int → Bool → Option (Bool)
  | 0, _, _, _, _, _, _ => none
  | k + 1, x3, x4, x5, x6, x7, x31 => if x31 = true then (some (x6 == x7)) else (if x6 = 1 then (if x5 = 2 then (laws_FnModuloBack.j1 k x3 x4 x5 x6 false) else (laws_FnModuloBack.j1 k x3 x4 x5 x6 (x5 != 3))) else (laws_FnModuloBack.j1 k x3 x4 x5 x6 true))
def laws_FnModuloBack.j1 : Nat → Int → Int → Int → Int → Bool → Option (Bool)
  | 0, _, _, _, _, _ => none
  | k + 1, x3, x4, x5, x6, x44 => if x44 = true then (if x6 = 1 then (some true) else (some (x6 == (-1)))) else ((impl_SymbolModulo.f k x3 x4 x5 1).bind fun t212 => (if t212 = true then ((impl_SymbolModulo.f k x3 x4 x5 2).bind fun t213 => (if t213 = true then ((impl_SymbolModulo.f k x3 x4 x5 3).bind fun t214 => (some t214)) else (some false))) else (some false)))
end
def laws_FnModuloBack.f (k : Nat) (l0 : List Int) : Option (Bool) := if (l0.length : Int) > 1048576 then (some true) else ((spec_DrawSymbolOf.f k l0).bind fun bt207 => ((impl_SymbolOf.f k bt207.1 bt207.2.1 bt207.2.2).bind fun t210 => ((spec_SymbolOf.f k bt207.1 bt207.2.1 bt207.2.2).bind fun t211 => (if t210 = t211 then (laws_FnModuloBack.j0 k bt207.1 bt207.2.1 bt207.2.2 t210 t211 (t210 == 0)) else (laws_FnModuloBack.j0 k bt207.1 bt207.2.1 bt207.2.2 t210 t211 true)))))
theorem laws_FnModuloBack.mono_l : ∀ k, (∀ y0 y1 y2 y3 y4 y5, LeO (laws_FnModuloBack.j0 k y0 y1 y2 y3 y4 y5) (laws_FnModuloBack.j0 (k + 1) y0 y1 y2 y3 y4 y5)) ∧ (∀ y0 y1 y2 y3 y4, LeO (laws_FnModuloBack.j1 k y0 y1 y2 y3 y4) (laws_FnModuloBack.j1 (k + 1) y0 y1 y2 y3 y4))
  | 0 => ⟨fun _ _ _ _ _ _ r h => by simp [laws_FnModuloBack.j0] at h, fun _ _ _ _ _ r h => by simp [laws_FnModuloBack.j1] at h⟩
  | k + 1 => by
    obtain ⟨ih0, ih1⟩ := laws_FnModuloBack.mono_l k
    refine ⟨?_, ?_⟩
    · intro y0 y1 y2 y3 y4 y5
      unfold laws_FnModuloBack.j0
      repeat' first
      | (with_reducible exact ih0 _ _ _ _ _ _)
      | (with_reducible exact ih1 _ _ _ _ _)
      | (with_reducible exact impl_SymbolModulo.mono _ _ _ _ _)
      | (with_reducible exact impl_SymbolOf.mono _ _ _ _)
      | (with_reducible exact spec_DrawSymbolOf.mono _ _)
      | (with_reducible exact spec_SymbolOf.mono _ _ _ _)
      | (with_reducible exact LeO.refl _)
      | (with_reducible exact LeO.none _)
      | (with_reducible refine LeO.ite ?_ ?_)
      | (with_reducible refine LeO.bind ?_ (fun _ => ?_))
      | exact ih0 _ _ _ _ _ _
      | exact ih1 _ _ _ _ _
      | exact impl_SymbolModulo.mono _ _ _ _ _
      | exact impl_SymbolOf.mono _ _ _ _
      | exact spec_DrawSymbolOf.mono _ _
      | exact spec_SymbolOf.mono _ _ _ _
      | exact LeO.none _
      | refine LeO.ite ?_ ?_
      | refine LeO.bind ?_ (fun _ => ?_)
    · intro y0 y1 y2 y3 y4
      unfold laws_FnModuloBack.j1
      repeat' first
      | (with_reducible exact ih0 _ _ _ _ _ _)
      | (with_reducible exact ih1 _ _ _ _ _)
      | (with_reducible exact impl_SymbolModulo.mono _ _ _ _ _)
      | (with_reducible exact impl_SymbolOf.mono _ _ _ _)
      | (with_reducible exact spec_DrawSymbolOf.mono _ _)
      | (with_reducible exact spec_SymbolOf.mono _ _ _ _)
      | (with_reducible exact LeO.refl _)
      | (with_reducible exact LeO.none _)
      | (with_reducible refine LeO.ite ?_ ?_)
      | (with_reducible refine LeO.bind ?_ (fun _ => ?_))
      | exact ih0 _ _ _ _ _ _
      | exact ih1 _ _ _ _ _
      | exact impl_SymbolModulo.mono _ _ _ _ _
      | exact impl_SymbolOf.mono _ _ _ _
      | exact spec_DrawSymbolOf.mono _ _
      | exact spec_SymbolOf.mono _ _ _ _
      | exact LeO.none _
      | refine LeO.ite ?_ ?_
      | refine LeO.bind ?_ (fun _ => ?_)
theorem laws_FnModuloBack.mono : ∀ a0 k, LeO (laws_FnModuloBack.f k a0) (laws_FnModuloBack.f (k + 1) a0) := by
  intro a0 k
  obtain ⟨ih0, ih1⟩ := laws_FnModuloBack.mono_l k
  unfold laws_FnModuloBack.f
  repeat' first
      | (with_reducible exact ih0 _ _ _ _ _ _)
      | (with_reducible exact ih1 _ _ _ _ _)
      | (with_reducible exact impl_SymbolModulo.mono _ _ _ _ _)
      | (with_reducible exact impl_SymbolOf.mono _ _ _ _)
      | (with_reducible exact spec_DrawSymbolOf.mono _ _)
      | (with_reducible exact spec_SymbolOf.mono _ _ _ _)
      | (with_reducible exact LeO.refl _)
      | (with_reducible exact LeO.none _)
      | (with_reducible refine LeO.ite ?_ ?_)
      | (with_reducible refine LeO.bind ?_ (fun _ => ?_))
      | exact ih0 _ _ _ _ _ _
      | exact ih1 _ _ _ _ _
      | exact impl_SymbolModulo.mono _ _ _ _ _
      | exact impl_SymbolOf.mono _ _ _ _
      | exact spec_DrawSymbolOf.mono _ _
      | exact spec_SymbolOf.mono _ _ _ _
      | exact LeO.none _
      | refine LeO.ite ?_ ?_
      | refine LeO.bind ?_ (fun _ => ?_)
set_option maxHeartbeats 8000000 in
set_option maxRecDepth 100000 in
theorem laws_FnModuloBack.calls (k : Nat) (A0 : Option Addr) (c0 : Nat) (l0 : List Int) (r : Bool) (w : World) (hr0 : Kd.C (Kd.int .u8) w A0 l0.length l0) (hc0 : l0.length ≤ c0) (h : laws_FnModuloBack.f k l0 = some r) :
    Calls Try.prog 10 #[.slice A0 l0.length c0] w fun e w' => e = .returned (.bool r) ∧ Below w.heap.size w w' := by
  have HR0 := Aside0.mk hr0
  have HC0 := Aside0.mk hc0
  clear hr0 hc0
  have HB := Aside0.mk (Below.refl w.heap.size w)
  have H : (if (l0.length : Int) > 1048576 then (some true) else ((spec_DrawSymbolOf.f k l0).bind fun bt207 => ((impl_SymbolOf.f k bt207.1 bt207.2.1 bt207.2.2).bind fun t210 => ((spec_SymbolOf.f k bt207.1 bt207.2.1 bt207.2.2).bind fun t211 => (if t210 = t211 then (laws_FnModuloBack.j0 k bt207.1 bt207.2.1 bt207.2.2 t210 t211 (t210 == 0)) else (laws_FnModuloBack.j0 k bt207.1 bt207.2.1 bt207.2.2 t210 t211 true)))))) = some r := h
  clear h
  by_cases c2 : (l0.length : Int) > 1048576
  · rw [if_pos c2] at H
    have c2b0 : decide (1048576 < (l0.length : Int)) = true := decide_eq_true c2
    have c2b1 : decide (1048576 < l0.length) = true := decide_eq_true (by omega)
    clear c2
    obtain rfl := Option.some.inj H
    go_enter Try.func10, Try.ntmps10
    go_wp2
    go_ret
    exact ⟨by first | rfl | (simp [errW_none, errW_some] <;> rfl) | (simp [*, errW_none, errW_some] <;> rfl), by repeat (first | (with_reducible first | exact HB.out | apply below_alloc | apply pw_below_drewN | apply below_drew1) | exact HB.out)⟩
  · rw [if_neg c2] at H
    have c2b0 : decide (1048576 < (l0.length : Int)) = false := decide_eq_false c2
    have c2b1 : decide (1048576 < l0.length) = false := decide_eq_false (by omega)
    clear c2
    replace H := Option.bind_eq_some_iff.mp H
    obtain ⟨⟨t207, t208, t209⟩, A30, H⟩ := H
    replace H : ((impl_SymbolOf.f k t207 t208 t209).bind fun t210 => ((spec_SymbolOf.f k t207 t208 t209).bind fun t211 => (if t210 = t211 then (laws_FnModuloBack.j0 k t207 t208 t209 t210 t211 (t210 == 0)) else (laws_FnModuloBack.j0 k t207 t208 t209 t210 t211 true)))) = some r := H
    have A3 := Aside0.mk A30
    clear A30
    replace H := Option.bind_eq_some_iff.mp H
    obtain ⟨t210, A40, H⟩ := H
    replace H : ((spec_SymbolOf.f k t207 t208 t209).bind fun t211 => (if t210 = t211 then (laws_FnModuloBack.j0 k t207 t208 t209 t210 t211 (t210 == 0)) else (laws_FnModuloBack.j0 k t207 t208 t209 t210 t211 true))) = some r := H
    have A4 := Aside0.mk A40
    clear A40
    replace H := Option.bind_eq_some_iff.mp H
    obtain ⟨t211, A50, H⟩ := H
    replace H : (if t210 = t211 then (laws_FnModuloBack.j0 k t207 t208 t209 t210 t211 (t210 == 0)) else (laws_FnModuloBack.j0 k t207 t208 t209 t210 t211 true)) = some r := H
    have A5 := Aside0.mk A50
    clear A50
    have HC6 := Aside0.mk H
    clear H
    go_enter Try.func10, Try.ntmps10
    go_upto_region 6 with (first | ((with_reducible refine gate_callee (f := 28) rfl ?_); refine goesL_ (some 13) rfl rfl Try.func28 (by kernel_rfl) rfl #[.slice A0 l0.length c0] rfl (by (try simp only [List.map_toArray, List.map_cons, List.map_nil]); first | done | rfl | (simp only [List.length_drop, List.length_take]; rfl)) ?_; (with_reducible refine (spec_DrawSymbolOf.calls k _ _ l0 t207 t208 t209 _ ?side1 ?side2 A3.out).mono ?_); (case side1 => repeat (first | exact HR0.out | (with_reducible refine Kd.C_alloc ?_ _) | (with_reducible refine Kd.C_drewN ?_ _) | (with_reducible refine Kd.C_drew ?_))); (case side2 => exact HC0.out); rintro e w7 ⟨rfl, hb⟩; refine ⟨_, rfl, ?_⟩; have n0_ := Aside0.mk (below_step (by repeat (first | (with_reducible first | exact HB.out | apply below_alloc | apply pw_below_drewN | apply below_drew1) | exact HB.out)) hb); clear HB; have HB := n0_; clear n0_; (try clear hb); (try clear hb2); (try clear hk); (try clear hi)) | ((with_reducible refine gate_callee (f := 29) rfl ?_); refine goesL_ (some 20) rfl rfl Try.func29 (by kernel_rfl) rfl #[.int .i64 t207, .int .i64 t208, .int .i64 t209] rfl (by (try simp only [List.map_toArray, List.map_cons, List.map_nil]); first | done | rfl | (simp only [List.length_drop, List.length_take]; rfl)) ?_; (with_reducible refine (impl_SymbolOf.calls k t207 t208 t209 t210 _ A4.out).mono ?_); rintro e w' ⟨rfl, ⟨nd, rfl⟩⟩; refine ⟨_, rfl, ?_⟩) | ((with_reducible refine gate_callee (f := 30) rfl ?_); refine goesL_ (some 24) rfl rfl Try.func30 (by kernel_rfl) rfl #[.int .i64 t207, .int .i64 t208, .int .i64 t209] rfl (by (try simp only [List.map_toArray, List.map_cons, List.map_nil]); first | done | rfl | (simp only [List.length_drop, List.length_take]; rfl)) ?_; (with_reducible refine (spec_SymbolOf.calls k t207 t208 t209 t211 _ A5.out).mono ?_); rintro e w' ⟨rfl, ⟨nd, rfl⟩⟩; refine ⟨_, rfl, ?_⟩))
    (try simp only [Act.put, List.setIfInBounds_toArray, List.set_cons_zero, List.set_cons_succ])
    go_cut [31] (fun v31 wc => ∃ (kq : Nat) (x31_5 : Bool), v31 = .bool x31_5 ∧ Aside0 (laws_FnModuloBack.j0 kq t207 t208 t209 t210 t211 x31_5 = some r) ∧ Aside0 (kq ≤ k) ∧ Aside0 (Below w.heap.size w wc))
    case first =>
      have H := HC6.out
      clear HC6
      by_cases c8 : t210 = t211
      · rw [if_pos c8] at H
        have c8b0 : (t210 == t211) = true := beq_iff_eq.mpr c8
        have c8b1 : (t210 != t211) = false := bne_eq_false_iff_eq.mpr c8
        clear c8
        (first | rw [c8b0] | (simp only [i64_w, i32_w]; rw [c8b0]) | skip)
        have H' := Aside0.mk H
        clear H
        go_wp2
        go_meet
        case rel => exact ⟨_, ((t210 == 0)), (by first | rfl | (simp; done) | (simp [*]; done)), H', ⟨by first | omega | exact Nat.le_refl _⟩, ⟨by repeat (first | (with_reducible first | exact HB.out | apply below_alloc | apply pw_below_drewN | apply below_drew1) | exact HB.out)⟩⟩
      · rw [if_neg c8] at H
        have c8b0 : (t210 == t211) = false := beq_eq_false_iff_ne.mpr c8
        have c8b1 : (t210 != t211) = true := bne_iff_ne.mpr c8
        (first | rw [c8b0] | (simp only [i64_w, i32_w]; rw [c8b0]) | skip)
        have H' := Aside0.mk H
        clear H
        go_wp2
        go_meet
        case rel => exact ⟨_, (true), (by first | rfl | (simp; done) | (simp [*]; done)), H', ⟨by first | omega | exact Nat.le_refl _⟩, ⟨by repeat (first | (with_reducible first | exact HB.out | apply below_alloc | apply pw_below_drewN | apply below_drew1) | exact HB.out)⟩⟩
    case rest =>
      clear HC6
      try clear c1
      try clear c2
      try clear c2b0
      try clear c2b1
      try clear p2
      try clear c3
      try clear c8
      try clear c8b0
      try clear c8b1
      obtain ⟨kq, x31_5, rfl, HA, HJ5, HB⟩ := hcut
      cases kq with
      | zero => exact absurd HA.out (by simp [laws_FnModuloBack.j0])
      | succ kj5 =>
        have H := HA.out
        clear HA
        simp only [laws_FnModuloBack.j0] at H
        by_cases c9 : x31_5 = true
        · subst c9
          have H1 : (some (t210 == t211)) = some r := by rw [if_pos rfl] at H; exact H
          clear H
          have H := H1
          clear H1
          obtain rfl := Option.some.inj H
          go_wp2
          go_ret
          exact ⟨by first | rfl | (simp [errW_none, errW_some] <;> rfl) | (simp [*, errW_none, errW_some] <;> rfl), by repeat (first | (with_reducible first | exact HB.out | apply below_alloc | apply pw_below_drewN | apply below_drew1) | exact HB.out)⟩
        · replace c9 := Bool.eq_false_iff.mpr c9
          subst c9
          have H1 : (if t210 = 1 then (if t209 = 2 then (laws_FnModuloBack.j1 kj5 t207 t208 t209 t210 false) else (laws_FnModuloBack.j1 kj5 t207 t208 t209 t210 (t209 != 3))) else (laws_FnModuloBack.j1 kj5 t207 t208 t209 t210 true)) = some r := by rw [if_neg (show ¬ (false = true) by decide)] at H; exact H
          clear H
          have H := H1
          clear H1
          have HC10 := Aside0.mk H
          clear H
          go_upto_region 8 with (fail)
          go_cut [44] (fun v44 wc => ∃ (kq : Nat) (x44_9 : Bool), v44 = .bool x44_9 ∧ Aside0 (laws_FnModuloBack.j1 kq t207 t208 t209 t210 x44_9 = some r) ∧ Aside0 (kq ≤ kj5) ∧ Aside0 (Below w.heap.size w wc))
          case first =>
            have H := HC10.out
            clear HC10
            by_cases c11 : t210 = 1
            · rw [if_pos c11] at H
              have c11b0 : (t210 == 1) = true := beq_iff_eq.mpr c11
              have c11b1 : (t210 != 1) = false := bne_eq_false_iff_eq.mpr c11
              clear c11
              (first | rw [c11b0] | (simp only [i64_w, i32_w]; rw [c11b0]) | skip)
              by_cases c12 : t209 = 2
              · rw [if_pos c12] at H
                have c12b0 : (t209 == 2) = true := beq_iff_eq.mpr c12
                have c12b1 : (t209 != 2) = false := bne_eq_false_iff_eq.mpr c12
                clear c12
                have H' := Aside0.mk H
                clear H
                go_wp2
                go_meet
                case rel => exact ⟨_, (false), (by first | rfl | (simp; done) | (simp [*]; done)), H', ⟨by have := HJ5.out; first | omega | exact Nat.le_refl _⟩, ⟨by repeat (first | (with_reducible first | exact HB.out | apply below_alloc | apply pw_below_drewN | apply below_drew1) | exact HB.out)⟩⟩
              · rw [if_neg c12] at H
                have c12b0 : (t209 == 2) = false := beq_eq_false_iff_ne.mpr c12
                have c12b1 : (t209 != 2) = true := bne_iff_ne.mpr c12
                have H' := Aside0.mk H
                clear H
                go_wp2
                go_meet
                case rel => exact ⟨_, ((t209 != 3)), (by first | rfl | (simp; done) | (simp [*]; done)), H', ⟨by have := HJ5.out; first | omega | exact Nat.le_refl _⟩, ⟨by repeat (first | (with_reducible first | exact HB.out | apply below_alloc | apply pw_below_drewN | apply below_drew1) | exact HB.out)⟩⟩
            · rw [if_neg c11] at H
              have c11b0 : (t210 == 1) = false := beq_eq_false_iff_ne.mpr c11
              have c11b1 : (t210 != 1) = true := bne_iff_ne.mpr c11
              (first | rw [c11b0] | (simp only [i64_w, i32_w]; rw [c11b0]) | skip)
              have H' := Aside0.mk H
              clear H
              go_wp2
              go_meet
              case rel => exact ⟨_, (true), (by first | rfl | (simp; done) | (simp [*]; done)), H', ⟨by have := HJ5.out; first | omega | exact Nat.le_refl _⟩, ⟨by repeat (first | (with_reducible first | exact HB.out | apply below_alloc | apply pw_below_drewN | apply below_drew1) | exact HB.out)⟩⟩
          case rest =>
            clear HC10
            try clear c1
            try clear c2
            try clear c2b0
            try clear c2b1
            try clear p2
            try clear c3
            try clear c8
            try clear c8b0
            try clear c8b1
            try clear c9
            try clear c10
            try clear c11
            try clear c11b0
            try clear c11b1
            try clear c12
            try clear c12b0
            try clear c12b1
            try clear p2
            obtain ⟨kq, x44_9, rfl, HA, HJ9, HB⟩ := hcut
            cases kq with
            | zero => exact absurd HA.out (by simp [laws_FnModuloBack.j1])
            | succ kj9 =>
              have H := HA.out
              clear HA
              simp only [laws_FnModuloBack.j1] at H
              by_cases c13 : x44_9 = true
              · subst c13
                have H1 : (if t210 = 1 then (some true) else (some (t210 == (-1)))) = some r := by rw [if_pos rfl] at H; exact H
                clear H
                have H := H1
                clear H1
                by_cases c14 : t210 = 1
                · rw [if_pos c14] at H
                  have c14b0 : (t210 == 1) = true := beq_iff_eq.mpr c14
                  have c14b1 : (t210 != 1) = false := bne_eq_false_iff_eq.mpr c14
                  clear c14
                  obtain rfl := Option.some.inj H
                  go_wp2
                  go_ret
                  exact ⟨by first | rfl | (simp [errW_none, errW_some] <;> rfl) | (simp [*, errW_none, errW_some] <;> rfl), by repeat (first | (with_reducible first | exact HB.out | apply below_alloc | apply pw_below_drewN | apply below_drew1) | exact HB.out)⟩
                · rw [if_neg c14] at H
                  have c14b0 : (t210 == 1) = false := beq_eq_false_iff_ne.mpr c14
                  have c14b1 : (t210 != 1) = true := bne_iff_ne.mpr c14
                  obtain rfl := Option.some.inj H
                  go_wp2
                  go_ret
                  exact ⟨by first | rfl | (simp [errW_none, errW_some] <;> rfl) | (simp [*, errW_none, errW_some] <;> rfl), by repeat (first | (with_reducible first | exact HB.out | apply below_alloc | apply pw_below_drewN | apply below_drew1) | exact HB.out)⟩
              · replace c13 := Bool.eq_false_iff.mpr c13
                subst c13
                have H1 : ((impl_SymbolModulo.f kj9 t207 t208 t209 1).bind fun t212 => (if t212 = true then ((impl_SymbolModulo.f kj9 t207 t208 t209 2).bind fun t213 => (if t213 = true then ((impl_SymbolModulo.f kj9 t207 t208 t209 3).bind fun t214 => (some t214)) else (some false))) else (some false))) = some r := by rw [if_neg (show ¬ (false = true) by decide)] at H; exact H
                clear H
                have H := H1
                clear H1
                replace H := Option.bind_eq_some_iff.mp H
                obtain ⟨t212, A150, H⟩ := H
                replace H : (if t212 = true then ((impl_SymbolModulo.f kj9 t207 t208 t209 2).bind fun t213 => (if t213 = true then ((impl_SymbolModulo.f kj9 t207 t208 t209 3).bind fun t214 => (some t214)) else (some false))) else (some false)) = some r := H
                have A15 := Aside0.mk A150
                clear A150
                by_cases c16 : t212 = true
                · subst c16
                  have H1 : ((impl_SymbolModulo.f kj9 t207 t208 t209 2).bind fun t213 => (if t213 = true then ((impl_SymbolModulo.f kj9 t207 t208 t209 3).bind fun t214 => (some t214)) else (some false))) = some r := by rw [if_pos rfl] at H; exact H
                  clear H
                  have H := H1
                  clear H1
                  replace H := Option.bind_eq_some_iff.mp H
                  obtain ⟨t213, A170, H⟩ := H
                  replace H : (if t213 = true then ((impl_SymbolModulo.f kj9 t207 t208 t209 3).bind fun t214 => (some t214)) else (some false)) = some r := H
                  have A17 := Aside0.mk A170
                  clear A170
                  by_cases c18 : t213 = true
                  · subst c18
                    have H1 : ((impl_SymbolModulo.f kj9 t207 t208 t209 3).bind fun t214 => (some t214)) = some r := by rw [if_pos rfl] at H; exact H
                    clear H
                    have H := H1
                    clear H1
                    replace H := Option.bind_eq_some_iff.mp H
                    obtain ⟨t214, A190, H⟩ := H
                    replace H : (some t214) = some r := H
                    have A19 := Aside0.mk A190
                    clear A190
                    obtain rfl := Option.some.inj H
                    go_wp2_with (first | ((with_reducible refine gate_callee (f := 33) rfl ?_); refine goesL_ (some 54) rfl rfl Try.func33 (by kernel_rfl) rfl #[.int .i64 t207, .int .i64 t208, .int .i64 t209, .int .i64 1] rfl (by (try simp only [List.map_toArray, List.map_cons, List.map_nil]); first | done | rfl | (simp only [List.length_drop, List.length_take]; rfl)) ?_; (with_reducible refine (impl_SymbolModulo.calls kj9 t207 t208 t209 1 true _ A15.out).mono ?_); rintro e w' ⟨rfl, ⟨nd, rfl⟩⟩; refine ⟨_, rfl, ?_⟩) | (go_at_call 33; (with_reducible refine (impl_SymbolModulo.calls kj9 t207 t208 t209 2 true _ A17.out).mono ?_); rintro e w' ⟨rfl, ⟨nd, rfl⟩⟩) | (go_at_call 33; (with_reducible refine (impl_SymbolModulo.calls kj9 t207 t208 t209 3 t214 _ A19.out).mono ?_); rintro e w' ⟨rfl, ⟨nd, rfl⟩⟩))
                    go_ret
                    exact ⟨by first | rfl | (simp [errW_none, errW_some] <;> rfl) | (simp [*, errW_none, errW_some] <;> rfl), by repeat (first | (with_reducible first | exact HB.out | apply below_alloc | apply pw_below_drewN | apply below_drew1) | exact HB.out)⟩
                  · replace c18 := Bool.eq_false_iff.mpr c18
                    subst c18
                    have H1 : (some false) = some r := by rw [if_neg (show ¬ (false = true) by decide)] at H; exact H
                    clear H
                    have H := H1
                    clear H1
                    obtain rfl := Option.some.inj H
                    go_wp2_with (first | ((with_reducible refine gate_callee (f := 33) rfl ?_); refine goesL_ (some 54) rfl rfl Try.func33 (by kernel_rfl) rfl #[.int .i64 t207, .int .i64 t208, .int .i64 t209, .int .i64 1] rfl (by (try simp only [List.map_toArray, List.map_cons, List.map_nil]); first | done | rfl | (simp only [List.length_drop, List.length_take]; rfl)) ?_; (with_reducible refine (impl_SymbolModulo.calls kj9 t207 t208 t209 1 true _ A15.out).mono ?_); rintro e w' ⟨rfl, ⟨nd, rfl⟩⟩; refine ⟨_, rfl, ?_⟩) | (go_at_call 33; (with_reducible refine (impl_SymbolModulo.calls kj9 t207 t208 t209 2 false _ A17.out).mono ?_); rintro e w' ⟨rfl, ⟨nd, rfl⟩⟩))
                    go_ret
                    exact ⟨by first | rfl | (simp [errW_none, errW_some] <;> rfl) | (simp [*, errW_none, errW_some] <;> rfl), by repeat (first | (with_reducible first | exact HB.out | apply below_alloc | apply pw_below_drewN | apply below_drew1) | exact HB.out)⟩
                · replace c16 := Bool.eq_false_iff.mpr c16
                  subst c16
                  have H1 : (some false) = some r := by rw [if_neg (show ¬ (false = true) by decide)] at H; exact H
                  clear H
                  have H := H1
                  clear H1
                  obtain rfl := Option.some.inj H
                  go_wp2_with (first | ((with_reducible refine gate_callee (f := 33) rfl ?_); refine goesL_ (some 54) rfl rfl Try.func33 (by kernel_rfl) rfl #[.int .i64 t207, .int .i64 t208, .int .i64 t209, .int .i64 1] rfl (by (try simp only [List.map_toArray, List.map_cons, List.map_nil]); first | done | rfl | (simp only [List.length_drop, List.length_take]; rfl)) ?_; (with_reducible refine (impl_SymbolModulo.calls kj9 t207 t208 t209 1 false _ A15.out).mono ?_); rintro e w' ⟨rfl, ⟨nd, rfl⟩⟩; refine ⟨_, rfl, ?_⟩))
                  go_ret
                  exact ⟨by first | rfl | (simp [errW_none, errW_some] <;> rfl) | (simp [*, errW_none, errW_some] <;> rfl), by repeat (first | (with_reducible first | exact HB.out | apply below_alloc | apply pw_below_drewN | apply below_drew1) | exact HB.out)⟩

/-- THE ONE PURE STATEMENT of laws_FnModuloBack: yours. -/
def laws_FnModuloBack.Pure : Prop := ∀ (l0 : List Int), l0.length ≤ maxLen → l0.length * 1 ≤ 140737488351232 → (∀ x ∈ l0, (Lit.int .u8 x).wf = true) → ∃ k, laws_FnModuloBack.f k l0 = some true
theorem laws_FnModuloBack.walk (P : laws_FnModuloBack.Pure) (a0 : Option Addr) (len0 cap0 : Nat) (z0 : List Int) (w : World) (w0 : (a0 = none ∧ len0 = 0 ∧ cap0 = 0 ∧ z0 = []) ∨ ∃ x, a0 = some x ∧ len0 ≤ cap0 ∧ cap0 ≤ maxLen ∧ z0.length = cap0 ∧ (∀ i, i < z0.length → w.cell? (x.add i) = some (.int .u8 (z0.getD i 0))) ∧ ∀ n ∈ z0, (Lit.int .u8 n).wf = true) (y0 : len0 * 1 ≤ 140737488351232) :
    Calls Try.prog 10 #[.slice a0 len0 cap0] w fun e w' => e = .returned (.bool true) ∧ Below w.heap.size w w' := by
  obtain ⟨l0, rfl, hr0, hm0, hw0, hc0⟩ := ReadsInt.ofRowC w0
  obtain ⟨k, h⟩ := P l0 hm0 y0 hw0
  refine (laws_FnModuloBack.calls k _ _ l0 true w (Kd.C_of_reads (d := (0 : Int)) (h1 := fun _ => rfl) hr0) hc0 h).mono ?_
  rintro e w' ⟨rfl, hd⟩
  exact ⟨rfl, hd⟩

end Go.Proofs.Ytnbelacakmfhcaa.PFnModuloBack

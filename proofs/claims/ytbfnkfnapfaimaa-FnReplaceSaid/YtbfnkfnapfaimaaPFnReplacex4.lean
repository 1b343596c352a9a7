-- Written by a program of this session (wip/patch_print.py) over the kit's print.
import Derived.Test.YtbfnkfnapfaimaaPFnReplacex0
import Derived.Test.YtbfnkfnapfaimaaPFnReplacex1
import Derived.Test.YtbfnkfnapfaimaaPFnReplacex3
namespace Go.Proofs.Ytbfnkfnapfaimaa.PFnReplace
open Go.RowKit Go.Proofs.YtbfnkfnapfaimaaW.PrintWords Go.Proofs.YtbfnkfnapfaimaaW.PrintLast Go.Proofs.YtbfnkfnapfaimaaW.PrintMore
attribute [local go_sem] max2_int min2_int max_two min_two max_three min_three max_four min_four   -- for this text's walks alone
set_option linter.unusedVariables false
set_option linter.unusedSimpArgs false

/-! ### impl_rest: function 120 -/
def impl_rest.f (a0 : Int) (a1 : Int) : Option (Int) := if a1 = 0 then (none) else (some (Int.tmod (wrap64 ((Int.tmod a0 a1) + a1)) a1))
set_option maxHeartbeats 8000000 in
set_option maxRecDepth 100000 in
theorem impl_rest.calls (a0 : Int) (a1 : Int) (r : Int) (w : World) (h : impl_rest.f a0 a1 = some r) :
    Calls Try.prog 120 #[.int .i64 a0, .int .i64 a1] w fun e w' => e = .returned (.int .i64 r) ∧ Drawn0 w w' := by
  have H : (if a1 = 0 then (none) else (some (Int.tmod (wrap64 ((Int.tmod a0 a1) + a1)) a1))) = some r := h
  clear h
  by_cases c3 : a1 = 0
  · rw [if_pos c3] at H
    exact absurd H (by simp)
  · rw [if_neg c3] at H
    have c3b0 : (a1 == 0) = false := beq_eq_false_iff_ne.mpr c3
    have c3b1 : (a1 != 0) = true := bne_iff_ne.mpr c3
    obtain rfl := Option.some.inj H
    go_enter Try.func120, Try.ntmps120
    go_wp2
    go_ret
    exact ⟨by first | rfl | (simp; done) | (simp [*]; done), by repeat (first | exact Drawn0.refl _ | apply Drawn0.step)⟩

/-! ### impl_residue: function 86 -/
def impl_residue.l0 : Nat → Int → Int → Int → Option (Int)
  | 0, _, _, _ => none
  | k + 1, x1, x5, x6 => if x6 ≤ (wrap64 (Int.tdiv x1 2)) then (if x1 = 0 then (none) else (if (Int.tmod (wrap64 (x6 * x6)) x1) = x5 then (some 1) else (impl_residue.l0 k x1 x5 (wrap64 (x6 + 1))))) else (some (-1))
def impl_residue.f (k : Nat) (a0 : Int) (a1 : Int) : Option (Int) := (impl_rest.f a0 a1).bind fun t159 => (if t159 = 0 then (some 0) else (impl_residue.l0 k a1 t159 1))
theorem impl_residue.mono_l : ∀ k, (∀ y0 y1 y2, LeO (impl_residue.l0 k y0 y1 y2) (impl_residue.l0 (k + 1) y0 y1 y2))
  | 0 => fun _ _ _ r h => by simp [impl_residue.l0] at h
  | k + 1 => by
    have ih0 := impl_residue.mono_l k
    · intro y0 y1 y2
      unfold impl_residue.l0
      repeat' first
      | (with_reducible exact ih0 _ _ _)
      | (with_reducible exact LeO.refl _)
      | (with_reducible exact LeO.none _)
      | (with_reducible refine LeO.ite ?_ ?_)
      | (with_reducible refine LeO.bind ?_ (fun _ => ?_))
      | exact ih0 _ _ _
      | exact LeO.none _
      | refine LeO.ite ?_ ?_
      | refine LeO.bind ?_ (fun _ => ?_)
theorem impl_residue.mono : ∀ a0 a1 k, LeO (impl_residue.f k a0 a1) (impl_residue.f (k + 1) a0 a1) := by
  intro a0 a1 k
  have ih0 := impl_residue.mono_l k
  unfold impl_residue.f
  repeat' first
      | (with_reducible exact ih0 _ _ _)
      | (with_reducible exact LeO.refl _)
      | (with_reducible exact LeO.none _)
      | (with_reducible refine LeO.ite ?_ ?_)
      | (with_reducible refine LeO.bind ?_ (fun _ => ?_))
      | exact ih0 _ _ _
      | exact LeO.none _
      | refine LeO.ite ?_ ?_
      | refine LeO.bind ?_ (fun _ => ?_)
set_option maxHeartbeats 8000000 in
set_option maxRecDepth 100000 in
theorem impl_residue.calls (k : Nat) (a0 : Int) (a1 : Int) (r : Int) (w : World) (h : impl_residue.f k a0 a1 = some r) :
    Calls Try.prog 86 #[.int .i64 a0, .int .i64 a1] w fun e w' => e = .returned (.int .i64 r) ∧ Drawn0 w w' := by
  have H : ((impl_rest.f a0 a1).bind fun t159 => (if t159 = 0 then (some 0) else (impl_residue.l0 k a1 t159 1))) = some r := h
  clear h
  replace H := Option.bind_eq_some_iff.mp H
  obtain ⟨t159, A30, H⟩ := H
  replace H : (if t159 = 0 then (some 0) else (impl_residue.l0 k a1 t159 1)) = some r := H
  have A3 := Aside0.mk A30
  clear A30
  by_cases c4 : t159 = 0
  · rw [if_pos c4] at H
    have c4b0 : (t159 == 0) = true := beq_iff_eq.mpr c4
    have c4b1 : (t159 != 0) = false := bne_eq_false_iff_eq.mpr c4
    clear c4
    obtain rfl := Option.some.inj H
    go_enter Try.func86, Try.ntmps86
    go_wp2_with (first | ((with_reducible refine gate_callee (f := 120) rfl ?_); refine goesL_ (some 9) rfl rfl Try.func120 (by kernel_rfl) rfl #[.int .i64 a0, .int .i64 a1] rfl (by (try simp only [List.map_toArray, List.map_cons, List.map_nil]); first | done | rfl | (simp only [List.length_drop, List.length_take]; rfl)) ?_; (with_reducible refine (impl_rest.calls a0 a1 t159 _ A3.out).mono ?_); rintro e w' ⟨rfl, ⟨nd, rfl⟩⟩; refine ⟨_, rfl, ?_⟩))
    go_ret
    exact ⟨by first | rfl | (simp; done) | (simp [*]; done), by repeat (first | exact Drawn0.refl _ | apply Drawn0.step)⟩
  · rw [if_neg c4] at H
    have c4b0 : (t159 == 0) = false := beq_eq_false_iff_ne.mpr c4
    have c4b1 : (t159 != 0) = true := bne_iff_ne.mpr c4
    have H' := Aside0.mk H
    clear H
    go_enter Try.func86, Try.ntmps86
    go_wp2_with (first | ((with_reducible refine gate_callee (f := 120) rfl ?_); refine goesL_ (some 9) rfl rfl Try.func120 (by kernel_rfl) rfl #[.int .i64 a0, .int .i64 a1] rfl (by (try simp only [List.map_toArray, List.map_cons, List.map_nil]); first | done | rfl | (simp only [List.length_drop, List.length_take]; rfl)) ?_; (with_reducible refine (impl_rest.calls a0 a1 t159 _ A3.out).mono ?_); rintro e w' ⟨rfl, ⟨nd, rfl⟩⟩; refine ⟨_, rfl, ?_⟩))
    go_loopg [6] k (fun kq v6 w' => ∃ (x6_1 : Int), v6 = .int .i64 x6_1 ∧ Aside0 (impl_residue.l0 kq a1 t159 x6_1 = some r) ∧ Aside0 (kq ≤ k) ∧ Drawn0 w w')
    case atStart => exact ⟨(1), (by first | rfl | (simp; done) | (simp [*]; done)), H', ⟨Nat.le_refl _⟩, by repeat (first | exact Drawn0.refl _ | apply Drawn0.step)⟩
    case round =>
      clear H'
      try clear c1
      try clear p2
      try clear c4
      try clear c4b0
      try clear c4b1
      obtain ⟨x6_1, rfl, HA, HK1, ⟨m1, rfl⟩⟩ := hrel
      cases gk with
      | zero => exact absurd HA.out (by simp [impl_residue.l0])
      | succ k1 =>
        have H := HA.out
        clear HA
        simp only [impl_residue.l0] at H
        by_cases c5 : x6_1 ≤ (wrap64 (Int.tdiv a1 2))
        · rw [if_pos c5] at H
          have c5b0 : decide (x6_1 ≤ (wrap64 (Int.tdiv a1 2))) = true := decide_eq_true c5
          clear c5
          by_cases c6 : a1 = 0
          · rw [if_pos c6] at H
            exact absurd H (by simp)
          · rw [if_neg c6] at H
            have c6b0 : (a1 == 0) = false := beq_eq_false_iff_ne.mpr c6
            have c6b1 : (a1 != 0) = true := bne_iff_ne.mpr c6
            by_cases c7 : (Int.tmod (wrap64 (x6_1 * x6_1)) a1) = t159
            · rw [if_pos c7] at H
              have c7b0 : ((Int.tmod (wrap64 (x6_1 * x6_1)) a1) == t159) = true := beq_iff_eq.mpr c7
              have c7b1 : ((Int.tmod (wrap64 (x6_1 * x6_1)) a1) != t159) = false := bne_eq_false_iff_eq.mpr c7
              clear c7
              obtain rfl := Option.some.inj H
              go_wp2
              go_ret
              exact ⟨by first | rfl | (simp; done) | (simp [*]; done), by repeat (first | exact Drawn0.refl _ | apply Drawn0.step)⟩
            · rw [if_neg c7] at H
              have c7b0 : ((Int.tmod (wrap64 (x6_1 * x6_1)) a1) == t159) = false := beq_eq_false_iff_ne.mpr c7
              have c7b1 : ((Int.tmod (wrap64 (x6_1 * x6_1)) a1) != t159) = true := bne_iff_ne.mpr c7
              have H' := Aside0.mk H
              clear H
              go_wp2
              go_roundg k1
              case measure => have := HK1.out; omega
              case rel => exact ⟨(wrap64 (x6_1 + 1)), (by first | rfl | (simp; done) | (simp [*]; done)), H', ⟨by have := HK1.out; omega⟩, by repeat (first | exact Drawn0.refl _ | apply Drawn0.step)⟩
        · rw [if_neg c5] at H
          have c5b0 : decide (x6_1 ≤ (wrap64 (Int.tdiv a1 2))) = false := decide_eq_false c5
          clear c5
          obtain rfl := Option.some.inj H
          go_wp2
          go_ret
          exact ⟨by first | rfl | (simp; done) | (simp [*]; done), by repeat (first | exact Drawn0.refl _ | apply Drawn0.step)⟩

/-! ### impl_localSquare: function 110 -/
def impl_localSquare.f (k : Nat) (a0 : Int) (a1 : Int) : Option (Bool) := if a1 = 0 then (some (decide (a0 > 0))) else ((impl_split.f k a0 a1).bind fun bt160 => (if (Int.tmod bt160.1 2) = 0 then (if a1 = 2 then ((impl_rest.f bt160.2 8).bind fun t162 => (some (t162 == 1))) else ((impl_residue.f k bt160.2 a1).bind fun t163 => (some (t163 == 1)))) else (some false)))
theorem impl_localSquare.mono : ∀ a0 a1 k, LeO (impl_localSquare.f k a0 a1) (impl_localSquare.f (k + 1) a0 a1) := by
  intro a0 a1 k
  unfold impl_localSquare.f
  repeat' first
      | (with_reducible exact impl_residue.mono _ _ _)
      | (with_reducible exact impl_split.mono _ _ _)
      | (with_reducible exact LeO.refl _)
      | (with_reducible exact LeO.none _)
      | (with_reducible refine LeO.ite ?_ ?_)
      | (with_reducible refine LeO.bind ?_ (fun _ => ?_))
      | exact impl_residue.mono _ _ _
      | exact impl_split.mono _ _ _
      | exact LeO.none _
      | refine LeO.ite ?_ ?_
      | refine LeO.bind ?_ (fun _ => ?_)
set_option maxHeartbeats 8000000 in
set_option maxRecDepth 100000 in
theorem impl_localSquare.calls (k : Nat) (a0 : Int) (a1 : Int) (r : Bool) (w : World) (h : impl_localSquare.f k a0 a1 = some r) :
    Calls Try.prog 110 #[.int .i64 a0, .int .i64 a1] w fun e w' => e = .returned (.bool r) ∧ Drawn0 w w' := by
  have H : (if a1 = 0 then (some (decide (a0 > 0))) else ((impl_split.f k a0 a1).bind fun bt160 => (if (Int.tmod bt160.1 2) = 0 then (if a1 = 2 then ((impl_rest.f bt160.2 8).bind fun t162 => (some (t162 == 1))) else ((impl_residue.f k bt160.2 a1).bind fun t163 => (some (t163 == 1)))) else (some false)))) = some r := h
  clear h
  by_cases c3 : a1 = 0
  · rw [if_pos c3] at H
    have c3b0 : (a1 == 0) = true := beq_iff_eq.mpr c3
    have c3b1 : (a1 != 0) = false := bne_eq_false_iff_eq.mpr c3
    clear c3
    obtain rfl := Option.some.inj H
    go_enter Try.func110, Try.ntmps110
    go_wp2
    go_ret
    exact ⟨by first | rfl | (simp; done) | (simp [*]; done), by repeat (first | exact Drawn0.refl _ | apply Drawn0.step)⟩
  · rw [if_neg c3] at H
    have c3b0 : (a1 == 0) = false := beq_eq_false_iff_ne.mpr c3
    have c3b1 : (a1 != 0) = true := bne_iff_ne.mpr c3
    replace H := Option.bind_eq_some_iff.mp H
    obtain ⟨⟨t160, t161⟩, A40, H⟩ := H
    replace H : (if (Int.tmod t160 2) = 0 then (if a1 = 2 then ((impl_rest.f t161 8).bind fun t162 => (some (t162 == 1))) else ((impl_residue.f k t161 a1).bind fun t163 => (some (t163 == 1)))) else (some false)) = some r := H
    have A4 := Aside0.mk A40
    clear A40
    by_cases c5 : (Int.tmod t160 2) = 0
    · rw [if_pos c5] at H
      have c5b0 : ((Int.tmod t160 2) == 0) = true := beq_iff_eq.mpr c5
      have c5b1 : ((Int.tmod t160 2) != 0) = false := bne_eq_false_iff_eq.mpr c5
      clear c5
      by_cases c6 : a1 = 2
      · rw [if_pos c6] at H
        have c6b0 : (a1 == 2) = true := beq_iff_eq.mpr c6
        have c6b1 : (a1 != 2) = false := bne_eq_false_iff_eq.mpr c6
        clear c6
        replace H := Option.bind_eq_some_iff.mp H
        obtain ⟨t162, A70, H⟩ := H
        replace H : (some (t162 == 1)) = some r := H
        have A7 := Aside0.mk A70
        clear A70
        obtain rfl := Option.some.inj H
        go_enter Try.func110, Try.ntmps110
        go_wp2_with (first | ((with_reducible refine gate_callee (f := 127) rfl ?_); refine goesL_ (some 14) rfl rfl Try.func127 (by kernel_rfl) rfl #[.int .i64 a0, .int .i64 a1] rfl (by (try simp only [List.map_toArray, List.map_cons, List.map_nil]); first | done | rfl | (simp only [List.length_drop, List.length_take]; rfl)) ?_; (with_reducible refine (impl_split.calls k a0 a1 t160 t161 _ A4.out).mono ?_); rintro e w' ⟨rfl, ⟨nd, rfl⟩⟩; refine ⟨_, rfl, ?_⟩) | ((with_reducible refine gate_callee (f := 120) rfl ?_); refine goesL_ (some 23) rfl rfl Try.func120 (by kernel_rfl) rfl #[.int .i64 t161, .int .i64 8] rfl (by (try simp only [List.map_toArray, List.map_cons, List.map_nil]); first | done | rfl | (simp only [List.length_drop, List.length_take]; rfl)) ?_; (with_reducible refine (impl_rest.calls t161 8 t162 _ A7.out).mono ?_); rintro e w' ⟨rfl, ⟨nd, rfl⟩⟩; refine ⟨_, rfl, ?_⟩))
        go_ret
        exact ⟨by first | rfl | (simp; done) | (simp [*]; done), by repeat (first | exact Drawn0.refl _ | apply Drawn0.step)⟩
      · rw [if_neg c6] at H
        have c6b0 : (a1 == 2) = false := beq_eq_false_iff_ne.mpr c6
        have c6b1 : (a1 != 2) = true := bne_iff_ne.mpr c6
        replace H := Option.bind_eq_some_iff.mp H
        obtain ⟨t163, A80, H⟩ := H
        replace H : (some (t163 == 1)) = some r := H
        have A8 := Aside0.mk A80
        clear A80
        obtain rfl := Option.some.inj H
        go_enter Try.func110, Try.ntmps110
        go_wp2_with (first | ((with_reducible refine gate_callee (f := 127) rfl ?_); refine goesL_ (some 14) rfl rfl Try.func127 (by kernel_rfl) rfl #[.int .i64 a0, .int .i64 a1] rfl (by (try simp only [List.map_toArray, List.map_cons, List.map_nil]); first | done | rfl | (simp only [List.length_drop, List.length_take]; rfl)) ?_; (with_reducible refine (impl_split.calls k a0 a1 t160 t161 _ A4.out).mono ?_); rintro e w' ⟨rfl, ⟨nd, rfl⟩⟩; refine ⟨_, rfl, ?_⟩) | ((with_reducible refine gate_callee (f := 86) rfl ?_); refine goesL_ (some 27) rfl rfl Try.func86 (by kernel_rfl) rfl #[.int .i64 t161, .int .i64 a1] rfl (by (try simp only [List.map_toArray, List.map_cons, List.map_nil]); first | done | rfl | (simp only [List.length_drop, List.length_take]; rfl)) ?_; (with_reducible refine (impl_residue.calls k t161 a1 t163 _ A8.out).mono ?_); rintro e w' ⟨rfl, ⟨nd, rfl⟩⟩; refine ⟨_, rfl, ?_⟩))
        go_ret
        exact ⟨by first | rfl | (simp; done) | (simp [*]; done), by repeat (first | exact Drawn0.refl _ | apply Drawn0.step)⟩
    · rw [if_neg c5] at H
      have c5b0 : ((Int.tmod t160 2) == 0) = false := beq_eq_false_iff_ne.mpr c5
      have c5b1 : ((Int.tmod t160 2) != 0) = true := bne_iff_ne.mpr c5
      obtain rfl := Option.some.inj H
      go_enter Try.func110, Try.ntmps110
      go_wp2_with (first | ((with_reducible refine gate_callee (f := 127) rfl ?_); refine goesL_ (some 14) rfl rfl Try.func127 (by kernel_rfl) rfl #[.int .i64 a0, .int .i64 a1] rfl (by (try simp only [List.map_toArray, List.map_cons, List.map_nil]); first | done | rfl | (simp only [List.length_drop, List.length_take]; rfl)) ?_; (with_reducible refine (impl_split.calls k a0 a1 t160 t161 _ A4.out).mono ?_); rintro e w' ⟨rfl, ⟨nd, rfl⟩⟩; refine ⟨_, rfl, ?_⟩))
      go_ret
      exact ⟨by first | rfl | (simp; done) | (simp [*]; done), by repeat (first | exact Drawn0.refl _ | apply Drawn0.step)⟩

/-! ### impl_power: function 95 -/
def impl_power.l0 : Nat → Int → Int → Int → Int → Option (Int)
  | 0, _, _, _, _ => none
  | k + 1, x0, x5, x6, x7 => if x7 < x6 then (impl_power.l0 k x0 (wrap64 (x5 * x0)) x6 (wrap64 (x7 + 1))) else (some x5)
def impl_power.f (k : Nat) (a0 : Int) (a1 : Int) : Option (Int) := impl_power.l0 k a0 1 a1 0
theorem impl_power.mono_l : ∀ k, (∀ y0 y1 y2 y3, LeO (impl_power.l0 k y0 y1 y2 y3) (impl_power.l0 (k + 1) y0 y1 y2 y3))
  | 0 => fun _ _ _ _ r h => by simp [impl_power.l0] at h
  | k + 1 => by
    have ih0 := impl_power.mono_l k
    · intro y0 y1 y2 y3
      unfold impl_power.l0
      repeat' first
      | (with_reducible exact ih0 _ _ _ _)
      | (with_reducible exact LeO.refl _)
      | (with_reducible exact LeO.none _)
      | (with_reducible refine LeO.ite ?_ ?_)
      | (with_reducible refine LeO.bind ?_ (fun _ => ?_))
      | exact ih0 _ _ _ _
      | exact LeO.none _
      | refine LeO.ite ?_ ?_
      | refine LeO.bind ?_ (fun _ => ?_)
theorem impl_power.mono : ∀ a0 a1 k, LeO (impl_power.f k a0 a1) (impl_power.f (k + 1) a0 a1) := by
  intro a0 a1 k
  have ih0 := impl_power.mono_l k
  unfold impl_power.f
  repeat' first
      | (with_reducible exact ih0 _ _ _ _)
      | (with_reducible exact LeO.refl _)
      | (with_reducible exact LeO.none _)
      | (with_reducible refine LeO.ite ?_ ?_)
      | (with_reducible refine LeO.bind ?_ (fun _ => ?_))
      | exact ih0 _ _ _ _
      | exact LeO.none _
      | refine LeO.ite ?_ ?_
      | refine LeO.bind ?_ (fun _ => ?_)
set_option maxHeartbeats 8000000 in
set_option maxRecDepth 100000 in
theorem impl_power.calls (k : Nat) (a0 : Int) (a1 : Int) (r : Int) (w : World) (h : impl_power.f k a0 a1 = some r) :
    Calls Try.prog 95 #[.int .i64 a0, .int .i64 a1] w fun e w' => e = .returned (.int .i64 r) ∧ Drawn0 w w' := by
  have H : (impl_power.l0 k a0 1 a1 0) = some r := h
  clear h
  have H' := Aside0.mk H
  clear H
  go_enter Try.func95, Try.ntmps95
  go_wp2
  go_loopg [5, 7] k (fun kq v5 v7 w' => ∃ (x5_1 : Int) (x7_1 : Int), v5 = .int .i64 x5_1 ∧ v7 = .int .i64 x7_1 ∧ Aside0 (impl_power.l0 kq a0 x5_1 a1 x7_1 = some r) ∧ Aside0 (kq ≤ k) ∧ Drawn0 w w')
  case atStart => exact ⟨(1), (0), (by first | rfl | (simp; done) | (simp [*]; done)), (by first | rfl | (simp; done) | (simp [*]; done)), H', ⟨Nat.le_refl _⟩, by repeat (first | exact Drawn0.refl _ | apply Drawn0.step)⟩
  case round =>
    clear H'
    try clear p2
    obtain ⟨x5_1, x7_1, rfl, rfl, HA, HK1, ⟨m1, rfl⟩⟩ := hrel
    cases gk with
    | zero => exact absurd HA.out (by simp [impl_power.l0])
    | succ k1 =>
      have H := HA.out
      clear HA
      simp only [impl_power.l0] at H
      by_cases c3 : x7_1 < a1
      · rw [if_pos c3] at H
        have c3b0 : decide (x7_1 < a1) = true := decide_eq_true c3
        clear c3
        have H' := Aside0.mk H
        clear H
        go_wp2
        go_roundg k1
        case measure => have := HK1.out; omega
        case rel => exact ⟨(wrap64 (x5_1 * a0)), (wrap64 (x7_1 + 1)), (by first | rfl | (simp; done) | (simp [*]; done)), (by first | rfl | (simp; done) | (simp [*]; done)), H', ⟨by have := HK1.out; omega⟩, by repeat (first | exact Drawn0.refl _ | apply Drawn0.step)⟩
      · rw [if_neg c3] at H
        have c3b0 : decide (x7_1 < a1) = false := decide_eq_false c3
        clear c3
        obtain rfl := Option.some.inj H
        go_wp2
        go_ret
        exact ⟨by first | rfl | (simp; done) | (simp [*]; done), by repeat (first | exact Drawn0.refl _ | apply Drawn0.step)⟩

/-! ### impl_symbol: function 117 -/
def impl_symbol.f (k : Nat) (a0 : Int) (a1 : Int) (a2 : Int) : Option (Int) := if a2 = 0 then (if a0 < 0 then (if a1 < 0 then (some (-1)) else (some 1)) else (some 1)) else ((impl_split.f k a0 a2).bind fun bt164 => ((impl_split.f k a1 a2).bind fun bt166 => (if a2 = 2 then ((impl_rest.f bt164.2 8).bind fun t168 => ((impl_rest.f bt166.2 8).bind fun t169 => ((impl_power.f k (-1) (Int.tmod (wrap64 ((wrap64 ((wrap64 ((wrap64 (Int.tdiv (wrap64 (t168 - 1)) 2)) * (wrap64 (Int.tdiv (wrap64 (t169 - 1)) 2)))) + (wrap64 (Int.tdiv (wrap64 (bt164.1 * (wrap64 ((wrap64 (t169 * t169)) - 1)))) 8)))) + (wrap64 (Int.tdiv (wrap64 (bt166.1 * (wrap64 ((wrap64 (t168 * t168)) - 1)))) 8)))) 2)).bind fun t170 => (some t170)))) else ((impl_power.f k (-1) (Int.tmod (wrap64 (Int.tdiv (wrap64 ((wrap64 (bt164.1 * bt166.1)) * (wrap64 (a2 - 1)))) 2)) 2)).bind fun t171 => ((impl_residue.f k bt164.2 a2).bind fun t172 => ((impl_power.f k t172 (Int.tmod bt166.1 2)).bind fun t173 => ((impl_residue.f k bt166.2 a2).bind fun t174 => ((impl_power.f k t174 (Int.tmod bt164.1 2)).bind fun t175 => (some (wrap64 ((wrap64 (t171 * t173)) * t175)))))))))))
theorem impl_symbol.mono : ∀ a0 a1 a2 k, LeO (impl_symbol.f k a0 a1 a2) (impl_symbol.f (k + 1) a0 a1 a2) := by
  intro a0 a1 a2 k
  unfold impl_symbol.f
  repeat' first
      | (with_reducible exact impl_power.mono _ _ _)
      | (with_reducible exact impl_residue.mono _ _ _)
      | (with_reducible exact impl_split.mono _ _ _)
      | (with_reducible exact LeO.refl _)
      | (with_reducible exact LeO.none _)
      | (with_reducible refine LeO.ite ?_ ?_)
      | (with_reducible refine LeO.bind ?_ (fun _ => ?_))
      | exact impl_power.mono _ _ _
      | exact impl_residue.mono _ _ _
      | exact impl_split.mono _ _ _
      | exact LeO.none _
      | refine LeO.ite ?_ ?_
      | refine LeO.bind ?_ (fun _ => ?_)
set_option maxHeartbeats 8000000 in
set_option maxRecDepth 100000 in
theorem impl_symbol.calls (k : Nat) (a0 : Int) (a1 : Int) (a2 : Int) (r : Int) (w : World) (h : impl_symbol.f k a0 a1 a2 = some r) :
    Calls Try.prog 117 #[.int .i64 a0, .int .i64 a1, .int .i64 a2] w fun e w' => e = .returned (.int .i64 r) ∧ Drawn0 w w' := by
  have H : (if a2 = 0 then (if a0 < 0 then (if a1 < 0 then (some (-1)) else (some 1)) else (some 1)) else ((impl_split.f k a0 a2).bind fun bt164 => ((impl_split.f k a1 a2).bind fun bt166 => (if a2 = 2 then ((impl_rest.f bt164.2 8).bind fun t168 => ((impl_rest.f bt166.2 8).bind fun t169 => ((impl_power.f k (-1) (Int.tmod (wrap64 ((wrap64 ((wrap64 ((wrap64 (Int.tdiv (wrap64 (t168 - 1)) 2)) * (wrap64 (Int.tdiv (wrap64 (t169 - 1)) 2)))) + (wrap64 (Int.tdiv (wrap64 (bt164.1 * (wrap64 ((wrap64 (t169 * t169)) - 1)))) 8)))) + (wrap64 (Int.tdiv (wrap64 (bt166.1 * (wrap64 ((wrap64 (t168 * t168)) - 1)))) 8)))) 2)).bind fun t170 => (some t170)))) else ((impl_power.f k (-1) (Int.tmod (wrap64 (Int.tdiv (wrap64 ((wrap64 (bt164.1 * bt166.1)) * (wrap64 (a2 - 1)))) 2)) 2)).bind fun t171 => ((impl_residue.f k bt164.2 a2).bind fun t172 => ((impl_power.f k t172 (Int.tmod bt166.1 2)).bind fun t173 => ((impl_residue.f k bt166.2 a2).bind fun t174 => ((impl_power.f k t174 (Int.tmod bt164.1 2)).bind fun t175 => (some (wrap64 ((wrap64 (t171 * t173)) * t175)))))))))))) = some r := h
  clear h
  by_cases c4 : a2 = 0
  · rw [if_pos c4] at H
    have c4b0 : (a2 == 0) = true := beq_iff_eq.mpr c4
    have c4b1 : (a2 != 0) = false := bne_eq_false_iff_eq.mpr c4
    clear c4
    by_cases c5 : a0 < 0
    · rw [if_pos c5] at H
      have c5b0 : decide (a0 < 0) = true := decide_eq_true c5
      clear c5
      by_cases c6 : a1 < 0
      · rw [if_pos c6] at H
        have c6b0 : decide (a1 < 0) = true := decide_eq_true c6
        clear c6
        obtain rfl := Option.some.inj H
        go_enter Try.func117, Try.ntmps117
        go_wp2
        go_ret
        exact ⟨by first | rfl | (simp; done) | (simp [*]; done), by repeat (first | exact Drawn0.refl _ | apply Drawn0.step)⟩
      · rw [if_neg c6] at H
        have c6b0 : decide (a1 < 0) = false := decide_eq_false c6
        clear c6
        obtain rfl := Option.some.inj H
        go_enter Try.func117, Try.ntmps117
        go_wp2
        go_ret
        exact ⟨by first | rfl | (simp; done) | (simp [*]; done), by repeat (first | exact Drawn0.refl _ | apply Drawn0.step)⟩
    · rw [if_neg c5] at H
      have c5b0 : decide (a0 < 0) = false := decide_eq_false c5
      clear c5
      obtain rfl := Option.some.inj H
      go_enter Try.func117, Try.ntmps117
      go_wp2
      go_ret
      exact ⟨by first | rfl | (simp; done) | (simp [*]; done), by repeat (first | exact Drawn0.refl _ | apply Drawn0.step)⟩
  · rw [if_neg c4] at H
    have c4b0 : (a2 == 0) = false := beq_eq_false_iff_ne.mpr c4
    have c4b1 : (a2 != 0) = true := bne_iff_ne.mpr c4
    replace H := Option.bind_eq_some_iff.mp H
    obtain ⟨⟨t164, t165⟩, A70, H⟩ := H
    replace H : ((impl_split.f k a1 a2).bind fun bt166 => (if a2 = 2 then ((impl_rest.f t165 8).bind fun t168 => ((impl_rest.f bt166.2 8).bind fun t169 => ((impl_power.f k (-1) (Int.tmod (wrap64 ((wrap64 ((wrap64 ((wrap64 (Int.tdiv (wrap64 (t168 - 1)) 2)) * (wrap64 (Int.tdiv (wrap64 (t169 - 1)) 2)))) + (wrap64 (Int.tdiv (wrap64 (t164 * (wrap64 ((wrap64 (t169 * t169)) - 1)))) 8)))) + (wrap64 (Int.tdiv (wrap64 (bt166.1 * (wrap64 ((wrap64 (t168 * t168)) - 1)))) 8)))) 2)).bind fun t170 => (some t170)))) else ((impl_power.f k (-1) (Int.tmod (wrap64 (Int.tdiv (wrap64 ((wrap64 (t164 * bt166.1)) * (wrap64 (a2 - 1)))) 2)) 2)).bind fun t171 => ((impl_residue.f k t165 a2).bind fun t172 => ((impl_power.f k t172 (Int.tmod bt166.1 2)).bind fun t173 => ((impl_residue.f k bt166.2 a2).bind fun t174 => ((impl_power.f k t174 (Int.tmod t164 2)).bind fun t175 => (some (wrap64 ((wrap64 (t171 * t173)) * t175)))))))))) = some r := H
    have A7 := Aside0.mk A70
    clear A70
    replace H := Option.bind_eq_some_iff.mp H
    obtain ⟨⟨t166, t167⟩, A80, H⟩ := H
    replace H : (if a2 = 2 then ((impl_rest.f t165 8).bind fun t168 => ((impl_rest.f t167 8).bind fun t169 => ((impl_power.f k (-1) (Int.tmod (wrap64 ((wrap64 ((wrap64 ((wrap64 (Int.tdiv (wrap64 (t168 - 1)) 2)) * (wrap64 (Int.tdiv (wrap64 (t169 - 1)) 2)))) + (wrap64 (Int.tdiv (wrap64 (t164 * (wrap64 ((wrap64 (t169 * t169)) - 1)))) 8)))) + (wrap64 (Int.tdiv (wrap64 (t166 * (wrap64 ((wrap64 (t168 * t168)) - 1)))) 8)))) 2)).bind fun t170 => (some t170)))) else ((impl_power.f k (-1) (Int.tmod (wrap64 (Int.tdiv (wrap64 ((wrap64 (t164 * t166)) * (wrap64 (a2 - 1)))) 2)) 2)).bind fun t171 => ((impl_residue.f k t165 a2).bind fun t172 => ((impl_power.f k t172 (Int.tmod t166 2)).bind fun t173 => ((impl_residue.f k t167 a2).bind fun t174 => ((impl_power.f k t174 (Int.tmod t164 2)).bind fun t175 => (some (wrap64 ((wrap64 (t171 * t173)) * t175))))))))) = some r := H
    have A8 := Aside0.mk A80
    clear A80
    by_cases c9 : a2 = 2
    · rw [if_pos c9] at H
      have c9b0 : (a2 == 2) = true := beq_iff_eq.mpr c9
      have c9b1 : (a2 != 2) = false := bne_eq_false_iff_eq.mpr c9
      clear c9
      replace H := Option.bind_eq_some_iff.mp H
      obtain ⟨t168, A100, H⟩ := H
      replace H : ((impl_rest.f t167 8).bind fun t169 => ((impl_power.f k (-1) (Int.tmod (wrap64 ((wrap64 ((wrap64 ((wrap64 (Int.tdiv (wrap64 (t168 - 1)) 2)) * (wrap64 (Int.tdiv (wrap64 (t169 - 1)) 2)))) + (wrap64 (Int.tdiv (wrap64 (t164 * (wrap64 ((wrap64 (t169 * t169)) - 1)))) 8)))) + (wrap64 (Int.tdiv (wrap64 (t166 * (wrap64 ((wrap64 (t168 * t168)) - 1)))) 8)))) 2)).bind fun t170 => (some t170))) = some r := H
      have A10 := Aside0.mk A100
      clear A100
      replace H := Option.bind_eq_some_iff.mp H
      obtain ⟨t169, A110, H⟩ := H
      replace H : ((impl_power.f k (-1) (Int.tmod (wrap64 ((wrap64 ((wrap64 ((wrap64 (Int.tdiv (wrap64 (t168 - 1)) 2)) * (wrap64 (Int.tdiv (wrap64 (t169 - 1)) 2)))) + (wrap64 (Int.tdiv (wrap64 (t164 * (wrap64 ((wrap64 (t169 * t169)) - 1)))) 8)))) + (wrap64 (Int.tdiv (wrap64 (t166 * (wrap64 ((wrap64 (t168 * t168)) - 1)))) 8)))) 2)).bind fun t170 => (some t170)) = some r := H
      have A11 := Aside0.mk A110
      clear A110
      replace H := Option.bind_eq_some_iff.mp H
      obtain ⟨t170, A120, H⟩ := H
      replace H : (some t170) = some r := H
      have A12 := Aside0.mk A120
      clear A120
      obtain rfl := Option.some.inj H
      go_enter Try.func117, Try.ntmps117
      go_wp2_with (first | ((with_reducible refine gate_callee (f := 127) rfl ?_); refine goesL_ (some 24) rfl rfl Try.func127 (by kernel_rfl) rfl #[.int .i64 a0, .int .i64 a2] rfl (by (try simp only [List.map_toArray, List.map_cons, List.map_nil]); first | done | rfl | (simp only [List.length_drop, List.length_take]; rfl)) ?_; (with_reducible refine (impl_split.calls k a0 a2 t164 t165 _ A7.out).mono ?_); rintro e w' ⟨rfl, ⟨nd, rfl⟩⟩; refine ⟨_, rfl, ?_⟩) | ((with_reducible refine gate_callee (f := 127) rfl ?_); refine goesL_ (some 30) rfl rfl Try.func127 (by kernel_rfl) rfl #[.int .i64 a1, .int .i64 a2] rfl (by (try simp only [List.map_toArray, List.map_cons, List.map_nil]); first | done | rfl | (simp only [List.length_drop, List.length_take]; rfl)) ?_; (with_reducible refine (impl_split.calls k a1 a2 t166 t167 _ A8.out).mono ?_); rintro e w' ⟨rfl, ⟨nd, rfl⟩⟩; refine ⟨_, rfl, ?_⟩) | ((with_reducible refine gate_callee (f := 120) rfl ?_); refine goesL_ (some 59) rfl rfl Try.func120 (by kernel_rfl) rfl #[.int .i64 t165, .int .i64 8] rfl (by (try simp only [List.map_toArray, List.map_cons, List.map_nil]); first | done | rfl | (simp only [List.length_drop, List.length_take]; rfl)) ?_; (with_reducible refine (impl_rest.calls t165 8 t168 _ A10.out).mono ?_); rintro e w' ⟨rfl, ⟨nd, rfl⟩⟩; refine ⟨_, rfl, ?_⟩) | ((with_reducible refine gate_callee (f := 120) rfl ?_); refine goesL_ (some 61) rfl rfl Try.func120 (by kernel_rfl) rfl #[.int .i64 t167, .int .i64 8] rfl (by (try simp only [List.map_toArray, List.map_cons, List.map_nil]); first | done | rfl | (simp only [List.length_drop, List.length_take]; rfl)) ?_; (with_reducible refine (impl_rest.calls t167 8 t169 _ A11.out).mono ?_); rintro e w' ⟨rfl, ⟨nd, rfl⟩⟩; refine ⟨_, rfl, ?_⟩) | ((with_reducible refine gate_callee (f := 95) rfl ?_); refine goesL_ (some 86) rfl rfl Try.func95 (by kernel_rfl) rfl #[.int .i64 (-1), .int .i64 (Int.tmod (wrap64 ((wrap64 ((wrap64 ((wrap64 (Int.tdiv (wrap64 (t168 - 1)) 2)) * (wrap64 (Int.tdiv (wrap64 (t169 - 1)) 2)))) + (wrap64 (Int.tdiv (wrap64 (t164 * (wrap64 ((wrap64 (t169 * t169)) - 1)))) 8)))) + (wrap64 (Int.tdiv (wrap64 (t166 * (wrap64 ((wrap64 (t168 * t168)) - 1)))) 8)))) 2)] rfl (by (try simp only [List.map_toArray, List.map_cons, List.map_nil]); first | done | rfl | (simp only [List.length_drop, List.length_take]; rfl)) ?_; (with_reducible refine (impl_power.calls k (-1) (Int.tmod (wrap64 ((wrap64 ((wrap64 ((wrap64 (Int.tdiv (wrap64 (t168 - 1)) 2)) * (wrap64 (Int.tdiv (wrap64 (t169 - 1)) 2)))) + (wrap64 (Int.tdiv (wrap64 (t164 * (wrap64 ((wrap64 (t169 * t169)) - 1)))) 8)))) + (wrap64 (Int.tdiv (wrap64 (t166 * (wrap64 ((wrap64 (t168 * t168)) - 1)))) 8)))) 2) t170 _ A12.out).mono ?_); rintro e w' ⟨rfl, ⟨nd, rfl⟩⟩; refine ⟨_, rfl, ?_⟩))
      go_ret
      exact ⟨by first | rfl | (simp; done) | (simp [*]; done), by repeat (first | exact Drawn0.refl _ | apply Drawn0.step)⟩
    · rw [if_neg c9] at H
      have c9b0 : (a2 == 2) = false := beq_eq_false_iff_ne.mpr c9
      have c9b1 : (a2 != 2) = true := bne_iff_ne.mpr c9
      replace H := Option.bind_eq_some_iff.mp H
      obtain ⟨t171, A130, H⟩ := H
      replace H : ((impl_residue.f k t165 a2).bind fun t172 => ((impl_power.f k t172 (Int.tmod t166 2)).bind fun t173 => ((impl_residue.f k t167 a2).bind fun t174 => ((impl_power.f k t174 (Int.tmod t164 2)).bind fun t175 => (some (wrap64 ((wrap64 (t171 * t173)) * t175))))))) = some r := H
      have A13 := Aside0.mk A130
      clear A130
      replace H := Option.bind_eq_some_iff.mp H
      obtain ⟨t172, A140, H⟩ := H
      replace H : ((impl_power.f k t172 (Int.tmod t166 2)).bind fun t173 => ((impl_residue.f k t167 a2).bind fun t174 => ((impl_power.f k t174 (Int.tmod t164 2)).bind fun t175 => (some (wrap64 ((wrap64 (t171 * t173)) * t175)))))) = some r := H
      have A14 := Aside0.mk A140
      clear A140
      replace H := Option.bind_eq_some_iff.mp H
      obtain ⟨t173, A150, H⟩ := H
      replace H : ((impl_residue.f k t167 a2).bind fun t174 => ((impl_power.f k t174 (Int.tmod t164 2)).bind fun t175 => (some (wrap64 ((wrap64 (t171 * t173)) * t175))))) = some r := H
      have A15 := Aside0.mk A150
      clear A150
      replace H := Option.bind_eq_some_iff.mp H
      obtain ⟨t174, A160, H⟩ := H
      replace H : ((impl_power.f k t174 (Int.tmod t164 2)).bind fun t175 => (some (wrap64 ((wrap64 (t171 * t173)) * t175)))) = some r := H
      have A16 := Aside0.mk A160
      clear A160
      replace H := Option.bind_eq_some_iff.mp H
      obtain ⟨t175, A170, H⟩ := H
      replace H : (some (wrap64 ((wrap64 (t171 * t173)) * t175))) = some r := H
      have A17 := Aside0.mk A170
      clear A170
      obtain rfl := Option.some.inj H
      go_enter Try.func117, Try.ntmps117
      go_wp2_with (first | ((with_reducible refine gate_callee (f := 127) rfl ?_); refine goesL_ (some 24) rfl rfl Try.func127 (by kernel_rfl) rfl #[.int .i64 a0, .int .i64 a2] rfl (by (try simp only [List.map_toArray, List.map_cons, List.map_nil]); first | done | rfl | (simp only [List.length_drop, List.length_take]; rfl)) ?_; (with_reducible refine (impl_split.calls k a0 a2 t164 t165 _ A7.out).mono ?_); rintro e w' ⟨rfl, ⟨nd, rfl⟩⟩; refine ⟨_, rfl, ?_⟩) | ((with_reducible refine gate_callee (f := 127) rfl ?_); refine goesL_ (some 30) rfl rfl Try.func127 (by kernel_rfl) rfl #[.int .i64 a1, .int .i64 a2] rfl (by (try simp only [List.map_toArray, List.map_cons, List.map_nil]); first | done | rfl | (simp only [List.length_drop, List.length_take]; rfl)) ?_; (with_reducible refine (impl_split.calls k a1 a2 t166 t167 _ A8.out).mono ?_); rintro e w' ⟨rfl, ⟨nd, rfl⟩⟩; refine ⟨_, rfl, ?_⟩) | ((with_reducible refine gate_callee (f := 95) rfl ?_); refine goesL_ (some 43) rfl rfl Try.func95 (by kernel_rfl) rfl #[.int .i64 (-1), .int .i64 (Int.tmod (wrap64 (Int.tdiv (wrap64 ((wrap64 (t164 * t166)) * (wrap64 (a2 - 1)))) 2)) 2)] rfl (by (try simp only [List.map_toArray, List.map_cons, List.map_nil]); first | done | rfl | (simp only [List.length_drop, List.length_take]; rfl)) ?_; (with_reducible refine (impl_power.calls k (-1) (Int.tmod (wrap64 (Int.tdiv (wrap64 ((wrap64 (t164 * t166)) * (wrap64 (a2 - 1)))) 2)) 2) t171 _ A13.out).mono ?_); rintro e w' ⟨rfl, ⟨nd, rfl⟩⟩; refine ⟨_, rfl, ?_⟩) | ((with_reducible refine gate_callee (f := 86) rfl ?_); refine goesL_ (some 46) rfl rfl Try.func86 (by kernel_rfl) rfl #[.int .i64 t165, .int .i64 a2] rfl (by (try simp only [List.map_toArray, List.map_cons, List.map_nil]); first | done | rfl | (simp only [List.length_drop, List.length_take]; rfl)) ?_; (with_reducible refine (impl_residue.calls k t165 a2 t172 _ A14.out).mono ?_); rintro e w' ⟨rfl, ⟨nd, rfl⟩⟩; refine ⟨_, rfl, ?_⟩) | ((with_reducible refine gate_callee (f := 95) rfl ?_); refine goesL_ (some 49) rfl rfl Try.func95 (by kernel_rfl) rfl #[.int .i64 t172, .int .i64 (Int.tmod t166 2)] rfl (by (try simp only [List.map_toArray, List.map_cons, List.map_nil]); first | done | rfl | (simp only [List.length_drop, List.length_take]; rfl)) ?_; (with_reducible refine (impl_power.calls k t172 (Int.tmod t166 2) t173 _ A15.out).mono ?_); rintro e w' ⟨rfl, ⟨nd, rfl⟩⟩; refine ⟨_, rfl, ?_⟩) | ((with_reducible refine gate_callee (f := 86) rfl ?_); refine goesL_ (some 53) rfl rfl Try.func86 (by kernel_rfl) rfl #[.int .i64 t167, .int .i64 a2] rfl (by (try simp only [List.map_toArray, List.map_cons, List.map_nil]); first | done | rfl | (simp only [List.length_drop, List.length_take]; rfl)) ?_; (with_reducible refine (impl_residue.calls k t167 a2 t174 _ A16.out).mono ?_); rintro e w' ⟨rfl, ⟨nd, rfl⟩⟩; refine ⟨_, rfl, ?_⟩) | ((with_reducible refine gate_callee (f := 95) rfl ?_); refine goesL_ (some 56) rfl rfl Try.func95 (by kernel_rfl) rfl #[.int .i64 t174, .int .i64 (Int.tmod t164 2)] rfl (by (try simp only [List.map_toArray, List.map_cons, List.map_nil]); first | done | rfl | (simp only [List.length_drop, List.length_take]; rfl)) ?_; (with_reducible refine (impl_power.calls k t174 (Int.tmod t164 2) t175 _ A17.out).mono ?_); rintro e w' ⟨rfl, ⟨nd, rfl⟩⟩; refine ⟨_, rfl, ?_⟩))
      go_ret
      exact ⟨by first | rfl | (simp; done) | (simp [*]; done), by repeat (first | exact Drawn0.refl _ | apply Drawn0.step)⟩

/-! ### impl_invariant: function 111 -/
mutual
def impl_invariant.l0 : Nat → List Int → Int → Int → List Int → Int → Int → Option (Int)
  | 0, _, _, _, _, _, _ => none
  | k + 1, x0, x1, x5, x10, x11, x12 => if x12 < x11 then (if 0 ≤ x12 then (if x12 < (x10.length : Int) then (if x12 ≤ (x0.length : Int) then (impl_invariant.l1 k x0 x1 x5 (rd x10 x12) x10 x11 x12 (x0.take (x12 : Int).toNat) ((x0.take (x12 : Int).toNat).length : Int) 0) else (none)) else (none)) else (none)) else (some x5)
def impl_invariant.l1 : Nat → List Int → Int → Int → Int → List Int → Int → Int → List Int → Int → Int → Option (Int)
  | 0, _, _, _, _, _, _, _, _, _, _ => none
  | k + 1, x0, x1, x5, x7, x10, x11, x12, x19, x20, x21 => if x21 < x20 then (if 0 ≤ x21 then (if x21 < (x19.length : Int) then ((impl_symbol.f k x7 (rd x19 x21) x1).bind fun t179 => (impl_invariant.l1 k x0 x1 (wrap64 (x5 * t179)) x7 x10 x11 x12 x19 x20 (wrap64 (x21 + 1)))) else (none)) else (none)) else (impl_invariant.l0 k x0 x1 x5 x10 x11 (wrap64 (x12 + 1)))
end
def impl_invariant.f (k : Nat) (l0 : List Int) (a1 : Int) : Option (Int) := impl_invariant.l0 k l0 a1 1 l0 (l0.length : Int) 0
theorem impl_invariant.mono_l : ∀ k, (∀ y0 y1 y2 y3 y4 y5, LeO (impl_invariant.l0 k y0 y1 y2 y3 y4 y5) (impl_invariant.l0 (k + 1) y0 y1 y2 y3 y4 y5)) ∧ (∀ y0 y1 y2 y3 y4 y5 y6 y7 y8 y9, LeO (impl_invariant.l1 k y0 y1 y2 y3 y4 y5 y6 y7 y8 y9) (impl_invariant.l1 (k + 1) y0 y1 y2 y3 y4 y5 y6 y7 y8 y9))
  | 0 => ⟨fun _ _ _ _ _ _ r h => by simp [impl_invariant.l0] at h, fun _ _ _ _ _ _ _ _ _ _ r h => by simp [impl_invariant.l1] at h⟩
  | k + 1 => by
    obtain ⟨ih0, ih1⟩ := impl_invariant.mono_l k
    refine ⟨?_, ?_⟩
    · intro y0 y1 y2 y3 y4 y5
      unfold impl_invariant.l0
      repeat' first
      | (with_reducible exact ih0 _ _ _ _ _ _)
      | (with_reducible exact ih1 _ _ _ _ _ _ _ _ _ _)
      | (with_reducible exact impl_symbol.mono _ _ _ _)
      | (with_reducible exact LeO.refl _)
      | (with_reducible exact LeO.none _)
      | (with_reducible refine LeO.ite ?_ ?_)
      | (with_reducible refine LeO.bind ?_ (fun _ => ?_))
      | exact ih0 _ _ _ _ _ _
      | exact ih1 _ _ _ _ _ _ _ _ _ _
      | exact impl_symbol.mono _ _ _ _
      | exact LeO.none _
      | refine LeO.ite ?_ ?_
      | refine LeO.bind ?_ (fun _ => ?_)
    · intro y0 y1 y2 y3 y4 y5 y6 y7 y8 y9
      unfold impl_invariant.l1
      repeat' first
      | (with_reducible exact ih0 _ _ _ _ _ _)
      | (with_reducible exact ih1 _ _ _ _ _ _ _ _ _ _)
      | (with_reducible exact impl_symbol.mono _ _ _ _)
      | (with_reducible exact LeO.refl _)
      | (with_reducible exact LeO.none _)
      | (with_reducible refine LeO.ite ?_ ?_)
      | (with_reducible refine LeO.bind ?_ (fun _ => ?_))
      | exact ih0 _ _ _ _ _ _
      | exact ih1 _ _ _ _ _ _ _ _ _ _
      | exact impl_symbol.mono _ _ _ _
      | exact LeO.none _
      | refine LeO.ite ?_ ?_
      | refine LeO.bind ?_ (fun _ => ?_)
theorem impl_invariant.mono : ∀ a0 a1 k, LeO (impl_invariant.f k a0 a1) (impl_invariant.f (k + 1) a0 a1) := by
  intro a0 a1 k
  obtain ⟨ih0, ih1⟩ := impl_invariant.mono_l k
  unfold impl_invariant.f
  repeat' first
      | (with_reducible exact ih0 _ _ _ _ _ _)
      | (with_reducible exact ih1 _ _ _ _ _ _ _ _ _ _)
      | (with_reducible exact impl_symbol.mono _ _ _ _)
      | (with_reducible exact LeO.refl _)
      | (with_reducible exact LeO.none _)
      | (with_reducible refine LeO.ite ?_ ?_)
      | (with_reducible refine LeO.bind ?_ (fun _ => ?_))
      | exact ih0 _ _ _ _ _ _
      | exact ih1 _ _ _ _ _ _ _ _ _ _
      | exact impl_symbol.mono _ _ _ _
      | exact LeO.none _
      | refine LeO.ite ?_ ?_
      | refine LeO.bind ?_ (fun _ => ?_)
set_option maxHeartbeats 8000000 in
set_option maxRecDepth 100000 in
theorem impl_invariant.calls (k : Nat) (A0 : Option Addr) (c0 : Nat) (l0 : List Int) (a1 : Int) (r : Int) (w : World) (hr0 : Kd.C (Kd.int .i64) w A0 l0.length l0) (hc0 : l0.length ≤ c0) (h : impl_invariant.f k l0 a1 = some r) :
    Calls Try.prog 111 #[.slice A0 l0.length c0, .int .i64 a1] w fun e w' => e = .returned (.int .i64 r) ∧ Drawn0 w w' := by
  have HR0 := Aside0.mk hr0
  have HC0 := Aside0.mk hc0
  clear hr0 hc0
  have H : (impl_invariant.l0 k l0 a1 1 l0 (l0.length : Int) 0) = some r := h
  clear h
  have H' := Aside0.mk H
  clear H
  go_enter Try.func111, Try.ntmps111
  go_wp2
  go_loopg [5, 12] k (fun kq v5 v12 w' => ∃ (x5_1 : Int) (x12_1 : Int), v5 = .int .i64 x5_1 ∧ v12 = .int .i64 x12_1 ∧ Aside0 (impl_invariant.l0 kq l0 a1 x5_1 l0 (l0.length : Int) x12_1 = some r) ∧ Aside0 (kq ≤ k) ∧ Drawn0 w w')
  case atStart => exact ⟨(1), (0), (by first | rfl | (simp; done) | (simp [*]; done)), (by first | rfl | (simp; done) | (simp [*]; done)), H', ⟨Nat.le_refl _⟩, by repeat (first | exact Drawn0.refl _ | apply Drawn0.step)⟩
  case round =>
    clear H'
    try clear c1
    try clear p2
    obtain ⟨x5_1, x12_1, rfl, rfl, HA, HK1, ⟨m1, rfl⟩⟩ := hrel
    cases gk with
    | zero => exact absurd HA.out (by simp [impl_invariant.l0])
    | succ k1 =>
      have H := HA.out
      clear HA
      simp only [impl_invariant.l0] at H
      by_cases c3 : x12_1 < (l0.length : Int)
      · rw [if_pos c3] at H
        have c3b0 : decide (x12_1 < (l0.length : Int)) = true := decide_eq_true c3
        clear c3
        by_cases c4 : 0 ≤ x12_1
        · rw [if_pos c4] at H
          have c4b0 : decide (0 ≤ x12_1) = true := decide_eq_true c4
          clear c4
          by_cases c5 : x12_1 < (l0.length : Int)
          · rw [if_pos c5] at H
            have c5b0 : decide (x12_1 < (l0.length : Int)) = true := decide_eq_true c5
            clear c5
            have c6b0 := eq_true (of_decide_eq_true (by first | (with_reducible assumption) | assumption) : 0 ≤ x12_1)
            by_cases c7 : x12_1 ≤ (l0.length : Int)
            · rw [if_pos c7] at H
              have c7b0 := eq_true c7
              have c7b1 : decide (x12_1 ≤ (l0.length : Int)) = true := decide_eq_true c7
              clear c7
              have H' := Aside0.mk H
              clear H
              have p176 : 0 ≤ (x12_1 : Int) := of_decide_eq_true (by first | (with_reducible assumption) | assumption)
              have q176 : x12_1 < (l0.length : Int) := of_decide_eq_true (by first | (with_reducible assumption) | assumption)
              obtain ⟨ad176, e176, hx176_0⟩ := Kd.at_int HR0.out x12_1 p176 q176
              cases e176
              replace p176 := eq_true p176
              replace q176 := eq_true q176
              obtain ⟨i08, hi08, _, hsz8, _⟩ := info_parts info3
              obtain ⟨hcut8, hA8, hC8⟩ := print_take_of (P := Try.prog) (Value.int .i64) 0 23 3 .i64 Try.underlying23 hi08 hsz8 (some ad176) c0 l0 x12_1 (of_decide_eq_true (by first | (with_reducible assumption) | assumption)) (of_decide_eq_true (by first | (with_reducible assumption) | assumption)) HC0.out
              have HR177 := Aside0.mk (Kd.C_of_reads (h1 := fun _ => rfl) (hA8 _ (Kd.reads_of_C HR0.out)))
              have HC177 := Aside0.mk hC8
              clear hA8 hC8 hi08 hsz8
              have QL := Aside0.mk (show ((l0.take (x12_1 : Int).toNat).length : Int) = max x12_1 0 by rw [List.length_take]; have := of_decide_eq_true c4b0; have := of_decide_eq_true c5b0; omega)
              go_wp2
              go_loopg [5, 21] k1 (fun kq v5 v21 w' => ∃ (x5_2 : Int) (x21_2 : Int), v5 = .int .i64 x5_2 ∧ v21 = .int .i64 x21_2 ∧ Aside0 (impl_invariant.l1 kq l0 a1 x5_2 (rd l0 x12_1) l0 (l0.length : Int) x12_1 (l0.take (x12_1 : Int).toNat) ((l0.take (x12_1 : Int).toNat).length : Int) x21_2 = some r) ∧ Aside0 (kq ≤ k1) ∧ Drawn0 w w')
              case atStart => exact ⟨(x5_1), (0), (by first | rfl | (simp; done) | (simp [*]; done)), (by first | rfl | (simp; done) | (simp [*]; done)), H', ⟨Nat.le_refl _⟩, by repeat (first | exact Drawn0.refl _ | apply Drawn0.step)⟩
              case round =>
                clear H'
                try clear c1
                try clear p1
                try clear q1
                try clear hx1
                try clear p2
                try clear c3
                try clear c3b0
                try clear c4
                try clear c4b0
                try clear c5
                try clear c5b0
                try clear c6
                try clear c6b0
                try clear c7
                try clear c7b0
                try clear c7b1
                try clear hx176_0
                try clear p176
                try clear p2
                try clear q176
                obtain ⟨x5_2, x21_2, rfl, rfl, HA, HK2, ⟨m2, rfl⟩⟩ := hrel
                cases gk with
                | zero => exact absurd HA.out (by simp [impl_invariant.l1])
                | succ k2 =>
                  have H := HA.out
                  clear HA
                  simp only [impl_invariant.l1] at H
                  by_cases c9 : x21_2 < ((l0.take (x12_1 : Int).toNat).length : Int)
                  · rw [if_pos c9] at H
                    have c9b0 : decide (x21_2 < ((l0.take (x12_1 : Int).toNat).length : Int)) = true := decide_eq_true c9
                    have c9b1 : decide (x21_2 < max x12_1 0) = true := by rw [← QL.out]; exact c9b0
                    clear c9
                    by_cases c10 : 0 ≤ x21_2
                    · rw [if_pos c10] at H
                      have c10b0 : decide (0 ≤ x21_2) = true := decide_eq_true c10
                      clear c10
                      by_cases c11 : x21_2 < ((l0.take (x12_1 : Int).toNat).length : Int)
                      · rw [if_pos c11] at H
                        have c11b0 : decide (x21_2 < ((l0.take (x12_1 : Int).toNat).length : Int)) = true := decide_eq_true c11
                        have c11b1 : decide (x21_2 < max x12_1 0) = true := by rw [← QL.out]; exact c11b0
                        clear c11
                        replace H := Option.bind_eq_some_iff.mp H
                        obtain ⟨t179, A120, H⟩ := H
                        replace H : (impl_invariant.l1 k2 l0 a1 (wrap64 (x5_2 * t179)) (rd l0 x12_1) l0 (l0.length : Int) x12_1 (l0.take (x12_1 : Int).toNat) ((l0.take (x12_1 : Int).toNat).length : Int) (wrap64 (x21_2 + 1))) = some r := H
                        have A12 := Aside0.mk A120
                        clear A120
                        have H' := Aside0.mk H
                        clear H
                        have p178 : 0 ≤ (x21_2 : Int) := of_decide_eq_true (by first | (with_reducible assumption) | assumption)
                        have q178 : x21_2 < ((l0.take (x12_1 : Int).toNat).length : Int) := of_decide_eq_true (by first | (with_reducible assumption) | assumption)
                        obtain ⟨ad178, e178, hx178_0⟩ := Kd.at_int HR177.out x21_2 p178 q178
                        obtain rfl : ad176 = ad178 := (by injection e178)
                        replace p178 := eq_true p178
                        have q178b : (x21_2 < max x12_1 0) = True := by rw [← QL.out]; exact eq_true q178
                        replace q178 := eq_true q178
                        go_wp2_with (first | ((with_reducible refine gate_callee (f := 117) rfl ?_); refine goesL_ (some 29) rfl rfl Try.func117 (by kernel_rfl) rfl #[.int .i64 (rd l0 x12_1), .int .i64 (rd (l0.take (x12_1 : Int).toNat) x21_2), .int .i64 a1] rfl (by (try simp only [List.map_toArray, List.map_cons, List.map_nil]); first | done | rfl | (simp only [List.length_drop, List.length_take]; rfl)) ?_; (with_reducible refine (impl_symbol.calls k2 (rd l0 x12_1) (rd (l0.take (x12_1 : Int).toNat) x21_2) a1 t179 _ A12.out).mono ?_); rintro e w' ⟨rfl, ⟨nd, rfl⟩⟩; refine ⟨_, rfl, ?_⟩))
                        go_roundg k2
                        case measure => have := HK1.out; have := HK2.out; omega
                        case rel => exact ⟨(wrap64 (x5_2 * t179)), (wrap64 (x21_2 + 1)), (by first | rfl | (simp; done) | (simp [*]; done)), (by first | rfl | (simp; done) | (simp [*]; done)), H', ⟨by have := HK1.out; have := HK2.out; omega⟩, by repeat (first | exact Drawn0.refl _ | apply Drawn0.step)⟩
                      · rw [if_neg c11] at H
                        exact absurd H (by simp)
                    · rw [if_neg c10] at H
                      exact absurd H (by simp)
                  · rw [if_neg c9] at H
                    have c9b0 : decide (x21_2 < ((l0.take (x12_1 : Int).toNat).length : Int)) = false := decide_eq_false c9
                    have c9b1 : decide (x21_2 < max x12_1 0) = false := by rw [← QL.out]; exact c9b0
                    clear c9
                    have H' := Aside0.mk H
                    clear H
                    go_wp2
                    go_roundg k2
                    case measure => have := HK1.out; have := HK2.out; omega
                    case rel => exact ⟨(x5_2), (wrap64 (x12_1 + 1)), (by first | rfl | (simp; done) | (simp [*]; done)), (by first | rfl | (simp; done) | (simp [*]; done)), H', ⟨by have := HK1.out; have := HK2.out; omega⟩, by repeat (first | exact Drawn0.refl _ | apply Drawn0.step)⟩
            · rw [if_neg c7] at H
              exact absurd H (by simp)
          · rw [if_neg c5] at H
            exact absurd H (by simp)
        · rw [if_neg c4] at H
          exact absurd H (by simp)
      · rw [if_neg c3] at H
        have c3b0 : decide (x12_1 < (l0.length : Int)) = false := decide_eq_false c3
        clear c3
        obtain rfl := Option.some.inj H
        go_wp2
        go_ret
        exact ⟨by first | rfl | (simp; done) | (simp [*]; done), by repeat (first | exact Drawn0.refl _ | apply Drawn0.step)⟩

/-! ### impl_alike: function 60 -/
def impl_alike.f (k : Nat) (l0 : List Int) (l1 : List Int) (a2 : Int) : Option (Bool) := if a2 = 0 then ((impl_lessTerms.f k l0).bind fun t180 => ((impl_lessTerms.f k l1).bind fun t181 => (some (t180 == t181)))) else ((impl_product.f k l0).bind fun t182 => ((impl_product.f k l1).bind fun t183 => ((impl_localSquare.f k (wrap64 (t182 * t183)) a2).bind fun t184 => (if t184 = true then ((impl_invariant.f k l0 a2).bind fun t185 => ((impl_invariant.f k l1 a2).bind fun t186 => (some (t185 == t186)))) else (some false)))))
theorem impl_alike.mono : ∀ a0 a1 a2 k, LeO (impl_alike.f k a0 a1 a2) (impl_alike.f (k + 1) a0 a1 a2) := by
  intro a0 a1 a2 k
  unfold impl_alike.f
  repeat' first
      | (with_reducible exact impl_invariant.mono _ _ _)
      | (with_reducible exact impl_lessTerms.mono _ _)
      | (with_reducible exact impl_localSquare.mono _ _ _)
      | (with_reducible exact impl_product.mono _ _)
      | (with_reducible exact LeO.refl _)
      | (with_reducible exact LeO.none _)
      | (with_reducible refine LeO.ite ?_ ?_)
      | (with_reducible refine LeO.bind ?_ (fun _ => ?_))
      | exact impl_invariant.mono _ _ _
      | exact impl_lessTerms.mono _ _
      | exact impl_localSquare.mono _ _ _
      | exact impl_product.mono _ _
      | exact LeO.none _
      | refine LeO.ite ?_ ?_
      | refine LeO.bind ?_ (fun _ => ?_)
set_option maxHeartbeats 8000000 in
set_option maxRecDepth 100000 in
theorem impl_alike.calls (k : Nat) (A0 : Option Addr) (c0 : Nat) (l0 : List Int) (A1 : Option Addr) (c1 : Nat) (l1 : List Int) (a2 : Int) (r : Bool) (w : World) (hr0 : Kd.C (Kd.int .i64) w A0 l0.length l0) (hc0 : l0.length ≤ c0) (hr1 : Kd.C (Kd.int .i64) w A1 l1.length l1) (hc1 : l1.length ≤ c1) (h : impl_alike.f k l0 l1 a2 = some r) :
    Calls Try.prog 60 #[.slice A0 l0.length c0, .slice A1 l1.length c1, .int .i64 a2] w fun e w' => e = .returned (.bool r) ∧ Drawn0 w w' := by
  have HR0 := Aside0.mk hr0
  have HC0 := Aside0.mk hc0
  clear hr0 hc0
  have HR1 := Aside0.mk hr1
  have HC1 := Aside0.mk hc1
  clear hr1 hc1
  have H : (if a2 = 0 then ((impl_lessTerms.f k l0).bind fun t180 => ((impl_lessTerms.f k l1).bind fun t181 => (some (t180 == t181)))) else ((impl_product.f k l0).bind fun t182 => ((impl_product.f k l1).bind fun t183 => ((impl_localSquare.f k (wrap64 (t182 * t183)) a2).bind fun t184 => (if t184 = true then ((impl_invariant.f k l0 a2).bind fun t185 => ((impl_invariant.f k l1 a2).bind fun t186 => (some (t185 == t186)))) else (some false)))))) = some r := h
  clear h
  by_cases c4 : a2 = 0
  · rw [if_pos c4] at H
    have c4b0 : (a2 == 0) = true := beq_iff_eq.mpr c4
    have c4b1 : (a2 != 0) = false := bne_eq_false_iff_eq.mpr c4
    clear c4
    replace H := Option.bind_eq_some_iff.mp H
    obtain ⟨t180, A50, H⟩ := H
    replace H : ((impl_lessTerms.f k l1).bind fun t181 => (some (t180 == t181))) = some r := H
    have A5 := Aside0.mk A50
    clear A50
    replace H := Option.bind_eq_some_iff.mp H
    obtain ⟨t181, A60, H⟩ := H
    replace H : (some (t180 == t181)) = some r := H
    have A6 := Aside0.mk A60
    clear A60
    obtain rfl := Option.some.inj H
    go_enter Try.func60, Try.ntmps60
    go_wp2_with (first | ((with_reducible refine gate_callee (f := 66) rfl ?_); refine goesL_ (some 10) rfl rfl Try.func66 (by kernel_rfl) rfl #[.slice A0 l0.length c0] rfl (by (try simp only [List.map_toArray, List.map_cons, List.map_nil]); first | done | rfl | (simp only [List.length_drop, List.length_take]; rfl)) ?_; (with_reducible refine (impl_lessTerms.calls k _ _ l0 t180 _ ?side1 ?side2 A5.out).mono ?_); (case side1 => repeat (first | exact HR0.out | (with_reducible refine Kd.C_alloc ?_ _) | (with_reducible refine Kd.C_drewN ?_ _) | (with_reducible refine Kd.C_drew ?_))); (case side2 => exact HC0.out); rintro e w' ⟨rfl, ⟨nd, rfl⟩⟩; refine ⟨_, rfl, ?_⟩) | ((with_reducible refine gate_callee (f := 66) rfl ?_); refine goesL_ (some 12) rfl rfl Try.func66 (by kernel_rfl) rfl #[.slice A1 l1.length c1] rfl (by (try simp only [List.map_toArray, List.map_cons, List.map_nil]); first | done | rfl | (simp only [List.length_drop, List.length_take]; rfl)) ?_; (with_reducible refine (impl_lessTerms.calls k _ _ l1 t181 _ ?side1 ?side2 A6.out).mono ?_); (case side1 => repeat (first | exact HR1.out | (with_reducible refine Kd.C_alloc ?_ _) | (with_reducible refine Kd.C_drewN ?_ _) | (with_reducible refine Kd.C_drew ?_))); (case side2 => exact HC1.out); rintro e w' ⟨rfl, ⟨nd, rfl⟩⟩; refine ⟨_, rfl, ?_⟩))
    go_ret
    exact ⟨by first | rfl | (simp; done) | (simp [*]; done), by repeat (first | exact Drawn0.refl _ | apply Drawn0.step)⟩
  · rw [if_neg c4] at H
    have c4b0 : (a2 == 0) = false := beq_eq_false_iff_ne.mpr c4
    have c4b1 : (a2 != 0) = true := bne_iff_ne.mpr c4
    replace H := Option.bind_eq_some_iff.mp H
    obtain ⟨t182, A70, H⟩ := H
    replace H : ((impl_product.f k l1).bind fun t183 => ((impl_localSquare.f k (wrap64 (t182 * t183)) a2).bind fun t184 => (if t184 = true then ((impl_invariant.f k l0 a2).bind fun t185 => ((impl_invariant.f k l1 a2).bind fun t186 => (some (t185 == t186)))) else (some false)))) = some r := H
    have A7 := Aside0.mk A70
    clear A70
    replace H := Option.bind_eq_some_iff.mp H
    obtain ⟨t183, A80, H⟩ := H
    replace H : ((impl_localSquare.f k (wrap64 (t182 * t183)) a2).bind fun t184 => (if t184 = true then ((impl_invariant.f k l0 a2).bind fun t185 => ((impl_invariant.f k l1 a2).bind fun t186 => (some (t185 == t186)))) else (some false))) = some r := H
    have A8 := Aside0.mk A80
    clear A80
    replace H := Option.bind_eq_some_iff.mp H
    obtain ⟨t184, A90, H⟩ := H
    replace H : (if t184 = true then ((impl_invariant.f k l0 a2).bind fun t185 => ((impl_invariant.f k l1 a2).bind fun t186 => (some (t185 == t186)))) else (some false)) = some r := H
    have A9 := Aside0.mk A90
    clear A90
    by_cases c10 : t184 = true
    · subst c10
      have H1 : ((impl_invariant.f k l0 a2).bind fun t185 => ((impl_invariant.f k l1 a2).bind fun t186 => (some (t185 == t186)))) = some r := by rw [if_pos rfl] at H; exact H
      clear H
      have H := H1
      clear H1
      replace H := Option.bind_eq_some_iff.mp H
      obtain ⟨t185, A110, H⟩ := H
      replace H : ((impl_invariant.f k l1 a2).bind fun t186 => (some (t185 == t186))) = some r := H
      have A11 := Aside0.mk A110
      clear A110
      replace H := Option.bind_eq_some_iff.mp H
      obtain ⟨t186, A120, H⟩ := H
      replace H : (some (t185 == t186)) = some r := H
      have A12 := Aside0.mk A120
      clear A120
      obtain rfl := Option.some.inj H
      go_enter Try.func60, Try.ntmps60
      go_wp2_with (first | ((with_reducible refine gate_callee (f := 77) rfl ?_); refine goesL_ (some 15) rfl rfl Try.func77 (by kernel_rfl) rfl #[.slice A0 l0.length c0] rfl (by (try simp only [List.map_toArray, List.map_cons, List.map_nil]); first | done | rfl | (simp only [List.length_drop, List.length_take]; rfl)) ?_; (with_reducible refine (impl_product.calls k _ _ l0 t182 _ ?side1 ?side2 A7.out).mono ?_); (case side1 => repeat (first | exact HR0.out | (with_reducible refine Kd.C_alloc ?_ _) | (with_reducible refine Kd.C_drewN ?_ _) | (with_reducible refine Kd.C_drew ?_))); (case side2 => exact HC0.out); rintro e w' ⟨rfl, ⟨nd, rfl⟩⟩; refine ⟨_, rfl, ?_⟩) | ((with_reducible refine gate_callee (f := 77) rfl ?_); refine goesL_ (some 17) rfl rfl Try.func77 (by kernel_rfl) rfl #[.slice A1 l1.length c1] rfl (by (try simp only [List.map_toArray, List.map_cons, List.map_nil]); first | done | rfl | (simp only [List.length_drop, List.length_take]; rfl)) ?_; (with_reducible refine (impl_product.calls k _ _ l1 t183 _ ?side1 ?side2 A8.out).mono ?_); (case side1 => repeat (first | exact HR1.out | (with_reducible refine Kd.C_alloc ?_ _) | (with_reducible refine Kd.C_drewN ?_ _) | (with_reducible refine Kd.C_drew ?_))); (case side2 => exact HC1.out); rintro e w' ⟨rfl, ⟨nd, rfl⟩⟩; refine ⟨_, rfl, ?_⟩) | ((with_reducible refine gate_callee (f := 110) rfl ?_); refine goesL_ (some 20) rfl rfl Try.func110 (by kernel_rfl) rfl #[.int .i64 (wrap64 (t182 * t183)), .int .i64 a2] rfl (by (try simp only [List.map_toArray, List.map_cons, List.map_nil]); first | done | rfl | (simp only [List.length_drop, List.length_take]; rfl)) ?_; (with_reducible refine (impl_localSquare.calls k (wrap64 (t182 * t183)) a2 true _ A9.out).mono ?_); rintro e w' ⟨rfl, ⟨nd, rfl⟩⟩; refine ⟨_, rfl, ?_⟩) | (go_at_call 111; (with_reducible refine (impl_invariant.calls k _ _ l0 a2 t185 _ ?side1 ?side2 A11.out).mono ?_); (case side1 => repeat (first | exact HR0.out | (with_reducible refine Kd.C_alloc ?_ _) | (with_reducible refine Kd.C_drewN ?_ _) | (with_reducible refine Kd.C_drew ?_))); (case side2 => exact HC0.out); rintro e w' ⟨rfl, ⟨nd, rfl⟩⟩) | (go_at_call 111; (with_reducible refine (impl_invariant.calls k _ _ l1 a2 t186 _ ?side1 ?side2 A12.out).mono ?_); (case side1 => repeat (first | exact HR1.out | (with_reducible refine Kd.C_alloc ?_ _) | (with_reducible refine Kd.C_drewN ?_ _) | (with_reducible refine Kd.C_drew ?_))); (case side2 => exact HC1.out); rintro e w' ⟨rfl, ⟨nd, rfl⟩⟩))
      go_ret
      exact ⟨by first | rfl | (simp; done) | (simp [*]; done), by repeat (first | exact Drawn0.refl _ | apply Drawn0.step)⟩
    · replace c10 := Bool.eq_false_iff.mpr c10
      subst c10
      have H1 : (some false) = some r := by rw [if_neg (show ¬ (false = true) by decide)] at H; exact H
      clear H
      have H := H1
      clear H1
      obtain rfl := Option.some.inj H
      go_enter Try.func60, Try.ntmps60
      go_wp2_with (first | ((with_reducible refine gate_callee (f := 77) rfl ?_); refine goesL_ (some 15) rfl rfl Try.func77 (by kernel_rfl) rfl #[.slice A0 l0.length c0] rfl (by (try simp only [List.map_toArray, List.map_cons, List.map_nil]); first | done | rfl | (simp only [List.length_drop, List.length_take]; rfl)) ?_; (with_reducible refine (impl_product.calls k _ _ l0 t182 _ ?side1 ?side2 A7.out).mono ?_); (case side1 => repeat (first | exact HR0.out | (with_reducible refine Kd.C_alloc ?_ _) | (with_reducible refine Kd.C_drewN ?_ _) | (with_reducible refine Kd.C_drew ?_))); (case side2 => exact HC0.out); rintro e w' ⟨rfl, ⟨nd, rfl⟩⟩; refine ⟨_, rfl, ?_⟩) | ((with_reducible refine gate_callee (f := 77) rfl ?_); refine goesL_ (some 17) rfl rfl Try.func77 (by kernel_rfl) rfl #[.slice A1 l1.length c1] rfl (by (try simp only [List.map_toArray, List.map_cons, List.map_nil]); first | done | rfl | (simp only [List.length_drop, List.length_take]; rfl)) ?_; (with_reducible refine (impl_product.calls k _ _ l1 t183 _ ?side1 ?side2 A8.out).mono ?_); (case side1 => repeat (first | exact HR1.out | (with_reducible refine Kd.C_alloc ?_ _) | (with_reducible refine Kd.C_drewN ?_ _) | (with_reducible refine Kd.C_drew ?_))); (case side2 => exact HC1.out); rintro e w' ⟨rfl, ⟨nd, rfl⟩⟩; refine ⟨_, rfl, ?_⟩) | ((with_reducible refine gate_callee (f := 110) rfl ?_); refine goesL_ (some 20) rfl rfl Try.func110 (by kernel_rfl) rfl #[.int .i64 (wrap64 (t182 * t183)), .int .i64 a2] rfl (by (try simp only [List.map_toArray, List.map_cons, List.map_nil]); first | done | rfl | (simp only [List.length_drop, List.length_take]; rfl)) ?_; (with_reducible refine (impl_localSquare.calls k (wrap64 (t182 * t183)) a2 false _ A9.out).mono ?_); rintro e w' ⟨rfl, ⟨nd, rfl⟩⟩; refine ⟨_, rfl, ?_⟩))
      go_ret
      exact ⟨by first | rfl | (simp; done) | (simp [*]; done), by repeat (first | exact Drawn0.refl _ | apply Drawn0.step)⟩

end Go.Proofs.Ytbfnkfnapfaimaa.PFnReplace

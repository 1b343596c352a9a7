-- Written by a program of this session (wip/patch_print.py) over the kit's print.
import Derived.Test.YtcboggdombllcaaPFnSplitx0
import Derived.Test.YtcboggdombllcaaPFnSplitx5
namespace Go.Proofs.Ytcboggdombllcaa.PFnSplit
open Go.RowKit Go.Proofs.YtcboggdombllcaaW.PrintWords Go.Proofs.YtcboggdombllcaaW.PrintLast Go.Proofs.YtcboggdombllcaaW.PrintMore
attribute [local go_sem] max2_int min2_int max_two min_two max_three min_three max_four min_four   -- for this text's walks alone
set_option linter.unusedVariables false
set_option linter.unusedSimpArgs false

/-! ### spec_l1Power: function 121 -/
def spec_l1Power.l0 : Nat → Int → Int → Int → Int → Option (Int)
  | 0, _, _, _, _ => none
  | k + 1, x0, x1, x2, x7 => if x1 > 0 then (if (Int.tmod x1 2) = 1 then (if x2 = 0 then (none) else (spec_l1Power.l0 k (Int.tmod (wrap64 (x0 * x0)) x2) (wrap64 (Int.tdiv x1 2)) x2 (Int.tmod (wrap64 (x7 * x0)) x2))) else (if x2 = 0 then (none) else (spec_l1Power.l0 k (Int.tmod (wrap64 (x0 * x0)) x2) (wrap64 (Int.tdiv x1 2)) x2 x7))) else (some x7)
def spec_l1Power.f (k : Nat) (a0 : Int) (a1 : Int) (a2 : Int) : Option (Int) := if a2 = 0 then (none) else ((spec_l1Mod.f a0 a2).bind fun t258 => (spec_l1Power.l0 k t258 a1 a2 ((1 : Int) % a2)))
theorem spec_l1Power.mono_l : ∀ k, (∀ y0 y1 y2 y3, LeO (spec_l1Power.l0 k y0 y1 y2 y3) (spec_l1Power.l0 (k + 1) y0 y1 y2 y3))
  | 0 => fun _ _ _ _ r h => by simp [spec_l1Power.l0] at h
  | k + 1 => by
    have ih0 := spec_l1Power.mono_l k
    · intro y0 y1 y2 y3
      unfold spec_l1Power.l0
      repeat' first
      | (with_reducible exact ih0 _ _ _ _)
      | (with_reducible exact LeO.refl _)
      | (with_reducible exact LeO.none _)
      | (with_reducible refine LeO.ite ?_ ?_)
      | (with_reducible refine LeO.bind ?_ (fun _ => ?_))
      | exact ih0 _ _ _ _
      | exact LeO.none _
      | refine LeO.ite ?_ ?_
      | refine LeO.bind ?_ (fun _ => ?_)
theorem spec_l1Power.mono : ∀ a0 a1 a2 k, LeO (spec_l1Power.f k a0 a1 a2) (spec_l1Power.f (k + 1) a0 a1 a2) := by
  intro a0 a1 a2 k
  have ih0 := spec_l1Power.mono_l k
  unfold spec_l1Power.f
  repeat' first
      | (with_reducible exact ih0 _ _ _ _)
      | (with_reducible exact LeO.refl _)
      | (with_reducible exact LeO.none _)
      | (with_reducible refine LeO.ite ?_ ?_)
      | (with_reducible refine LeO.bind ?_ (fun _ => ?_))
      | exact ih0 _ _ _ _
      | exact LeO.none _
      | refine LeO.ite ?_ ?_
      | refine LeO.bind ?_ (fun _ => ?_)
set_option maxHeartbeats 8000000 in
set_option maxRecDepth 100000 in
theorem spec_l1Power.calls (k : Nat) (a0 : Int) (a1 : Int) (a2 : Int) (r : Int) (w : World) (h : spec_l1Power.f k a0 a1 a2 = some r) :
    Calls Try.prog 121 #[.int .i64 a0, .int .i64 a1, .int .i64 a2] w fun e w' => e = .returned (.int .i64 r) ∧ Drawn0 w w' := by
  have H : (if a2 = 0 then (none) else ((spec_l1Mod.f a0 a2).bind fun t258 => (spec_l1Power.l0 k t258 a1 a2 ((1 : Int) % a2)))) = some r := h
  clear h
  by_cases c4 : a2 = 0
  · rw [if_pos c4] at H
    exact absurd H (by simp)
  · rw [if_neg c4] at H
    have c4b0 : (a2 == 0) = false := beq_eq_false_iff_ne.mpr c4
    have c4b1 : (a2 != 0) = true := bne_iff_ne.mpr c4
    replace H := Option.bind_eq_some_iff.mp H
    obtain ⟨t258, A50, H⟩ := H
    replace H : (spec_l1Power.l0 k t258 a1 a2 ((1 : Int) % a2)) = some r := H
    have A5 := Aside0.mk A50
    clear A50
    have H' := Aside0.mk H
    clear H
    go_enter Try.func121, Try.ntmps121
    go_wp2_with (first | ((with_reducible refine gate_callee (f := 109) rfl ?_); refine goesL_ (some 12) rfl rfl Try.func109 (by kernel_rfl) rfl #[.int .i64 a0, .int .i64 a2] rfl (by (try simp only [List.map_toArray, List.map_cons, List.map_nil]); first | done | rfl | (simp only [List.length_drop, List.length_take]; rfl)) ?_; (with_reducible refine (spec_l1Mod.calls a0 a2 t258 _ A5.out).mono ?_); rintro e w' ⟨rfl, ⟨nd, rfl⟩⟩; refine ⟨_, rfl, ?_⟩))
    go_loopg [0, 1, 7] k (fun kq v0 v1 v7 w' => ∃ (x0_1 : Int) (x1_1 : Int) (x7_1 : Int), v0 = .int .i64 x0_1 ∧ v1 = .int .i64 x1_1 ∧ v7 = .int .i64 x7_1 ∧ Aside0 (spec_l1Power.l0 kq x0_1 x1_1 a2 x7_1 = some r) ∧ Aside0 (kq ≤ k) ∧ Drawn0 w w')
    case atStart => exact ⟨(t258), (a1), ((1 : Int) % a2), (by first | rfl | (simp; done) | (simp [*]; done)), (by first | rfl | (simp; done) | (simp [*]; done)), (by first | rfl | (simp; done) | (simp [*]; done)), H', ⟨Nat.le_refl _⟩, by repeat (first | exact Drawn0.refl _ | apply Drawn0.step)⟩
    case round =>
      clear H'
      try clear c1
      try clear p2
      try clear c4
      try clear c4b0
      try clear c4b1
      obtain ⟨x0_1, x1_1, x7_1, rfl, rfl, rfl, HA, HK1, ⟨m1, rfl⟩⟩ := hrel
      cases gk with
      | zero => exact absurd HA.out (by simp [spec_l1Power.l0])
      | succ k1 =>
        have H := HA.out
        clear HA
        simp only [spec_l1Power.l0] at H
        by_cases c6 : x1_1 > 0
        · rw [if_pos c6] at H
          have c6b0 : decide (0 < x1_1) = true := decide_eq_true c6
          clear c6
          by_cases c7 : (Int.tmod x1_1 2) = 1
          · rw [if_pos c7] at H
            have c7b0 : ((Int.tmod x1_1 2) == 1) = true := beq_iff_eq.mpr c7
            have c7b1 : ((Int.tmod x1_1 2) != 1) = false := bne_eq_false_iff_eq.mpr c7
            clear c7
            by_cases c8 : a2 = 0
            · rw [if_pos c8] at H
              exact absurd H (by simp)
            · rw [if_neg c8] at H
              have c8b0 : (a2 == 0) = false := beq_eq_false_iff_ne.mpr c8
              have c8b1 : (a2 != 0) = true := bne_iff_ne.mpr c8
              have H' := Aside0.mk H
              clear H
              go_wp2
              go_roundg k1
              case measure => have := HK1.out; omega
              case rel => exact ⟨(Int.tmod (wrap64 (x0_1 * x0_1)) a2), (wrap64 (Int.tdiv x1_1 2)), (Int.tmod (wrap64 (x7_1 * x0_1)) a2), (by first | rfl | (simp; done) | (simp [*]; done)), (by first | rfl | (simp; done) | (simp [*]; done)), (by first | rfl | (simp; done) | (simp [*]; done)), H', ⟨by have := HK1.out; omega⟩, by repeat (first | exact Drawn0.refl _ | apply Drawn0.step)⟩
          · rw [if_neg c7] at H
            have c7b0 : ((Int.tmod x1_1 2) == 1) = false := beq_eq_false_iff_ne.mpr c7
            have c7b1 : ((Int.tmod x1_1 2) != 1) = true := bne_iff_ne.mpr c7
            by_cases c9 : a2 = 0
            · rw [if_pos c9] at H
              exact absurd H (by simp)
            · rw [if_neg c9] at H
              have c9b0 : (a2 == 0) = false := beq_eq_false_iff_ne.mpr c9
              have c9b1 : (a2 != 0) = true := bne_iff_ne.mpr c9
              have H' := Aside0.mk H
              clear H
              go_wp2
              go_roundg k1
              case measure => have := HK1.out; omega
              case rel => exact ⟨(Int.tmod (wrap64 (x0_1 * x0_1)) a2), (wrap64 (Int.tdiv x1_1 2)), (x7_1), (by first | rfl | (simp; done) | (simp [*]; done)), (by first | rfl | (simp; done) | (simp [*]; done)), (by first | rfl | (simp; done) | (simp [*]; done)), H', ⟨by have := HK1.out; omega⟩, by repeat (first | exact Drawn0.refl _ | apply Drawn0.step)⟩
        · rw [if_neg c6] at H
          have c6b0 : decide (0 < x1_1) = false := decide_eq_false c6
          clear c6
          obtain rfl := Option.some.inj H
          go_wp2
          go_ret
          exact ⟨by first | rfl | (simp; done) | (simp [*]; done), by repeat (first | exact Drawn0.refl _ | apply Drawn0.step)⟩

/-! ### spec_l1Residue: function 110 -/
def spec_l1Residue.f (k : Nat) (a0 : Int) (a1 : Int) : Option (Int) := (spec_l1Power.f k a0 (wrap64 (Int.tdiv (wrap64 (a1 - 1)) 2)) a1).bind fun t259 => (if t259 = (wrap64 (a1 - 1)) then (some (-1)) else (some t259))
theorem spec_l1Residue.mono : ∀ a0 a1 k, LeO (spec_l1Residue.f k a0 a1) (spec_l1Residue.f (k + 1) a0 a1) := by
  intro a0 a1 k
  unfold spec_l1Residue.f
  repeat' first
      | (with_reducible exact spec_l1Power.mono _ _ _ _)
      | (with_reducible exact LeO.refl _)
      | (with_reducible exact LeO.none _)
      | (with_reducible refine LeO.ite ?_ ?_)
      | (with_reducible refine LeO.bind ?_ (fun _ => ?_))
      | exact spec_l1Power.mono _ _ _ _
      | exact LeO.none _
      | refine LeO.ite ?_ ?_
      | refine LeO.bind ?_ (fun _ => ?_)
set_option maxHeartbeats 8000000 in
set_option maxRecDepth 100000 in
theorem spec_l1Residue.calls (k : Nat) (a0 : Int) (a1 : Int) (r : Int) (w : World) (h : spec_l1Residue.f k a0 a1 = some r) :
    Calls Try.prog 110 #[.int .i64 a0, .int .i64 a1] w fun e w' => e = .returned (.int .i64 r) ∧ Drawn0 w w' := by
  have H : ((spec_l1Power.f k a0 (wrap64 (Int.tdiv (wrap64 (a1 - 1)) 2)) a1).bind fun t259 => (if t259 = (wrap64 (a1 - 1)) then (some (-1)) else (some t259))) = some r := h
  clear h
  replace H := Option.bind_eq_some_iff.mp H
  obtain ⟨t259, A30, H⟩ := H
  replace H : (if t259 = (wrap64 (a1 - 1)) then (some (-1)) else (some t259)) = some r := H
  have A3 := Aside0.mk A30
  clear A30
  by_cases c4 : t259 = (wrap64 (a1 - 1))
  · rw [if_pos c4] at H
    have c4b0 : (t259 == (wrap64 (a1 - 1))) = true := beq_iff_eq.mpr c4
    have c4b1 : (t259 != (wrap64 (a1 - 1))) = false := bne_eq_false_iff_eq.mpr c4
    clear c4
    obtain rfl := Option.some.inj H
    go_enter Try.func110, Try.ntmps110
    go_wp2_with (first | ((with_reducible refine gate_callee (f := 121) rfl ?_); refine goesL_ (some 11) rfl rfl Try.func121 (by kernel_rfl) rfl #[.int .i64 a0, .int .i64 (wrap64 (Int.tdiv (wrap64 (a1 - 1)) 2)), .int .i64 a1] rfl (by (try simp only [List.map_toArray, List.map_cons, List.map_nil]); first | done | rfl | (simp only [List.length_drop, List.length_take]; rfl)) ?_; (with_reducible refine (spec_l1Power.calls k a0 (wrap64 (Int.tdiv (wrap64 (a1 - 1)) 2)) a1 t259 _ A3.out).mono ?_); rintro e w' ⟨rfl, ⟨nd, rfl⟩⟩; refine ⟨_, rfl, ?_⟩))
    go_ret
    exact ⟨by first | rfl | (simp; done) | (simp [*]; done), by repeat (first | exact Drawn0.refl _ | apply Drawn0.step)⟩
  · rw [if_neg c4] at H
    have c4b0 : (t259 == (wrap64 (a1 - 1))) = false := beq_eq_false_iff_ne.mpr c4
    have c4b1 : (t259 != (wrap64 (a1 - 1))) = true := bne_iff_ne.mpr c4
    obtain rfl := Option.some.inj H
    go_enter Try.func110, Try.ntmps110
    go_wp2_with (first | ((with_reducible refine gate_callee (f := 121) rfl ?_); refine goesL_ (some 11) rfl rfl Try.func121 (by kernel_rfl) rfl #[.int .i64 a0, .int .i64 (wrap64 (Int.tdiv (wrap64 (a1 - 1)) 2)), .int .i64 a1] rfl (by (try simp only [List.map_toArray, List.map_cons, List.map_nil]); first | done | rfl | (simp only [List.length_drop, List.length_take]; rfl)) ?_; (with_reducible refine (spec_l1Power.calls k a0 (wrap64 (Int.tdiv (wrap64 (a1 - 1)) 2)) a1 t259 _ A3.out).mono ?_); rintro e w' ⟨rfl, ⟨nd, rfl⟩⟩; refine ⟨_, rfl, ?_⟩))
    go_ret
    exact ⟨by first | rfl | (simp; done) | (simp [*]; done), by repeat (first | exact Drawn0.refl _ | apply Drawn0.step)⟩

/-! ### spec_l3Symbol: function 75 -/
def spec_l3Symbol.f (k : Nat) (a0 : Int) (a1 : Int) (a2 : Int) : Option (Int) := if a2 = 0 then (if a0 < 0 then (if a1 < 0 then (some (-1)) else (some 1)) else (some 1)) else ((spec_l1Valuation.f k a0 a2).bind fun bt260 => ((spec_l1Valuation.f k a1 a2).bind fun bt262 => (if a2 = 2 then ((spec_l1Mod.f bt260.2 16).bind fun t264 => ((spec_l1Mod.f bt262.2 16).bind fun t265 => ((spec_l3Half.f (wrap64 ((wrap64 ((wrap64 ((wrap64 (Int.tdiv (wrap64 (t264 - 1)) 2)) * (wrap64 (Int.tdiv (wrap64 (t265 - 1)) 2)))) + (wrap64 (bt260.1 * (wrap64 (Int.tdiv (wrap64 ((wrap64 (t265 * t265)) - 1)) 8)))))) + (wrap64 (bt262.1 * (wrap64 (Int.tdiv (wrap64 ((wrap64 (t264 * t264)) - 1)) 8))))))).bind fun t266 => (some t266)))) else ((spec_l3Half.f (wrap64 ((wrap64 (bt260.1 * bt262.1)) * (wrap64 (Int.tdiv (wrap64 (a2 - 1)) 2))))).bind fun t267 => (if (Int.tmod bt262.1 2) = 1 then ((spec_l1Residue.f k bt260.2 a2).bind fun t268 => (if (Int.tmod bt260.1 2) = 1 then ((spec_l1Residue.f k bt262.2 a2).bind fun t269 => (some (wrap64 ((wrap64 (t267 * t268)) * t269)))) else (some (wrap64 (t267 * t268))))) else (if (Int.tmod bt260.1 2) = 1 then ((spec_l1Residue.f k bt262.2 a2).bind fun t270 => (some (wrap64 (t267 * t270)))) else (some t267)))))))
theorem spec_l3Symbol.mono : ∀ a0 a1 a2 k, LeO (spec_l3Symbol.f k a0 a1 a2) (spec_l3Symbol.f (k + 1) a0 a1 a2) := by
  intro a0 a1 a2 k
  unfold spec_l3Symbol.f
  repeat' first
      | (with_reducible exact spec_l1Residue.mono _ _ _)
      | (with_reducible exact spec_l1Valuation.mono _ _ _)
      | (with_reducible exact LeO.refl _)
      | (with_reducible exact LeO.none _)
      | (with_reducible refine LeO.ite ?_ ?_)
      | (with_reducible refine LeO.bind ?_ (fun _ => ?_))
      | exact spec_l1Residue.mono _ _ _
      | exact spec_l1Valuation.mono _ _ _
      | exact LeO.none _
      | refine LeO.ite ?_ ?_
      | refine LeO.bind ?_ (fun _ => ?_)
set_option maxHeartbeats 8000000 in
set_option maxRecDepth 100000 in
theorem spec_l3Symbol.calls (k : Nat) (a0 : Int) (a1 : Int) (a2 : Int) (r : Int) (w : World) (h : spec_l3Symbol.f k a0 a1 a2 = some r) :
    Calls Try.prog 75 #[.int .i64 a0, .int .i64 a1, .int .i64 a2] w fun e w' => e = .returned (.int .i64 r) ∧ Drawn0 w w' := by
  have H : (if a2 = 0 then (if a0 < 0 then (if a1 < 0 then (some (-1)) else (some 1)) else (some 1)) else ((spec_l1Valuation.f k a0 a2).bind fun bt260 => ((spec_l1Valuation.f k a1 a2).bind fun bt262 => (if a2 = 2 then ((spec_l1Mod.f bt260.2 16).bind fun t264 => ((spec_l1Mod.f bt262.2 16).bind fun t265 => ((spec_l3Half.f (wrap64 ((wrap64 ((wrap64 ((wrap64 (Int.tdiv (wrap64 (t264 - 1)) 2)) * (wrap64 (Int.tdiv (wrap64 (t265 - 1)) 2)))) + (wrap64 (bt260.1 * (wrap64 (Int.tdiv (wrap64 ((wrap64 (t265 * t265)) - 1)) 8)))))) + (wrap64 (bt262.1 * (wrap64 (Int.tdiv (wrap64 ((wrap64 (t264 * t264)) - 1)) 8))))))).bind fun t266 => (some t266)))) else ((spec_l3Half.f (wrap64 ((wrap64 (bt260.1 * bt262.1)) * (wrap64 (Int.tdiv (wrap64 (a2 - 1)) 2))))).bind fun t267 => (if (Int.tmod bt262.1 2) = 1 then ((spec_l1Residue.f k bt260.2 a2).bind fun t268 => (if (Int.tmod bt260.1 2) = 1 then ((spec_l1Residue.f k bt262.2 a2).bind fun t269 => (some (wrap64 ((wrap64 (t267 * t268)) * t269)))) else (some (wrap64 (t267 * t268))))) else (if (Int.tmod bt260.1 2) = 1 then ((spec_l1Residue.f k bt262.2 a2).bind fun t270 => (some (wrap64 (t267 * t270)))) else (some t267)))))))) = some r := h
  clear h
  by_cases c4 : a2 = 0
  · rw [if_pos c4] at H
    have c4b0 : (a2 == 0) = true := beq_iff_eq.mpr c4
    have c4b1 : (a2 != 0) = false := bne_eq_false_iff_eq.mpr c4
    clear c4
    by_cases c5 : a0 < 0
    · rw [if_pos c5] at H
      have c5b0 : decide (a0 < 0) = true := decide_eq_true c5
      clear c5
      by_cases c6 : a1 < 0
      · rw [if_pos c6] at H
        have c6b0 : decide (a1 < 0) = true := decide_eq_true c6
        clear c6
        obtain rfl := Option.some.inj H
        go_enter Try.func75, Try.ntmps75
        go_wp2
        go_ret
        exact ⟨by first | rfl | (simp; done) | (simp [*]; done), by repeat (first | exact Drawn0.refl _ | apply Drawn0.step)⟩
      · rw [if_neg c6] at H
        have c6b0 : decide (a1 < 0) = false := decide_eq_false c6
        clear c6
        obtain rfl := Option.some.inj H
        go_enter Try.func75, Try.ntmps75
        go_wp2
        go_ret
        exact ⟨by first | rfl | (simp; done) | (simp [*]; done), by repeat (first | exact Drawn0.refl _ | apply Drawn0.step)⟩
    · rw [if_neg c5] at H
      have c5b0 : decide (a0 < 0) = false := decide_eq_false c5
      clear c5
      obtain rfl := Option.some.inj H
      go_enter Try.func75, Try.ntmps75
      go_wp2
      go_ret
      exact ⟨by first | rfl | (simp; done) | (simp [*]; done), by repeat (first | exact Drawn0.refl _ | apply Drawn0.step)⟩
  · rw [if_neg c4] at H
    have c4b0 : (a2 == 0) = false := beq_eq_false_iff_ne.mpr c4
    have c4b1 : (a2 != 0) = true := bne_iff_ne.mpr c4
    replace H := Option.bind_eq_some_iff.mp H
    obtain ⟨⟨t260, t261⟩, A70, H⟩ := H
    replace H : ((spec_l1Valuation.f k a1 a2).bind fun bt262 => (if a2 = 2 then ((spec_l1Mod.f t261 16).bind fun t264 => ((spec_l1Mod.f bt262.2 16).bind fun t265 => ((spec_l3Half.f (wrap64 ((wrap64 ((wrap64 ((wrap64 (Int.tdiv (wrap64 (t264 - 1)) 2)) * (wrap64 (Int.tdiv (wrap64 (t265 - 1)) 2)))) + (wrap64 (t260 * (wrap64 (Int.tdiv (wrap64 ((wrap64 (t265 * t265)) - 1)) 8)))))) + (wrap64 (bt262.1 * (wrap64 (Int.tdiv (wrap64 ((wrap64 (t264 * t264)) - 1)) 8))))))).bind fun t266 => (some t266)))) else ((spec_l3Half.f (wrap64 ((wrap64 (t260 * bt262.1)) * (wrap64 (Int.tdiv (wrap64 (a2 - 1)) 2))))).bind fun t267 => (if (Int.tmod bt262.1 2) = 1 then ((spec_l1Residue.f k t261 a2).bind fun t268 => (if (Int.tmod t260 2) = 1 then ((spec_l1Residue.f k bt262.2 a2).bind fun t269 => (some (wrap64 ((wrap64 (t267 * t268)) * t269)))) else (some (wrap64 (t267 * t268))))) else (if (Int.tmod t260 2) = 1 then ((spec_l1Residue.f k bt262.2 a2).bind fun t270 => (some (wrap64 (t267 * t270)))) else (some t267)))))) = some r := H
    have A7 := Aside0.mk A70
    clear A70
    replace H := Option.bind_eq_some_iff.mp H
    obtain ⟨⟨t262, t263⟩, A80, H⟩ := H
    replace H : (if a2 = 2 then ((spec_l1Mod.f t261 16).bind fun t264 => ((spec_l1Mod.f t263 16).bind fun t265 => ((spec_l3Half.f (wrap64 ((wrap64 ((wrap64 ((wrap64 (Int.tdiv (wrap64 (t264 - 1)) 2)) * (wrap64 (Int.tdiv (wrap64 (t265 - 1)) 2)))) + (wrap64 (t260 * (wrap64 (Int.tdiv (wrap64 ((wrap64 (t265 * t265)) - 1)) 8)))))) + (wrap64 (t262 * (wrap64 (Int.tdiv (wrap64 ((wrap64 (t264 * t264)) - 1)) 8))))))).bind fun t266 => (some t266)))) else ((spec_l3Half.f (wrap64 ((wrap64 (t260 * t262)) * (wrap64 (Int.tdiv (wrap64 (a2 - 1)) 2))))).bind fun t267 => (if (Int.tmod t262 2) = 1 then ((spec_l1Residue.f k t261 a2).bind fun t268 => (if (Int.tmod t260 2) = 1 then ((spec_l1Residue.f k t263 a2).bind fun t269 => (some (wrap64 ((wrap64 (t267 * t268)) * t269)))) else (some (wrap64 (t267 * t268))))) else (if (Int.tmod t260 2) = 1 then ((spec_l1Residue.f k t263 a2).bind fun t270 => (some (wrap64 (t267 * t270)))) else (some t267))))) = some r := H
    have A8 := Aside0.mk A80
    clear A80
    by_cases c9 : a2 = 2
    · rw [if_pos c9] at H
      have c9b0 : (a2 == 2) = true := beq_iff_eq.mpr c9
      have c9b1 : (a2 != 2) = false := bne_eq_false_iff_eq.mpr c9
      clear c9
      replace H := Option.bind_eq_some_iff.mp H
      obtain ⟨t264, A100, H⟩ := H
      replace H : ((spec_l1Mod.f t263 16).bind fun t265 => ((spec_l3Half.f (wrap64 ((wrap64 ((wrap64 ((wrap64 (Int.tdiv (wrap64 (t264 - 1)) 2)) * (wrap64 (Int.tdiv (wrap64 (t265 - 1)) 2)))) + (wrap64 (t260 * (wrap64 (Int.tdiv (wrap64 ((wrap64 (t265 * t265)) - 1)) 8)))))) + (wrap64 (t262 * (wrap64 (Int.tdiv (wrap64 ((wrap64 (t264 * t264)) - 1)) 8))))))).bind fun t266 => (some t266))) = some r := H
      have A10 := Aside0.mk A100
      clear A100
      replace H := Option.bind_eq_some_iff.mp H
      obtain ⟨t265, A110, H⟩ := H
      replace H : ((spec_l3Half.f (wrap64 ((wrap64 ((wrap64 ((wrap64 (Int.tdiv (wrap64 (t264 - 1)) 2)) * (wrap64 (Int.tdiv (wrap64 (t265 - 1)) 2)))) + (wrap64 (t260 * (wrap64 (Int.tdiv (wrap64 ((wrap64 (t265 * t265)) - 1)) 8)))))) + (wrap64 (t262 * (wrap64 (Int.tdiv (wrap64 ((wrap64 (t264 * t264)) - 1)) 8))))))).bind fun t266 => (some t266)) = some r := H
      have A11 := Aside0.mk A110
      clear A110
      replace H := Option.bind_eq_some_iff.mp H
      obtain ⟨t266, A120, H⟩ := H
      replace H : (some t266) = some r := H
      have A12 := Aside0.mk A120
      clear A120
      obtain rfl := Option.some.inj H
      go_enter Try.func75, Try.ntmps75
      go_wp2_with (first | ((with_reducible refine gate_callee (f := 108) rfl ?_); refine goesL_ (some 23) rfl rfl Try.func108 (by kernel_rfl) rfl #[.int .i64 a0, .int .i64 a2] rfl (by (try simp only [List.map_toArray, List.map_cons, List.map_nil]); first | done | rfl | (simp only [List.length_drop, List.length_take]; rfl)) ?_; (with_reducible refine (spec_l1Valuation.calls k a0 a2 t260 t261 _ A7.out).mono ?_); rintro e w' ⟨rfl, ⟨nd, rfl⟩⟩; refine ⟨_, rfl, ?_⟩) | ((with_reducible refine gate_callee (f := 108) rfl ?_); refine goesL_ (some 29) rfl rfl Try.func108 (by kernel_rfl) rfl #[.int .i64 a1, .int .i64 a2] rfl (by (try simp only [List.map_toArray, List.map_cons, List.map_nil]); first | done | rfl | (simp only [List.length_drop, List.length_take]; rfl)) ?_; (with_reducible refine (spec_l1Valuation.calls k a1 a2 t262 t263 _ A8.out).mono ?_); rintro e w' ⟨rfl, ⟨nd, rfl⟩⟩; refine ⟨_, rfl, ?_⟩) | ((with_reducible refine gate_callee (f := 109) rfl ?_); refine goesL_ (some 35) rfl rfl Try.func109 (by kernel_rfl) rfl #[.int .i64 t261, .int .i64 16] rfl (by (try simp only [List.map_toArray, List.map_cons, List.map_nil]); first | done | rfl | (simp only [List.length_drop, List.length_take]; rfl)) ?_; (with_reducible refine (spec_l1Mod.calls t261 16 t264 _ A10.out).mono ?_); rintro e w' ⟨rfl, ⟨nd, rfl⟩⟩; refine ⟨_, rfl, ?_⟩) | ((with_reducible refine gate_callee (f := 109) rfl ?_); refine goesL_ (some 37) rfl rfl Try.func109 (by kernel_rfl) rfl #[.int .i64 t263, .int .i64 16] rfl (by (try simp only [List.map_toArray, List.map_cons, List.map_nil]); first | done | rfl | (simp only [List.length_drop, List.length_take]; rfl)) ?_; (with_reducible refine (spec_l1Mod.calls t263 16 t265 _ A11.out).mono ?_); rintro e w' ⟨rfl, ⟨nd, rfl⟩⟩; refine ⟨_, rfl, ?_⟩) | ((with_reducible refine gate_callee (f := 73) rfl ?_); refine goesL_ (some 61) rfl rfl Try.func73 (by kernel_rfl) rfl #[.int .i64 (wrap64 ((wrap64 ((wrap64 ((wrap64 (Int.tdiv (wrap64 (t264 - 1)) 2)) * (wrap64 (Int.tdiv (wrap64 (t265 - 1)) 2)))) + (wrap64 (t260 * (wrap64 (Int.tdiv (wrap64 ((wrap64 (t265 * t265)) - 1)) 8)))))) + (wrap64 (t262 * (wrap64 (Int.tdiv (wrap64 ((wrap64 (t264 * t264)) - 1)) 8))))))] rfl (by (try simp only [List.map_toArray, List.map_cons, List.map_nil]); first | done | rfl | (simp only [List.length_drop, List.length_take]; rfl)) ?_; (with_reducible refine (spec_l3Half.calls (wrap64 ((wrap64 ((wrap64 ((wrap64 (Int.tdiv (wrap64 (t264 - 1)) 2)) * (wrap64 (Int.tdiv (wrap64 (t265 - 1)) 2)))) + (wrap64 (t260 * (wrap64 (Int.tdiv (wrap64 ((wrap64 (t265 * t265)) - 1)) 8)))))) + (wrap64 (t262 * (wrap64 (Int.tdiv (wrap64 ((wrap64 (t264 * t264)) - 1)) 8)))))) t266 _ A12.out).mono ?_); rintro e w' ⟨rfl, ⟨nd, rfl⟩⟩; refine ⟨_, rfl, ?_⟩))
      go_ret
      exact ⟨by first | rfl | (simp; done) | (simp [*]; done), by repeat (first | exact Drawn0.refl _ | apply Drawn0.step)⟩
    · rw [if_neg c9] at H
      have c9b0 : (a2 == 2) = false := beq_eq_false_iff_ne.mpr c9
      have c9b1 : (a2 != 2) = true := bne_iff_ne.mpr c9
      replace H := Option.bind_eq_some_iff.mp H
      obtain ⟨t267, A130, H⟩ := H
      replace H : (if (Int.tmod t262 2) = 1 then ((spec_l1Residue.f k t261 a2).bind fun t268 => (if (Int.tmod t260 2) = 1 then ((spec_l1Residue.f k t263 a2).bind fun t269 => (some (wrap64 ((wrap64 (t267 * t268)) * t269)))) else (some (wrap64 (t267 * t268))))) else (if (Int.tmod t260 2) = 1 then ((spec_l1Residue.f k t263 a2).bind fun t270 => (some (wrap64 (t267 * t270)))) else (some t267))) = some r := H
      have A13 := Aside0.mk A130
      clear A130
      by_cases c14 : (Int.tmod t262 2) = 1
      · rw [if_pos c14] at H
        have c14b0 : ((Int.tmod t262 2) == 1) = true := beq_iff_eq.mpr c14
        have c14b1 : ((Int.tmod t262 2) != 1) = false := bne_eq_false_iff_eq.mpr c14
        clear c14
        replace H := Option.bind_eq_some_iff.mp H
        obtain ⟨t268, A150, H⟩ := H
        replace H : (if (Int.tmod t260 2) = 1 then ((spec_l1Residue.f k t263 a2).bind fun t269 => (some (wrap64 ((wrap64 (t267 * t268)) * t269)))) else (some (wrap64 (t267 * t268)))) = some r := H
        have A15 := Aside0.mk A150
        clear A150
        by_cases c16 : (Int.tmod t260 2) = 1
        · rw [if_pos c16] at H
          have c16b0 : ((Int.tmod t260 2) == 1) = true := beq_iff_eq.mpr c16
          have c16b1 : ((Int.tmod t260 2) != 1) = false := bne_eq_false_iff_eq.mpr c16
          clear c16
          replace H := Option.bind_eq_some_iff.mp H
          obtain ⟨t269, A170, H⟩ := H
          replace H : (some (wrap64 ((wrap64 (t267 * t268)) * t269))) = some r := H
          have A17 := Aside0.mk A170
          clear A170
          obtain rfl := Option.some.inj H
          go_enter Try.func75, Try.ntmps75
          go_wp2_with (first | ((with_reducible refine gate_callee (f := 108) rfl ?_); refine goesL_ (some 23) rfl rfl Try.func108 (by kernel_rfl) rfl #[.int .i64 a0, .int .i64 a2] rfl (by (try simp only [List.map_toArray, List.map_cons, List.map_nil]); first | done | rfl | (simp only [List.length_drop, List.length_take]; rfl)) ?_; (with_reducible refine (spec_l1Valuation.calls k a0 a2 t260 t261 _ A7.out).mono ?_); rintro e w' ⟨rfl, ⟨nd, rfl⟩⟩; refine ⟨_, rfl, ?_⟩) | ((with_reducible refine gate_callee (f := 108) rfl ?_); refine goesL_ (some 29) rfl rfl Try.func108 (by kernel_rfl) rfl #[.int .i64 a1, .int .i64 a2] rfl (by (try simp only [List.map_toArray, List.map_cons, List.map_nil]); first | done | rfl | (simp only [List.length_drop, List.length_take]; rfl)) ?_; (with_reducible refine (spec_l1Valuation.calls k a1 a2 t262 t263 _ A8.out).mono ?_); rintro e w' ⟨rfl, ⟨nd, rfl⟩⟩; refine ⟨_, rfl, ?_⟩) | ((with_reducible refine gate_callee (f := 73) rfl ?_); refine goesL_ (some 69) rfl rfl Try.func73 (by kernel_rfl) rfl #[.int .i64 (wrap64 ((wrap64 (t260 * t262)) * (wrap64 (Int.tdiv (wrap64 (a2 - 1)) 2))))] rfl (by (try simp only [List.map_toArray, List.map_cons, List.map_nil]); first | done | rfl | (simp only [List.length_drop, List.length_take]; rfl)) ?_; (with_reducible refine (spec_l3Half.calls (wrap64 ((wrap64 (t260 * t262)) * (wrap64 (Int.tdiv (wrap64 (a2 - 1)) 2)))) t267 _ A13.out).mono ?_); rintro e w' ⟨rfl, ⟨nd, rfl⟩⟩; refine ⟨_, rfl, ?_⟩) | ((with_reducible refine gate_callee (f := 110) rfl ?_); refine goesL_ (some 76) rfl rfl Try.func110 (by kernel_rfl) rfl #[.int .i64 t261, .int .i64 a2] rfl (by (try simp only [List.map_toArray, List.map_cons, List.map_nil]); first | done | rfl | (simp only [List.length_drop, List.length_take]; rfl)) ?_; (with_reducible refine (spec_l1Residue.calls k t261 a2 t268 _ A15.out).mono ?_); rintro e w' ⟨rfl, ⟨nd, rfl⟩⟩; refine ⟨_, rfl, ?_⟩) | ((with_reducible refine gate_callee (f := 110) rfl ?_); refine goesL_ (some 84) rfl rfl Try.func110 (by kernel_rfl) rfl #[.int .i64 t263, .int .i64 a2] rfl (by (try simp only [List.map_toArray, List.map_cons, List.map_nil]); first | done | rfl | (simp only [List.length_drop, List.length_take]; rfl)) ?_; (with_reducible refine (spec_l1Residue.calls k t263 a2 t269 _ A17.out).mono ?_); rintro e w' ⟨rfl, ⟨nd, rfl⟩⟩; refine ⟨_, rfl, ?_⟩))
          go_ret
          exact ⟨by first | rfl | (simp; done) | (simp [*]; done), by repeat (first | exact Drawn0.refl _ | apply Drawn0.step)⟩
        · rw [if_neg c16] at H
          have c16b0 : ((Int.tmod t260 2) == 1) = false := beq_eq_false_iff_ne.mpr c16
          have c16b1 : ((Int.tmod t260 2) != 1) = true := bne_iff_ne.mpr c16
          obtain rfl := Option.some.inj H
          go_enter Try.func75, Try.ntmps75
          go_wp2_with (first | ((with_reducible refine gate_callee (f := 108) rfl ?_); refine goesL_ (some 23) rfl rfl Try.func108 (by kernel_rfl) rfl #[.int .i64 a0, .int .i64 a2] rfl (by (try simp only [List.map_toArray, List.map_cons, List.map_nil]); first | done | rfl | (simp only [List.length_drop, List.length_take]; rfl)) ?_; (with_reducible refine (spec_l1Valuation.calls k a0 a2 t260 t261 _ A7.out).mono ?_); rintro e w' ⟨rfl, ⟨nd, rfl⟩⟩; refine ⟨_, rfl, ?_⟩) | ((with_reducible refine gate_callee (f := 108) rfl ?_); refine goesL_ (some 29) rfl rfl Try.func108 (by kernel_rfl) rfl #[.int .i64 a1, .int .i64 a2] rfl (by (try simp only [List.map_toArray, List.map_cons, List.map_nil]); first | done | rfl | (simp only [List.length_drop, List.length_take]; rfl)) ?_; (with_reducible refine (spec_l1Valuation.calls k a1 a2 t262 t263 _ A8.out).mono ?_); rintro e w' ⟨rfl, ⟨nd, rfl⟩⟩; refine ⟨_, rfl, ?_⟩) | ((with_reducible refine gate_callee (f := 73) rfl ?_); refine goesL_ (some 69) rfl rfl Try.func73 (by kernel_rfl) rfl #[.int .i64 (wrap64 ((wrap64 (t260 * t262)) * (wrap64 (Int.tdiv (wrap64 (a2 - 1)) 2))))] rfl (by (try simp only [List.map_toArray, List.map_cons, List.map_nil]); first | done | rfl | (simp only [List.length_drop, List.length_take]; rfl)) ?_; (with_reducible refine (spec_l3Half.calls (wrap64 ((wrap64 (t260 * t262)) * (wrap64 (Int.tdiv (wrap64 (a2 - 1)) 2)))) t267 _ A13.out).mono ?_); rintro e w' ⟨rfl, ⟨nd, rfl⟩⟩; refine ⟨_, rfl, ?_⟩) | ((with_reducible refine gate_callee (f := 110) rfl ?_); refine goesL_ (some 76) rfl rfl Try.func110 (by kernel_rfl) rfl #[.int .i64 t261, .int .i64 a2] rfl (by (try simp only [List.map_toArray, List.map_cons, List.map_nil]); first | done | rfl | (simp only [List.length_drop, List.length_take]; rfl)) ?_; (with_reducible refine (spec_l1Residue.calls k t261 a2 t268 _ A15.out).mono ?_); rintro e w' ⟨rfl, ⟨nd, rfl⟩⟩; refine ⟨_, rfl, ?_⟩))
          go_ret
          exact ⟨by first | rfl | (simp; done) | (simp [*]; done), by repeat (first | exact Drawn0.refl _ | apply Drawn0.step)⟩
      · rw [if_neg c14] at H
        have c14b0 : ((Int.tmod t262 2) == 1) = false := beq_eq_false_iff_ne.mpr c14
        have c14b1 : ((Int.tmod t262 2) != 1) = true := bne_iff_ne.mpr c14
        by_cases c18 : (Int.tmod t260 2) = 1
        · rw [if_pos c18] at H
          have c18b0 : ((Int.tmod t260 2) == 1) = true := beq_iff_eq.mpr c18
          have c18b1 : ((Int.tmod t260 2) != 1) = false := bne_eq_false_iff_eq.mpr c18
          clear c18
          replace H := Option.bind_eq_some_iff.mp H
          obtain ⟨t270, A190, H⟩ := H
          replace H : (some (wrap64 (t267 * t270))) = some r := H
          have A19 := Aside0.mk A190
          clear A190
          obtain rfl := Option.some.inj H
          go_enter Try.func75, Try.ntmps75
          go_wp2_with (first | ((with_reducible refine gate_callee (f := 108) rfl ?_); refine goesL_ (some 23) rfl rfl Try.func108 (by kernel_rfl) rfl #[.int .i64 a0, .int .i64 a2] rfl (by (try simp only [List.map_toArray, List.map_cons, List.map_nil]); first | done | rfl | (simp only [List.length_drop, List.length_take]; rfl)) ?_; (with_reducible refine (spec_l1Valuation.calls k a0 a2 t260 t261 _ A7.out).mono ?_); rintro e w' ⟨rfl, ⟨nd, rfl⟩⟩; refine ⟨_, rfl, ?_⟩) | ((with_reducible refine gate_callee (f := 108) rfl ?_); refine goesL_ (some 29) rfl rfl Try.func108 (by kernel_rfl) rfl #[.int .i64 a1, .int .i64 a2] rfl (by (try simp only [List.map_toArray, List.map_cons, List.map_nil]); first | done | rfl | (simp only [List.length_drop, List.length_take]; rfl)) ?_; (with_reducible refine (spec_l1Valuation.calls k a1 a2 t262 t263 _ A8.out).mono ?_); rintro e w' ⟨rfl, ⟨nd, rfl⟩⟩; refine ⟨_, rfl, ?_⟩) | ((with_reducible refine gate_callee (f := 73) rfl ?_); refine goesL_ (some 69) rfl rfl Try.func73 (by kernel_rfl) rfl #[.int .i64 (wrap64 ((wrap64 (t260 * t262)) * (wrap64 (Int.tdiv (wrap64 (a2 - 1)) 2))))] rfl (by (try simp only [List.map_toArray, List.map_cons, List.map_nil]); first | done | rfl | (simp only [List.length_drop, List.length_take]; rfl)) ?_; (with_reducible refine (spec_l3Half.calls (wrap64 ((wrap64 (t260 * t262)) * (wrap64 (Int.tdiv (wrap64 (a2 - 1)) 2)))) t267 _ A13.out).mono ?_); rintro e w' ⟨rfl, ⟨nd, rfl⟩⟩; refine ⟨_, rfl, ?_⟩) | ((with_reducible refine gate_callee (f := 110) rfl ?_); refine goesL_ (some 84) rfl rfl Try.func110 (by kernel_rfl) rfl #[.int .i64 t263, .int .i64 a2] rfl (by (try simp only [List.map_toArray, List.map_cons, List.map_nil]); first | done | rfl | (simp only [List.length_drop, List.length_take]; rfl)) ?_; (with_reducible refine (spec_l1Residue.calls k t263 a2 t270 _ A19.out).mono ?_); rintro e w' ⟨rfl, ⟨nd, rfl⟩⟩; refine ⟨_, rfl, ?_⟩))
          go_ret
          exact ⟨by first | rfl | (simp; done) | (simp [*]; done), by repeat (first | exact Drawn0.refl _ | apply Drawn0.step)⟩
        · rw [if_neg c18] at H
          have c18b0 : ((Int.tmod t260 2) == 1) = false := beq_eq_false_iff_ne.mpr c18
          have c18b1 : ((Int.tmod t260 2) != 1) = true := bne_iff_ne.mpr c18
          obtain rfl := Option.some.inj H
          go_enter Try.func75, Try.ntmps75
          go_wp2_with (first | ((with_reducible refine gate_callee (f := 108) rfl ?_); refine goesL_ (some 23) rfl rfl Try.func108 (by kernel_rfl) rfl #[.int .i64 a0, .int .i64 a2] rfl (by (try simp only [List.map_toArray, List.map_cons, List.map_nil]); first | done | rfl | (simp only [List.length_drop, List.length_take]; rfl)) ?_; (with_reducible refine (spec_l1Valuation.calls k a0 a2 t260 t261 _ A7.out).mono ?_); rintro e w' ⟨rfl, ⟨nd, rfl⟩⟩; refine ⟨_, rfl, ?_⟩) | ((with_reducible refine gate_callee (f := 108) rfl ?_); refine goesL_ (some 29) rfl rfl Try.func108 (by kernel_rfl) rfl #[.int .i64 a1, .int .i64 a2] rfl (by (try simp only [List.map_toArray, List.map_cons, List.map_nil]); first | done | rfl | (simp only [List.length_drop, List.length_take]; rfl)) ?_; (with_reducible refine (spec_l1Valuation.calls k a1 a2 t262 t263 _ A8.out).mono ?_); rintro e w' ⟨rfl, ⟨nd, rfl⟩⟩; refine ⟨_, rfl, ?_⟩) | ((with_reducible refine gate_callee (f := 73) rfl ?_); refine goesL_ (some 69) rfl rfl Try.func73 (by kernel_rfl) rfl #[.int .i64 (wrap64 ((wrap64 (t260 * t262)) * (wrap64 (Int.tdiv (wrap64 (a2 - 1)) 2))))] rfl (by (try simp only [List.map_toArray, List.map_cons, List.map_nil]); first | done | rfl | (simp only [List.length_drop, List.length_take]; rfl)) ?_; (with_reducible refine (spec_l3Half.calls (wrap64 ((wrap64 (t260 * t262)) * (wrap64 (Int.tdiv (wrap64 (a2 - 1)) 2)))) t267 _ A13.out).mono ?_); rintro e w' ⟨rfl, ⟨nd, rfl⟩⟩; refine ⟨_, rfl, ?_⟩))
          go_ret
          exact ⟨by first | rfl | (simp; done) | (simp [*]; done), by repeat (first | exact Drawn0.refl _ | apply Drawn0.step)⟩

/-! ### spec_SymbolPlaces: function 27 -/
def spec_SymbolPlaces.l0 : Nat → Int → Int → List Int → List Int → Int → Option (List Int)
  | 0, _, _, _, _, _ => none
  | k + 1, x0, x1, x5, x6, x7 => if x7 < (x6.length : Int) then (if 0 ≤ x7 then ((spec_l3Symbol.f k x0 x1 (rd x6 x7)).bind fun t279 => (if t279 = (-1) then (if x5.length < 17592186044416 then (spec_SymbolPlaces.l0 k x0 x1 (x5 ++ [rd x6 x7]) x6 (wrap64 (x7 + 1))) else (none)) else (spec_SymbolPlaces.l0 k x0 x1 x5 x6 (wrap64 (x7 + 1))))) else (none)) else (some x5)
def spec_SymbolPlaces.f (k : Nat) (a0 : Int) (a1 : Int) : Option (List Int) := (some (([] : List Int) : List Int)).bind fun y271 => ((spec_l3Ok.f a0 a1).bind fun t274 => (if t274 = true then ((spec_l2Places.f k (wrap64 (a0 * a1))).bind fun t275 => (spec_SymbolPlaces.l0 k a0 a1 y271 t275 0)) else (some y271)))
theorem spec_SymbolPlaces.mono_l : ∀ k, (∀ y0 y1 y2 y3 y4, LeO (spec_SymbolPlaces.l0 k y0 y1 y2 y3 y4) (spec_SymbolPlaces.l0 (k + 1) y0 y1 y2 y3 y4))
  | 0 => fun _ _ _ _ _ r h => by simp [spec_SymbolPlaces.l0] at h
  | k + 1 => by
    have ih0 := spec_SymbolPlaces.mono_l k
    · intro y0 y1 y2 y3 y4
      unfold spec_SymbolPlaces.l0
      repeat' first
      | (with_reducible exact ih0 _ _ _ _ _)
      | (with_reducible exact spec_l2Places.mono _ _)
      | (with_reducible exact spec_l3Symbol.mono _ _ _ _)
      | (with_reducible exact LeO.refl _)
      | (with_reducible exact LeO.none _)
      | (with_reducible refine LeO.ite ?_ ?_)
      | (with_reducible refine LeO.bind ?_ (fun _ => ?_))
      | exact ih0 _ _ _ _ _
      | exact spec_l2Places.mono _ _
      | exact spec_l3Symbol.mono _ _ _ _
      | exact LeO.none _
      | refine LeO.ite ?_ ?_
      | refine LeO.bind ?_ (fun _ => ?_)
theorem spec_SymbolPlaces.mono : ∀ a0 a1 k, LeO (spec_SymbolPlaces.f k a0 a1) (spec_SymbolPlaces.f (k + 1) a0 a1) := by
  intro a0 a1 k
  have ih0 := spec_SymbolPlaces.mono_l k
  unfold spec_SymbolPlaces.f
  repeat' first
      | (with_reducible exact ih0 _ _ _ _ _)
      | (with_reducible exact spec_l2Places.mono _ _)
      | (with_reducible exact spec_l3Symbol.mono _ _ _ _)
      | (with_reducible exact LeO.refl _)
      | (with_reducible exact LeO.none _)
      | (with_reducible refine LeO.ite ?_ ?_)
      | (with_reducible refine LeO.bind ?_ (fun _ => ?_))
      | exact ih0 _ _ _ _ _
      | exact spec_l2Places.mono _ _
      | exact spec_l3Symbol.mono _ _ _ _
      | exact LeO.none _
      | refine LeO.ite ?_ ?_
      | refine LeO.bind ?_ (fun _ => ?_)
set_option maxHeartbeats 8000000 in
set_option maxRecDepth 100000 in
theorem spec_SymbolPlaces.calls (k : Nat) (a0 : Int) (a1 : Int) (r : List Int) (w : World) (h : spec_SymbolPlaces.f k a0 a1 = some r) :
    Calls Try.prog 27 #[.int .i64 a0, .int .i64 a1] w fun e w' => ∃ v0_ : Value, e = .returned (v0_) ∧ Kd.R (Kd.int .i64) 3 w' w.heap.size (fun _ => True) v0_ r ∧ Below w.heap.size w w' := by
  have HB := Aside0.mk (Below.refl w.heap.size w)
  have H : ((some (([] : List Int) : List Int)).bind fun y271 => ((spec_l3Ok.f a0 a1).bind fun t274 => (if t274 = true then ((spec_l2Places.f k (wrap64 (a0 * a1))).bind fun t275 => (spec_SymbolPlaces.l0 k a0 a1 y271 t275 0)) else (some y271)))) = some r := h
  clear h
  obtain ⟨y271, hy271⟩ : ∃ y_ : List Int, y_ = (([] : List Int)) := ⟨_, rfl⟩
  replace H : ((spec_l3Ok.f a0 a1).bind fun t274 => (if t274 = true then ((spec_l2Places.f k (wrap64 (a0 * a1))).bind fun t275 => (spec_SymbolPlaces.l0 k a0 a1 y271 t275 0)) else (some y271))) = some r := by first | (rw [hy271]; with_reducible exact H) | (have H2_ := (Option.bind_some _ _).symm.trans H; rw [hy271]; with_reducible exact H2_) | (have H2_ := (Option.bind_some _ _).symm.trans H; with_reducible exact H2_) | with_reducible exact H | (rw [hy271]; exact H) | exact H
  have Ny271 := Aside0.mk hy271
  clear hy271
  replace H := Option.bind_eq_some_iff.mp H
  obtain ⟨t274, A30, H⟩ := H
  replace H : (if t274 = true then ((spec_l2Places.f k (wrap64 (a0 * a1))).bind fun t275 => (spec_SymbolPlaces.l0 k a0 a1 y271 t275 0)) else (some y271)) = some r := H
  have A3 := Aside0.mk A30
  clear A30
  by_cases c4 : t274 = true
  · subst c4
    have H1 : ((spec_l2Places.f k (wrap64 (a0 * a1))).bind fun t275 => (spec_SymbolPlaces.l0 k a0 a1 y271 t275 0)) = some r := by rw [if_pos rfl] at H; exact H
    clear H
    have H := H1
    clear H1
    replace H := Option.bind_eq_some_iff.mp H
    obtain ⟨t275, A50, H⟩ := H
    replace H : (spec_SymbolPlaces.l0 k a0 a1 y271 t275 0) = some r := H
    have A5 := Aside0.mk A50
    clear A50
    have H' := Aside0.mk H
    clear H
    go_enter Try.func27, Try.ntmps27
    go_wp2_with (first | ((with_reducible refine gate_dst (N := 8) rfl ?_); refine Kd.R_lit (Kd.int .i64) _ 3 ?hg (N := 8) ?hd (xs := ([] : List Int)) (inner := []) (ok := fun _ => True) (okp := fun _ => True) ?hr ?hp (fun _ hk => hk) trivial (Below.refl _ _) (Nat.le_refl _) (by simp) ?_; (case hd => rfl); (case hg => rfl); (case hr => first | (go_simp; done) | (go_simp; rfl)); (case hp => exact (Reps.none _ _)); intro v272 w6 ho7 hb hg_ hnew_; clear hg_ hnew_; (first | rw [← Ny271.out] at ho7 | (simp only [Int.reduceToNat] at ho7; rw [← Ny271.out] at ho7)); have n0_ := Aside0.mk (Kd.R_lower ho7 (below_size (by repeat (first | (with_reducible first | exact HB.out | apply below_alloc | apply pw_below_drewN | apply below_drew1) | exact HB.out)))); have n1_ := Aside0.mk (below_step (by repeat (first | (with_reducible first | exact HB.out | apply below_alloc | apply pw_below_drewN | apply below_drew1) | exact HB.out)) hb); clear HB; have HO273 := n0_; have HB := n1_; clear n0_ n1_; clear hb ho7) | ((with_reducible refine gate_callee (f := 69) rfl ?_); refine goesL_ (some 11) rfl rfl Try.func69 (by kernel_rfl) rfl #[.int .i64 a0, .int .i64 a1] rfl (by (try simp only [List.map_toArray, List.map_cons, List.map_nil]); first | done | rfl | (simp only [List.length_drop, List.length_take]; rfl)) ?_; (with_reducible refine (spec_l3Ok.calls a0 a1 true _ A3.out).mono ?_); rintro e w' ⟨rfl, ⟨nd, rfl⟩⟩; refine ⟨_, rfl, ?_⟩) | ((with_reducible refine gate_callee (f := 74) rfl ?_); refine goesL_ (some 17) rfl rfl Try.func74 (by kernel_rfl) rfl #[.int .i64 (wrap64 (a0 * a1))] rfl (by (try simp only [List.map_toArray, List.map_cons, List.map_nil]); first | done | rfl | (simp only [List.length_drop, List.length_take]; rfl)) ?_; (with_reducible refine (spec_l2Places.calls k (wrap64 (a0 * a1)) t275 _ A5.out).mono ?_); rintro e w8 ⟨v276, rfl, ho0, hb⟩; refine ⟨_, rfl, ?_⟩; have n0_ := Aside0.mk (Kd.R_elder' (by (with_reducible repeat (first | apply Kd.R_alloc | apply Kd.R_drewN | apply Kd.R_drew)); exact HO273.out) (Kd.R_base ho0) hb); have n1_ := Aside0.mk (Kd.R_lower (Kd.R_new' ho0 (Kd.R_lt (by (with_reducible repeat (first | apply Kd.R_alloc | apply Kd.R_drewN | apply Kd.R_drew)); exact HO273.out))) (below_size (by repeat (first | (with_reducible first | exact HB.out | apply below_alloc | apply pw_below_drewN | apply below_drew1) | exact HB.out)))); have n2_ := Aside0.mk (below_step (by repeat (first | (with_reducible first | exact HB.out | apply below_alloc | apply pw_below_drewN | apply below_drew1) | exact HB.out)) hb); clear HO273; clear HB; have HO273 := n0_; have HO277 := n1_; have HB := n2_; clear n0_ n1_ n2_; (try clear hb); (try clear hb2); (try clear hk); (try clear hi); (try clear ho0)))
    go_loopg [5, 7] k (fun kq v5 v7 w' => ∃ (x5_1 : List Int) (x7_1 : Int), v7 = .int .i64 x7_1 ∧ Aside0 (spec_SymbolPlaces.l0 kq a0 a1 x5_1 t275 x7_1 = some r) ∧ Aside0 (kq ≤ k) ∧ Aside0 (Kd.R (Kd.int .i64) 3 w' w.heap.size (fun k_ => some k_ ≠ (v276 : Value).ownBlock) v5 x5_1) ∧ Aside0 (Kd.R (Kd.int .i64) 3 w' w.heap.size (fun k_ => some k_ ≠ (v5 : Value).ownBlock) v276 t275) ∧ Aside0 (Below w.heap.size w w'))
    case atStart => exact ⟨(y271), (0), (by first | rfl | (simp; done) | (simp [*]; done)), H', ⟨Nat.le_refl _⟩, ⟨by (with_reducible repeat (first | apply Kd.R_alloc | apply Kd.R_drewN | apply Kd.R_drew)); exact Kd.R_mono HO273.out (fun _ hk => hk.2)⟩, ⟨by (with_reducible repeat (first | apply Kd.R_alloc | apply Kd.R_drewN | apply Kd.R_drew)); exact Kd.R_mono HO277.out (fun _ hk => hk.2)⟩, ⟨by repeat (first | (with_reducible first | exact HB.out | apply below_alloc | apply pw_below_drewN | apply below_drew1) | exact HB.out)⟩⟩
    case round =>
      clear H'
      try clear c2
      try clear p2
      try clear c4
      try clear c6
      try clear p6
      try clear c7
      obtain ⟨x5_1, x7_1, rfl, HA, HK1, HO_5, HO_6, HB⟩ := hrel
      cases gk with
      | zero => exact absurd HA.out (by simp [spec_SymbolPlaces.l0])
      | succ k1 =>
        have H := HA.out
        clear HA
        simp only [spec_SymbolPlaces.l0] at H
        by_cases c9 : x7_1 < (t275.length : Int)
        · rw [if_pos c9] at H
          have c9b0 : decide (x7_1 < (t275.length : Int)) = true := decide_eq_true c9
          clear c9
          by_cases c10 : 0 ≤ x7_1
          · rw [if_pos c10] at H
            have c10b0 : decide (0 ≤ x7_1) = true := decide_eq_true c10
            clear c10
            replace H := Option.bind_eq_some_iff.mp H
            obtain ⟨t279, A110, H⟩ := H
            replace H : (if t279 = (-1) then (if x5_1.length < 17592186044416 then (spec_SymbolPlaces.l0 k1 a0 a1 (x5_1 ++ [rd t275 x7_1]) t275 (wrap64 (x7_1 + 1))) else (none)) else (spec_SymbolPlaces.l0 k1 a0 a1 x5_1 t275 (wrap64 (x7_1 + 1)))) = some r := H
            have A11 := Aside0.mk A110
            clear A110
            by_cases c12 : t279 = (-1)
            · rw [if_pos c12] at H
              have c12b0 : (t279 == (-1)) = true := beq_iff_eq.mpr c12
              have c12b1 : (t279 != (-1)) = false := bne_eq_false_iff_eq.mpr c12
              clear c12
              by_cases c13 : x5_1.length < 17592186044416
              · rw [if_pos c13] at H
                have LMc13 := Aside0.mk c13
                clear c13
                obtain ⟨y281, hy281⟩ : ∃ y_ : List Int, y_ = (x5_1 ++ [rd t275 x7_1]) := ⟨_, rfl⟩
                replace H : (spec_SymbolPlaces.l0 k1 a0 a1 y281 t275 (wrap64 (x7_1 + 1))) = some r := by first | (rw [hy281]; with_reducible exact H) | (have H2_ := (Option.bind_some _ _).symm.trans H; rw [hy281]; with_reducible exact H2_) | (have H2_ := (Option.bind_some _ _).symm.trans H; with_reducible exact H2_) | with_reducible exact H | (rw [hy281]; exact H) | exact H
                have Ny281 := Aside0.mk hy281
                clear hy281
                have H' := Aside0.mk H
                clear H
                obtain ⟨Ao14, co14, eo14⟩ := Kd.R_slice HO_6.out
                subst eo14
                have p278 : 0 ≤ (x7_1 : Int) := of_decide_eq_true (by first | (with_reducible assumption) | assumption)
                have q278 : x7_1 < (t275.length : Int) := of_decide_eq_true (by first | (with_reducible assumption) | assumption)
                obtain ⟨ad278, e278, hx278_0⟩ := Kd.at_int (Kd.R_reads' HO_6.out).2.2 x7_1 p278 q278
                cases e278
                replace p278 := eq_true p278
                replace q278 := eq_true q278
                go_wp2_with (first | ((with_reducible refine gate_callee (f := 75) rfl ?_); refine goesL_ (some 30) rfl rfl Try.func75 (by kernel_rfl) rfl #[.int .i64 a0, .int .i64 a1, .int .i64 (rd t275 x7_1)] rfl (by (try simp only [List.map_toArray, List.map_cons, List.map_nil]); first | done | rfl | (simp only [List.length_drop, List.length_take]; rfl)) ?_; (with_reducible refine (spec_l3Symbol.calls k1 a0 a1 (rd t275 x7_1) t279 _ A11.out).mono ?_); rintro e w' ⟨rfl, ⟨nd, rfl⟩⟩; refine ⟨_, rfl, ?_⟩; have p280 : 0 ≤ (x7_1 : Int) := of_decide_eq_true (by first | (with_reducible assumption) | assumption); have q280 : x7_1 < (t275.length : Int) := of_decide_eq_true (by first | (with_reducible assumption) | assumption); obtain ⟨ad280, e280, hx280_0⟩ := Kd.at_int (Kd.R_reads' HO_6.out).2.2 x7_1 p280 q280; obtain rfl : ad278 = ad280 := (by injection e280); replace p280 := eq_true p280; replace q280 := eq_true q280) | ((with_reducible refine gate_builtin (b := .append) (xs := #[.tmp 32, .tmp 37]) rfl ?_); at_builtin; refine Kd.R_append (Kd.int .i64) (w0 := w) w.heap.size rfl (.tmp 32) (.tmp 37) 33 3 (.int .i64 0) 8 rfl Try.underlying33 info3 rfl (by decide) (by omega) u5 x5_1 (rd t275 x7_1) [.int .i64 (rd t275 x7_1)] (fun k_ => some k_ ≠ (.slice (some ad278) t275.length co14 : Value).ownBlock) (fun _ => False) rfl rfl ?aP (fun _ hk => hk.elim) ?aF ?aO ?aB ?aS ?aL ?_; (case aP => exact rfl); (case aB => exact (by repeat (first | (with_reducible first | exact HB.out | apply below_alloc | apply pw_below_drewN | apply below_drew1) | exact HB.out))); (case aF => exact (fun k_ hk => Kd.fresh' (Kd.R_lt (by (with_reducible repeat (first | apply Kd.R_alloc | apply Kd.R_drewN | apply Kd.R_drew)); exact HO_6.out)) k_ hk)); (case aO => exact (by (with_reducible repeat (first | apply Kd.R_alloc | apply Kd.R_drewN | apply Kd.R_drew)); exact HO_5.out)); (case aS => exact (below_size (by repeat (first | (with_reducible first | exact HB.out | apply below_alloc | apply pw_below_drewN | apply below_drew1) | exact HB.out)))); (case aL => have := LMc13.out; omega); intro v282 w15 ho hb hg hat; rw [← Ny281.out] at ho; have n0_ := Aside0.mk (Kd.R_after (ok := (fun _ => True)) (by (with_reducible repeat (first | apply Kd.R_alloc | apply Kd.R_drewN | apply Kd.R_drew)); exact Kd.R_mono HO_6.out (fun _ hk => ⟨trivial, hk⟩)) hg hat); have n1_ := Aside0.mk (hb); have n2_ := Aside0.mk (ho); clear HO_6; clear HB; clear HO_5; have HO_6 := n0_; have HB := n1_; have HO283 := n2_; clear n0_ n1_ n2_; clear ho hb hg hat))
                go_roundg k1
                case measure => have := HK1.out; omega
                case rel => exact ⟨(y281), (wrap64 (x7_1 + 1)), (by first | rfl | (simp; done) | (simp [*]; done)), H', ⟨by have := HK1.out; omega⟩, ⟨by (with_reducible repeat (first | apply Kd.R_alloc | apply Kd.R_drewN | apply Kd.R_drew)); exact HO283.out⟩, ⟨by (with_reducible repeat (first | apply Kd.R_alloc | apply Kd.R_drewN | apply Kd.R_drew)); exact Kd.R_mono HO_6.out (fun _ hk => hk.2)⟩, ⟨by repeat (first | (with_reducible first | exact HB.out | apply below_alloc | apply pw_below_drewN | apply below_drew1) | exact HB.out)⟩⟩
              · rw [if_neg c13] at H
                exact absurd H (by simp)
            · rw [if_neg c12] at H
              have c12b0 : (t279 == (-1)) = false := beq_eq_false_iff_ne.mpr c12
              have c12b1 : (t279 != (-1)) = true := bne_iff_ne.mpr c12
              have H' := Aside0.mk H
              clear H
              obtain ⟨Ao16, co16, eo16⟩ := Kd.R_slice HO_6.out
              subst eo16
              have p278 : 0 ≤ (x7_1 : Int) := of_decide_eq_true (by first | (with_reducible assumption) | assumption)
              have q278 : x7_1 < (t275.length : Int) := of_decide_eq_true (by first | (with_reducible assumption) | assumption)
              obtain ⟨ad278, e278, hx278_0⟩ := Kd.at_int (Kd.R_reads' HO_6.out).2.2 x7_1 p278 q278
              cases e278
              replace p278 := eq_true p278
              replace q278 := eq_true q278
              go_wp2_with (first | ((with_reducible refine gate_callee (f := 75) rfl ?_); refine goesL_ (some 30) rfl rfl Try.func75 (by kernel_rfl) rfl #[.int .i64 a0, .int .i64 a1, .int .i64 (rd t275 x7_1)] rfl (by (try simp only [List.map_toArray, List.map_cons, List.map_nil]); first | done | rfl | (simp only [List.length_drop, List.length_take]; rfl)) ?_; (with_reducible refine (spec_l3Symbol.calls k1 a0 a1 (rd t275 x7_1) t279 _ A11.out).mono ?_); rintro e w' ⟨rfl, ⟨nd, rfl⟩⟩; refine ⟨_, rfl, ?_⟩))
              go_roundg k1
              case measure => have := HK1.out; omega
              case rel => exact ⟨(x5_1), (wrap64 (x7_1 + 1)), (by first | rfl | (simp; done) | (simp [*]; done)), H', ⟨by have := HK1.out; omega⟩, ⟨by (with_reducible repeat (first | apply Kd.R_alloc | apply Kd.R_drewN | apply Kd.R_drew)); exact HO_5.out⟩, ⟨by (with_reducible repeat (first | apply Kd.R_alloc | apply Kd.R_drewN | apply Kd.R_drew)); exact HO_6.out⟩, ⟨by repeat (first | (with_reducible first | exact HB.out | apply below_alloc | apply pw_below_drewN | apply below_drew1) | exact HB.out)⟩⟩
          · rw [if_neg c10] at H
            exact absurd H (by simp)
        · rw [if_neg c9] at H
          have c9b0 : decide (x7_1 < (t275.length : Int)) = false := decide_eq_false c9
          clear c9
          obtain rfl := Option.some.inj H
          obtain ⟨Ao17, co17, eo17⟩ := Kd.R_slice HO_6.out
          subst eo17
          go_wp2
          go_ret
          exact ⟨_, by first | rfl | (simp [errW_none, errW_some] <;> rfl) | (simp [*, errW_none, errW_some] <;> rfl), by (with_reducible repeat (first | apply Kd.R_alloc | apply Kd.R_drewN | apply Kd.R_drew)); exact Kd.R_mono HO_5.out (fun _ hk => trivial), by repeat (first | (with_reducible first | exact HB.out | apply below_alloc | apply pw_below_drewN | apply below_drew1) | exact HB.out)⟩
  · replace c4 := Bool.eq_false_iff.mpr c4
    subst c4
    have H1 : (some y271) = some r := by rw [if_neg (show ¬ (false = true) by decide)] at H; exact H
    clear H
    have H := H1
    clear H1
    obtain rfl := Option.some.inj H
    go_enter Try.func27, Try.ntmps27
    go_wp2_with (first | ((with_reducible refine gate_dst (N := 8) rfl ?_); refine Kd.R_lit (Kd.int .i64) _ 3 ?hg (N := 8) ?hd (xs := ([] : List Int)) (inner := []) (ok := fun _ => True) (okp := fun _ => True) ?hr ?hp (fun _ hk => hk) trivial (Below.refl _ _) (Nat.le_refl _) (by simp) ?_; (case hd => rfl); (case hg => rfl); (case hr => first | (go_simp; done) | (go_simp; rfl)); (case hp => exact (Reps.none _ _)); intro v272 w18 ho19 hb hg_ hnew_; clear hg_ hnew_; (first | rw [← Ny271.out] at ho19 | (simp only [Int.reduceToNat] at ho19; rw [← Ny271.out] at ho19)); have n0_ := Aside0.mk (Kd.R_lower ho19 (below_size (by repeat (first | (with_reducible first | exact HB.out | apply below_alloc | apply pw_below_drewN | apply below_drew1) | exact HB.out)))); have n1_ := Aside0.mk (below_step (by repeat (first | (with_reducible first | exact HB.out | apply below_alloc | apply pw_below_drewN | apply below_drew1) | exact HB.out)) hb); clear HB; have HO273 := n0_; have HB := n1_; clear n0_ n1_; clear hb ho19) | ((with_reducible refine gate_callee (f := 69) rfl ?_); refine goesL_ (some 11) rfl rfl Try.func69 (by kernel_rfl) rfl #[.int .i64 a0, .int .i64 a1] rfl (by (try simp only [List.map_toArray, List.map_cons, List.map_nil]); first | done | rfl | (simp only [List.length_drop, List.length_take]; rfl)) ?_; (with_reducible refine (spec_l3Ok.calls a0 a1 false _ A3.out).mono ?_); rintro e w' ⟨rfl, ⟨nd, rfl⟩⟩; refine ⟨_, rfl, ?_⟩))
    go_ret
    exact ⟨_, by first | rfl | (simp [errW_none, errW_some] <;> rfl) | (simp [*, errW_none, errW_some] <;> rfl), by (with_reducible repeat (first | apply Kd.R_alloc | apply Kd.R_drewN | apply Kd.R_drew)); exact HO273.out, by repeat (first | (with_reducible first | exact HB.out | apply below_alloc | apply pw_below_drewN | apply below_drew1) | exact HB.out)⟩

/-! ### spec_SymbolSplit: function 23 -/
def spec_SymbolSplit.f (k : Nat) (a0 : Int) (a1 : Int) : Option (Bool) := (spec_l3Ok.f a0 a1).bind fun t284 => (if t284 = true then ((spec_SymbolPlaces.f k a0 a1).bind fun t285 => (some ((t285.length : Int) == 0))) else (some false))
theorem spec_SymbolSplit.mono : ∀ a0 a1 k, LeO (spec_SymbolSplit.f k a0 a1) (spec_SymbolSplit.f (k + 1) a0 a1) := by
  intro a0 a1 k
  unfold spec_SymbolSplit.f
  repeat' first
      | (with_reducible exact spec_SymbolPlaces.mono _ _ _)
      | (with_reducible exact LeO.refl _)
      | (with_reducible exact LeO.none _)
      | (with_reducible refine LeO.ite ?_ ?_)
      | (with_reducible refine LeO.bind ?_ (fun _ => ?_))
      | exact spec_SymbolPlaces.mono _ _ _
      | exact LeO.none _
      | refine LeO.ite ?_ ?_
      | refine LeO.bind ?_ (fun _ => ?_)
set_option maxHeartbeats 8000000 in
set_option maxRecDepth 100000 in
theorem spec_SymbolSplit.calls (k : Nat) (a0 : Int) (a1 : Int) (r : Bool) (w : World) (h : spec_SymbolSplit.f k a0 a1 = some r) :
    Calls Try.prog 23 #[.int .i64 a0, .int .i64 a1] w fun e w' => e = .returned (.bool r) ∧ Below w.heap.size w w' := by
  have HB := Aside0.mk (Below.refl w.heap.size w)
  have H : ((spec_l3Ok.f a0 a1).bind fun t284 => (if t284 = true then ((spec_SymbolPlaces.f k a0 a1).bind fun t285 => (some ((t285.length : Int) == 0))) else (some false))) = some r := h
  clear h
  replace H := Option.bind_eq_some_iff.mp H
  obtain ⟨t284, A30, H⟩ := H
  replace H : (if t284 = true then ((spec_SymbolPlaces.f k a0 a1).bind fun t285 => (some ((t285.length : Int) == 0))) else (some false)) = some r := H
  have A3 := Aside0.mk A30
  clear A30
  by_cases c4 : t284 = true
  · subst c4
    have H1 : ((spec_SymbolPlaces.f k a0 a1).bind fun t285 => (some ((t285.length : Int) == 0))) = some r := by rw [if_pos rfl] at H; exact H
    clear H
    have H := H1
    clear H1
    replace H := Option.bind_eq_some_iff.mp H
    obtain ⟨t285, A50, H⟩ := H
    replace H : (some ((t285.length : Int) == 0)) = some r := H
    have A5 := Aside0.mk A50
    clear A50
    obtain rfl := Option.some.inj H
    go_enter Try.func23, Try.ntmps23
    go_wp2_with (first | ((with_reducible refine gate_callee (f := 69) rfl ?_); refine goesL_ (some 7) rfl rfl Try.func69 (by kernel_rfl) rfl #[.int .i64 a0, .int .i64 a1] rfl (by (try simp only [List.map_toArray, List.map_cons, List.map_nil]); first | done | rfl | (simp only [List.length_drop, List.length_take]; rfl)) ?_; (with_reducible refine (spec_l3Ok.calls a0 a1 true _ A3.out).mono ?_); rintro e w' ⟨rfl, ⟨nd, rfl⟩⟩; refine ⟨_, rfl, ?_⟩) | (go_at_call 27; (with_reducible refine (spec_SymbolPlaces.calls k a0 a1 t285 _ A5.out).mono ?_); rintro e w6 ⟨v286, rfl, ho0, hb⟩; have n0_ := Aside0.mk (Kd.R_lower ho0 (below_size (by repeat (first | (with_reducible first | exact HB.out | apply below_alloc | apply pw_below_drewN | apply below_drew1) | exact HB.out)))); have n1_ := Aside0.mk (below_step (by repeat (first | (with_reducible first | exact HB.out | apply below_alloc | apply pw_below_drewN | apply below_drew1) | exact HB.out)) hb); clear HB; have HO287 := n0_; have HB := n1_; clear n0_ n1_; (try clear hb); (try clear hb2); (try clear hk); (try clear hi); (try clear ho0); obtain ⟨Ao7, co7, eo7⟩ := Kd.R_slice HO287.out; subst eo7))
    go_ret
    exact ⟨by first | rfl | (simp [errW_none, errW_some] <;> rfl) | (simp [*, errW_none, errW_some] <;> rfl), by repeat (first | (with_reducible first | exact HB.out | apply below_alloc | apply pw_below_drewN | apply below_drew1) | exact HB.out)⟩
  · replace c4 := Bool.eq_false_iff.mpr c4
    subst c4
    have H1 : (some false) = some r := by rw [if_neg (show ¬ (false = true) by decide)] at H; exact H
    clear H
    have H := H1
    clear H1
    obtain rfl := Option.some.inj H
    go_enter Try.func23, Try.ntmps23
    go_wp2_with (first | ((with_reducible refine gate_callee (f := 69) rfl ?_); refine goesL_ (some 7) rfl rfl Try.func69 (by kernel_rfl) rfl #[.int .i64 a0, .int .i64 a1] rfl (by (try simp only [List.map_toArray, List.map_cons, List.map_nil]); first | done | rfl | (simp only [List.length_drop, List.length_take]; rfl)) ?_; (with_reducible refine (spec_l3Ok.calls a0 a1 false _ A3.out).mono ?_); rintro e w' ⟨rfl, ⟨nd, rfl⟩⟩; refine ⟨_, rfl, ?_⟩))
    go_ret
    exact ⟨by first | rfl | (simp [errW_none, errW_some] <;> rfl) | (simp [*, errW_none, errW_some] <;> rfl), by repeat (first | (with_reducible first | exact HB.out | apply below_alloc | apply pw_below_drewN | apply below_drew1) | exact HB.out)⟩

/-! ### laws_sizeOf: function 24 -/
def laws_sizeOf.f (a0 : Int) : Option (Int) := some (mx a0 (wrap64 (-a0)))
set_option maxHeartbeats 8000000 in
set_option maxRecDepth 100000 in
theorem laws_sizeOf.calls (a0 : Int) (r : Int) (w : World) (h : laws_sizeOf.f a0 = some r) :
    Calls Try.prog 24 #[.int .i64 a0] w fun e w' => e = .returned (.int .i64 r) ∧ Below w.heap.size w w' := by
  have HB := Aside0.mk (Below.refl w.heap.size w)
  have H : (some (mx a0 (wrap64 (-a0)))) = some r := h
  clear h
  obtain ⟨ji2, hji2⟩ : ∃ j_ : Int, (mx a0 (wrap64 (-a0))) = j_ := ⟨_, rfl⟩
  replace H : (some ji2) = some r := by first | (rw [hji2] at H; exact H) | (simp only [hji2] at H ⊢; exact H)
  have hji2_ : (if a0 < (wrap64 (-a0)) then (wrap64 (-a0)) else a0) = ji2 := hji2
  obtain rfl := Option.some.inj H
  go_enter Try.func24, Try.ntmps24
  go_wp2
  go_ret
  exact ⟨by first | rfl | (simp [errW_none, errW_some] <;> rfl) | (simp only [← hji2]; first | rfl | (simp [errW_none, errW_some] <;> rfl)) | (simp [*, errW_none, errW_some] <;> rfl), by repeat (first | (with_reducible first | exact HB.out | apply below_alloc | apply pw_below_drewN | apply below_drew1) | exact HB.out)⟩

end Go.Proofs.Ytcboggdombllcaa.PFnSplit

-- Written by a program of this repo (wip/gen/gen.py) over the kit's print.
-- (slim)
import Derived.Test.YtdeahlommlgceaaPFnNormalx0
import Derived.Test.YtdeahlommlgceaaPFnNormalx3
import Derived.Test.YtdeahlommlgceaaPFnNormalx7
import Derived.Test.YtdeahlommlgceaaPFnNormalx9
namespace Go.Proofs.Ytdeahlommlgceaa.PFnNormal
open Go.RowKit Go.Proofs.YtdeahlommlgceaaW.PrintWords Go.Proofs.YtdeahlommlgceaaW.PrintLast Go.Proofs.YtdeahlommlgceaaW.PrintMore
attribute [local go_sem] max2_int min2_int max_two min_two max_three min_three max_four min_four   -- for this text's walks alone
set_option linter.unusedVariables false
set_option maxHeartbeats 8000000
set_option maxRecDepth 100000
set_option linter.unusedSimpArgs false

/-! ### impl_localSquare: function 86 -/
def impl_localSquare.f (k : Nat) (a0 : Int) (a1 : Int) : Option (Bool) := if a1 = 0 then (some (decide (a0 > 0))) else ((impl_split.f k a0 a1).bind fun bt388 => (if (Int.tmod bt388.1 2) = 0 then (if a1 = 2 then ((impl_rest.f bt388.2 8).bind fun t390 => (some (t390 == 1))) else ((impl_residue.f k bt388.2 a1).bind fun t391 => (some (t391 == 1)))) else (some false)))
theorem impl_localSquare.mono : ∀ a0 a1 k, LeO (impl_localSquare.f k a0 a1) (impl_localSquare.f (k + 1) a0 a1) := by
 intro a0 a1 k
 unfold impl_localSquare.f
 exact mo_
theorem impl_localSquare.calls (k : Nat) (a0 : Int) (a1 : Int) (r : Bool) (w : World) (h : impl_localSquare.f k a0 a1 = some r) :
 Calls Try.prog 86 #[.int .i64 a0, .int .i64 a1] w fun e w' => e = .returned (.bool r) ∧ Drawn0 w w' := by
 have H := h
 clear h
 unfold impl_localSquare.f at H
 by_cases c3 : a1 = 0
 · rw [if_pos c3] at H
   have c3b0 := beq_iff_eq.mpr c3
   have c3b1 := bne_eq_false_iff_eq.mpr c3
   clear c3
   obtain rfl := Option.some.inj H
   go_enter Try.func86, Try.ntmps86
   go_wp2
   go_ret
   exact ⟨z32_, z30_⟩
 rw [if_neg c3] at H
 have c3b0 := beq_eq_false_iff_ne.mpr c3
 have c3b1 := bne_iff_ne.mpr c3
 obtain ⟨⟨t388, t389⟩, A4, H⟩ := bi_ H
 try dsimp only at H
 by_cases c5 : (Int.tmod t388 2) = 0
 rotate_left
 · rw [if_neg c5] at H
   have c5b0 := beq_eq_false_iff_ne.mpr c5
   have c5b1 := bne_iff_ne.mpr c5
   obtain rfl := Option.some.inj H
   go_enter Try.func86, Try.ntmps86
   go_wp2_with (first | ((with_reducible refine gate_callee (f := 118) rfl ?_); refine goesL_ (some 14) rfl rfl Try.func118 (by kernel_rfl) rfl #[.int .i64 a0, .int .i64 a1] rfl z14_ ?_; (with_reducible refine (impl_split.calls k a0 a1 t388 t389 _ A4.out).mono ?_); rintro e w' ⟨rfl, ⟨nd, rfl⟩⟩; refine ⟨_, rfl, ?_⟩))
   go_ret
   exact ⟨z32_, z30_⟩
 rw [if_pos c5] at H
 have c5b0 := beq_iff_eq.mpr c5
 have c5b1 := bne_eq_false_iff_eq.mpr c5
 clear c5
 by_cases c6 : a1 = 2
 · rw [if_pos c6] at H
   have c6b0 := beq_iff_eq.mpr c6
   have c6b1 := bne_eq_false_iff_eq.mpr c6
   clear c6
   obtain ⟨t390, A7, H⟩ := bi_ H
   obtain rfl := Option.some.inj H
   go_enter Try.func86, Try.ntmps86
   go_wp2_with (first | ((with_reducible refine gate_callee (f := 118) rfl ?_); refine goesL_ (some 14) rfl rfl Try.func118 (by kernel_rfl) rfl #[.int .i64 a0, .int .i64 a1] rfl z14_ ?_; (with_reducible refine (impl_split.calls k a0 a1 t388 t389 _ A4.out).mono ?_); rintro e w' ⟨rfl, ⟨nd, rfl⟩⟩; refine ⟨_, rfl, ?_⟩) | ((with_reducible refine gate_callee (f := 119) rfl ?_); refine goesL_ (some 23) rfl rfl Try.func119 (by kernel_rfl) rfl #[.int .i64 t389, .int .i64 8] rfl z14_ ?_; (with_reducible refine (impl_rest.calls t389 8 t390 _ A7.out).mono ?_); rintro e w' ⟨rfl, ⟨nd, rfl⟩⟩; refine ⟨_, rfl, ?_⟩))
   go_ret
   exact ⟨z32_, z30_⟩
 rw [if_neg c6] at H
 have c6b0 := beq_eq_false_iff_ne.mpr c6
 have c6b1 := bne_iff_ne.mpr c6
 obtain ⟨t391, A8, H⟩ := bi_ H
 obtain rfl := Option.some.inj H
 go_enter Try.func86, Try.ntmps86
 go_wp2_with (first | ((with_reducible refine gate_callee (f := 118) rfl ?_); refine goesL_ (some 14) rfl rfl Try.func118 (by kernel_rfl) rfl #[.int .i64 a0, .int .i64 a1] rfl z14_ ?_; (with_reducible refine (impl_split.calls k a0 a1 t388 t389 _ A4.out).mono ?_); rintro e w' ⟨rfl, ⟨nd, rfl⟩⟩; refine ⟨_, rfl, ?_⟩) | ((with_reducible refine gate_callee (f := 120) rfl ?_); refine goesL_ (some 27) rfl rfl Try.func120 (by kernel_rfl) rfl #[.int .i64 t389, .int .i64 a1] rfl z14_ ?_; (with_reducible refine (impl_residue.calls k t389 a1 t391 _ A8.out).mono ?_); rintro e w' ⟨rfl, ⟨nd, rfl⟩⟩; refine ⟨_, rfl, ?_⟩))
 go_ret
 exact ⟨z32_, z30_⟩

/-! ### impl_power: function 91 -/
def impl_power.l0 : Nat → Int → Int → Int → Int → Option (Int)
 | 0, _, _, _, _ => none
 | k + 1, x0, x5, x6, x7 => if x7 < x6 then (impl_power.l0 k x0 (wrap64 (x5 * x0)) x6 (wrap64 (x7 + 1))) else (some x5)
def impl_power.f (k : Nat) (a0 : Int) (a1 : Int) : Option (Int) := impl_power.l0 k a0 1 a1 0
theorem impl_power.mono_l : ∀ k, (∀ y0 y1 y2 y3, LeO (impl_power.l0 k y0 y1 y2 y3) (impl_power.l0 (k + 1) y0 y1 y2 y3))
 | 0 => fun _ _ _ _ r h => by simp [impl_power.l0] at h
 | k + 1 => by
  have ih0 := impl_power.mono_l k
  intro y0 y1 y2 y3
  unfold impl_power.l0
  exact mo_
theorem impl_power.mono : ∀ a0 a1 k, LeO (impl_power.f k a0 a1) (impl_power.f (k + 1) a0 a1) := by
 intro a0 a1 k
 have ih0 := impl_power.mono_l k
 unfold impl_power.f
 exact mo_
theorem impl_power.calls (k : Nat) (a0 : Int) (a1 : Int) (r : Int) (w : World) (h : impl_power.f k a0 a1 = some r) :
 Calls Try.prog 91 #[.int .i64 a0, .int .i64 a1] w fun e w' => e = .returned (.int .i64 r) ∧ Drawn0 w w' := by
 have H := h
 clear h
 unfold impl_power.f at H
 have H' := Aside0.mk H
 clear H
 go_enter Try.func91, Try.ntmps91
 go_wp2
 go_loopg [5, 7] k (fun kq v5 v7 w' => ∃ (x5_1 : Int) (x7_1 : Int), v5 = .int .i64 x5_1 ∧ v7 = .int .i64 x7_1 ∧ Aside0 (impl_power.l0 kq a0 x5_1 a1 x7_1 = some r) ∧ Aside0 (kq ≤ k) ∧ Drawn0 w w')
 case atStart => exact ⟨(1), (0), z32_, z32_, H', ⟨Nat.le_refl _⟩, z30_⟩
 case round =>
  clear H'
  obtain ⟨x5_1, x7_1, rfl, rfl, HA, HK1, ⟨m1, rfl⟩⟩ := hrel
  cases gk with
  | zero => exact absurd HA.out (by simp [impl_power.l0])
  | succ k1 =>
   have H := HA.out
   clear HA
   simp only [impl_power.l0] at H
   by_cases c3 : x7_1 < a1
   · rw [if_pos c3] at H
     have c3b0 := decide_eq_true c3
     clear c3
     have H' := Aside0.mk H
     clear H
     go_wp2
     go_roundg k1
     case measure => have := HK1.out; omega
     case rel => exact ⟨(wrap64 (x5_1 * a0)), (wrap64 (x7_1 + 1)), z32_, z32_, H', ⟨by have := HK1.out; omega⟩, z30_⟩
   rw [if_neg c3] at H
   have c3b0 := decide_eq_false c3
   clear c3
   obtain rfl := Option.some.inj H
   go_wp2
   go_ret
   exact ⟨z32_, z30_⟩

/-! ### impl_symbol: function 101 -/
def impl_symbol.f (k : Nat) (a0 : Int) (a1 : Int) (a2 : Int) : Option (Int) := if a2 = 0 then (if a0 < 0 then (if a1 < 0 then (some (-1)) else (some 1)) else (some 1)) else ((impl_split.f k a0 a2).bind fun bt392 => ((impl_split.f k a1 a2).bind fun bt394 => (if a2 = 2 then ((impl_rest.f bt392.2 8).bind fun t396 => ((impl_rest.f bt394.2 8).bind fun t397 => ((impl_power.f k (-1) (Int.tmod (wrap64 ((wrap64 ((wrap64 ((wrap64 (Int.tdiv (wrap64 (t396 - 1)) 2)) * (wrap64 (Int.tdiv (wrap64 (t397 - 1)) 2)))) + (wrap64 (Int.tdiv (wrap64 (bt392.1 * (wrap64 ((wrap64 (t397 * t397)) - 1)))) 8)))) + (wrap64 (Int.tdiv (wrap64 (bt394.1 * (wrap64 ((wrap64 (t396 * t396)) - 1)))) 8)))) 2)).bind fun t398 => (some t398)))) else ((impl_power.f k (-1) (Int.tmod (wrap64 (Int.tdiv (wrap64 ((wrap64 (bt392.1 * bt394.1)) * (wrap64 (a2 - 1)))) 2)) 2)).bind fun t399 => ((impl_residue.f k bt392.2 a2).bind fun t400 => ((impl_power.f k t400 (Int.tmod bt394.1 2)).bind fun t401 => ((impl_residue.f k bt394.2 a2).bind fun t402 => ((impl_power.f k t402 (Int.tmod bt392.1 2)).bind fun t403 => (some (wrap64 ((wrap64 (t399 * t401)) * t403)))))))))))
theorem impl_symbol.mono : ∀ a0 a1 a2 k, LeO (impl_symbol.f k a0 a1 a2) (impl_symbol.f (k + 1) a0 a1 a2) := by
 intro a0 a1 a2 k
 unfold impl_symbol.f
 exact mo_
theorem impl_symbol.calls (k : Nat) (a0 : Int) (a1 : Int) (a2 : Int) (r : Int) (w : World) (h : impl_symbol.f k a0 a1 a2 = some r) :
 Calls Try.prog 101 #[.int .i64 a0, .int .i64 a1, .int .i64 a2] w fun e w' => e = .returned (.int .i64 r) ∧ Drawn0 w w' := by
 have H := h
 clear h
 unfold impl_symbol.f at H
 by_cases c4 : a2 = 0
 · rw [if_pos c4] at H
   have c4b0 := beq_iff_eq.mpr c4
   have c4b1 := bne_eq_false_iff_eq.mpr c4
   clear c4
   by_cases c5 : a0 < 0
   rotate_left
   · rw [if_neg c5] at H
     have c5b0 := decide_eq_false c5
     clear c5
     obtain rfl := Option.some.inj H
     go_enter Try.func101, Try.ntmps101
     go_wp2
     go_ret
     exact ⟨z32_, z30_⟩
   rw [if_pos c5] at H
   have c5b0 := decide_eq_true c5
   clear c5
   by_cases c6 : a1 < 0
   · rw [if_pos c6] at H
     have c6b0 := decide_eq_true c6
     clear c6
     obtain rfl := Option.some.inj H
     go_enter Try.func101, Try.ntmps101
     go_wp2
     go_ret
     exact ⟨z32_, z30_⟩
   rw [if_neg c6] at H
   have c6b0 := decide_eq_false c6
   clear c6
   obtain rfl := Option.some.inj H
   go_enter Try.func101, Try.ntmps101
   go_wp2
   go_ret
   exact ⟨z32_, z30_⟩
 rw [if_neg c4] at H
 have c4b0 := beq_eq_false_iff_ne.mpr c4
 have c4b1 := bne_iff_ne.mpr c4
 obtain ⟨⟨t392, t393⟩, A7, H⟩ := bi_ H
 try dsimp only at H
 obtain ⟨⟨t394, t395⟩, A8, H⟩ := bi_ H
 try dsimp only at H
 by_cases c9 : a2 = 2
 · rw [if_pos c9] at H
   have c9b0 := beq_iff_eq.mpr c9
   have c9b1 := bne_eq_false_iff_eq.mpr c9
   clear c9
   obtain ⟨t396, A10, H⟩ := bi_ H
   obtain ⟨t397, A11, H⟩ := bi_ H
   obtain ⟨t398, A12, H⟩ := bi_ H
   obtain rfl := Option.some.inj H
   go_enter Try.func101, Try.ntmps101
   go_wp2_with (first | ((with_reducible refine gate_callee (f := 118) rfl ?_); refine goesL_ (some 24) rfl rfl Try.func118 (by kernel_rfl) rfl #[.int .i64 a0, .int .i64 a2] rfl z14_ ?_; (with_reducible refine (impl_split.calls k a0 a2 t392 t393 _ A7.out).mono ?_); rintro e w' ⟨rfl, ⟨nd, rfl⟩⟩; refine ⟨_, rfl, ?_⟩) | ((with_reducible refine gate_callee (f := 118) rfl ?_); refine goesL_ (some 30) rfl rfl Try.func118 (by kernel_rfl) rfl #[.int .i64 a1, .int .i64 a2] rfl z14_ ?_; (with_reducible refine (impl_split.calls k a1 a2 t394 t395 _ A8.out).mono ?_); rintro e w' ⟨rfl, ⟨nd, rfl⟩⟩; refine ⟨_, rfl, ?_⟩) | ((with_reducible refine gate_callee (f := 119) rfl ?_); refine goesL_ (some 59) rfl rfl Try.func119 (by kernel_rfl) rfl #[.int .i64 t393, .int .i64 8] rfl z14_ ?_; (with_reducible refine (impl_rest.calls t393 8 t396 _ A10.out).mono ?_); rintro e w' ⟨rfl, ⟨nd, rfl⟩⟩; refine ⟨_, rfl, ?_⟩) | ((with_reducible refine gate_callee (f := 119) rfl ?_); refine goesL_ (some 61) rfl rfl Try.func119 (by kernel_rfl) rfl #[.int .i64 t395, .int .i64 8] rfl z14_ ?_; (with_reducible refine (impl_rest.calls t395 8 t397 _ A11.out).mono ?_); rintro e w' ⟨rfl, ⟨nd, rfl⟩⟩; refine ⟨_, rfl, ?_⟩) | ((with_reducible refine gate_callee (f := 91) rfl ?_); refine goesL_ (some 86) rfl rfl Try.func91 (by kernel_rfl) rfl #[.int .i64 (-1), .int .i64 (Int.tmod (wrap64 ((wrap64 ((wrap64 ((wrap64 (Int.tdiv (wrap64 (t396 - 1)) 2)) * (wrap64 (Int.tdiv (wrap64 (t397 - 1)) 2)))) + (wrap64 (Int.tdiv (wrap64 (t392 * (wrap64 ((wrap64 (t397 * t397)) - 1)))) 8)))) + (wrap64 (Int.tdiv (wrap64 (t394 * (wrap64 ((wrap64 (t396 * t396)) - 1)))) 8)))) 2)] rfl z14_ ?_; (with_reducible refine (impl_power.calls k (-1) (Int.tmod (wrap64 ((wrap64 ((wrap64 ((wrap64 (Int.tdiv (wrap64 (t396 - 1)) 2)) * (wrap64 (Int.tdiv (wrap64 (t397 - 1)) 2)))) + (wrap64 (Int.tdiv (wrap64 (t392 * (wrap64 ((wrap64 (t397 * t397)) - 1)))) 8)))) + (wrap64 (Int.tdiv (wrap64 (t394 * (wrap64 ((wrap64 (t396 * t396)) - 1)))) 8)))) 2) t398 _ A12.out).mono ?_); rintro e w' ⟨rfl, ⟨nd, rfl⟩⟩; refine ⟨_, rfl, ?_⟩))
   go_ret
   exact ⟨z32_, z30_⟩
 rw [if_neg c9] at H
 have c9b0 := beq_eq_false_iff_ne.mpr c9
 have c9b1 := bne_iff_ne.mpr c9
 obtain ⟨t399, A13, H⟩ := bi_ H
 obtain ⟨t400, A14, H⟩ := bi_ H
 obtain ⟨t401, A15, H⟩ := bi_ H
 obtain ⟨t402, A16, H⟩ := bi_ H
 obtain ⟨t403, A17, H⟩ := bi_ H
 obtain rfl := Option.some.inj H
 go_enter Try.func101, Try.ntmps101
 go_wp2_with (first | ((with_reducible refine gate_callee (f := 118) rfl ?_); refine goesL_ (some 24) rfl rfl Try.func118 (by kernel_rfl) rfl #[.int .i64 a0, .int .i64 a2] rfl z14_ ?_; (with_reducible refine (impl_split.calls k a0 a2 t392 t393 _ A7.out).mono ?_); rintro e w' ⟨rfl, ⟨nd, rfl⟩⟩; refine ⟨_, rfl, ?_⟩) | ((with_reducible refine gate_callee (f := 118) rfl ?_); refine goesL_ (some 30) rfl rfl Try.func118 (by kernel_rfl) rfl #[.int .i64 a1, .int .i64 a2] rfl z14_ ?_; (with_reducible refine (impl_split.calls k a1 a2 t394 t395 _ A8.out).mono ?_); rintro e w' ⟨rfl, ⟨nd, rfl⟩⟩; refine ⟨_, rfl, ?_⟩) | ((with_reducible refine gate_callee (f := 91) rfl ?_); refine goesL_ (some 43) rfl rfl Try.func91 (by kernel_rfl) rfl #[.int .i64 (-1), .int .i64 (Int.tmod (wrap64 (Int.tdiv (wrap64 ((wrap64 (t392 * t394)) * (wrap64 (a2 - 1)))) 2)) 2)] rfl z14_ ?_; (with_reducible refine (impl_power.calls k (-1) (Int.tmod (wrap64 (Int.tdiv (wrap64 ((wrap64 (t392 * t394)) * (wrap64 (a2 - 1)))) 2)) 2) t399 _ A13.out).mono ?_); rintro e w' ⟨rfl, ⟨nd, rfl⟩⟩; refine ⟨_, rfl, ?_⟩) | ((with_reducible refine gate_callee (f := 120) rfl ?_); refine goesL_ (some 46) rfl rfl Try.func120 (by kernel_rfl) rfl #[.int .i64 t393, .int .i64 a2] rfl z14_ ?_; (with_reducible refine (impl_residue.calls k t393 a2 t400 _ A14.out).mono ?_); rintro e w' ⟨rfl, ⟨nd, rfl⟩⟩; refine ⟨_, rfl, ?_⟩) | ((with_reducible refine gate_callee (f := 91) rfl ?_); refine goesL_ (some 49) rfl rfl Try.func91 (by kernel_rfl) rfl #[.int .i64 t400, .int .i64 (Int.tmod t394 2)] rfl z14_ ?_; (with_reducible refine (impl_power.calls k t400 (Int.tmod t394 2) t401 _ A15.out).mono ?_); rintro e w' ⟨rfl, ⟨nd, rfl⟩⟩; refine ⟨_, rfl, ?_⟩) | ((with_reducible refine gate_callee (f := 120) rfl ?_); refine goesL_ (some 53) rfl rfl Try.func120 (by kernel_rfl) rfl #[.int .i64 t395, .int .i64 a2] rfl z14_ ?_; (with_reducible refine (impl_residue.calls k t395 a2 t402 _ A16.out).mono ?_); rintro e w' ⟨rfl, ⟨nd, rfl⟩⟩; refine ⟨_, rfl, ?_⟩) | ((with_reducible refine gate_callee (f := 91) rfl ?_); refine goesL_ (some 56) rfl rfl Try.func91 (by kernel_rfl) rfl #[.int .i64 t402, .int .i64 (Int.tmod t392 2)] rfl z14_ ?_; (with_reducible refine (impl_power.calls k t402 (Int.tmod t392 2) t403 _ A17.out).mono ?_); rintro e w' ⟨rfl, ⟨nd, rfl⟩⟩; refine ⟨_, rfl, ?_⟩))
 go_ret
 exact ⟨z32_, z30_⟩

/-! ### impl_invariant: function 98 -/
mutual
def impl_invariant.l0 : Nat → List Int → Int → Int → List Int → Int → Int → Option (Int)
 | 0, _, _, _, _, _, _ => none
 | k + 1, x0, x1, x5, x10, x11, x12 => if x12 < x11 then (if 0 ≤ x12 then (if x12 < (x10.length : Int) then (if x12 ≤ (x0.length : Int) then (impl_invariant.l1 k x0 x1 x5 (rd x10 x12) x10 x11 x12 (x0.take (x12 : Int).toNat) ((x0.take (x12 : Int).toNat).length : Int) 0) else (none)) else (none)) else (none)) else (some x5)
def impl_invariant.l1 : Nat → List Int → Int → Int → Int → List Int → Int → Int → List Int → Int → Int → Option (Int)
 | 0, _, _, _, _, _, _, _, _, _, _ => none
 | k + 1, x0, x1, x5, x7, x10, x11, x12, x19, x20, x21 => if x21 < x20 then (if 0 ≤ x21 then (if x21 < (x19.length : Int) then ((impl_symbol.f k x7 (rd x19 x21) x1).bind fun t407 => (impl_invariant.l1 k x0 x1 (wrap64 (x5 * t407)) x7 x10 x11 x12 x19 x20 (wrap64 (x21 + 1)))) else (none)) else (none)) else (impl_invariant.l0 k x0 x1 x5 x10 x11 (wrap64 (x12 + 1)))
end
def impl_invariant.f (k : Nat) (l0 : List Int) (a1 : Int) : Option (Int) := impl_invariant.l0 k l0 a1 1 l0 (l0.length : Int) 0
theorem impl_invariant.mono_l : ∀ k, (∀ y0 y1 y2 y3 y4 y5, LeO (impl_invariant.l0 k y0 y1 y2 y3 y4 y5) (impl_invariant.l0 (k + 1) y0 y1 y2 y3 y4 y5)) ∧ (∀ y0 y1 y2 y3 y4 y5 y6 y7 y8 y9, LeO (impl_invariant.l1 k y0 y1 y2 y3 y4 y5 y6 y7 y8 y9) (impl_invariant.l1 (k + 1) y0 y1 y2 y3 y4 y5 y6 y7 y8 y9))
 | 0 => ⟨fun _ _ _ _ _ _ r h => by simp [impl_invariant.l0] at h, fun _ _ _ _ _ _ _ _ _ _ r h => by simp [impl_invariant.l1] at h⟩
 | k + 1 => by
  obtain ⟨ih0, ih1⟩ := impl_invariant.mono_l k
  refine ⟨?_, ?_⟩
  · intro y0 y1 y2 y3 y4 y5
    unfold impl_invariant.l0
    exact mo_
  intro y0 y1 y2 y3 y4 y5 y6 y7 y8 y9
  unfold impl_invariant.l1
  exact mo_
theorem impl_invariant.mono : ∀ a0 a1 k, LeO (impl_invariant.f k a0 a1) (impl_invariant.f (k + 1) a0 a1) := by
 intro a0 a1 k
 obtain ⟨ih0, ih1⟩ := impl_invariant.mono_l k
 unfold impl_invariant.f
 exact mo_
theorem impl_invariant.calls (k : Nat) (A0 : Option Addr) (c0 : Nat) (l0 : List Int) (a1 : Int) (r : Int) (w : World) (hr0 : Kd.C (Kd.int .i64) w A0 l0.length l0) (hc0 : l0.length ≤ c0) (h : impl_invariant.f k l0 a1 = some r) :
 Calls Try.prog 98 #[.slice A0 l0.length c0, .int .i64 a1] w fun e w' => e = .returned (.int .i64 r) ∧ Drawn0 w w' := by
 have HR0 := Aside0.mk hr0
 have HC0 := Aside0.mk hc0
 clear hr0 hc0
 have H := h
 clear h
 unfold impl_invariant.f at H
 have H' := Aside0.mk H
 clear H
 go_enter Try.func98, Try.ntmps98
 go_wp2
 go_loopg [5, 12] k (fun kq v5 v12 w' => ∃ (x5_1 : Int) (x12_1 : Int), v5 = .int .i64 x5_1 ∧ v12 = .int .i64 x12_1 ∧ Aside0 (impl_invariant.l0 kq l0 a1 x5_1 l0 (l0.length : Int) x12_1 = some r) ∧ Aside0 (kq ≤ k) ∧ Drawn0 w w')
 case atStart => exact ⟨(1), (0), z32_, z32_, H', ⟨Nat.le_refl _⟩, z30_⟩
 case round =>
  clear H'
  obtain ⟨x5_1, x12_1, rfl, rfl, HA, HK1, ⟨m1, rfl⟩⟩ := hrel
  cases gk with
  | zero => exact absurd HA.out (by simp [impl_invariant.l0])
  | succ k1 =>
   have H := HA.out
   clear HA
   simp only [impl_invariant.l0] at H
   by_cases c3 : x12_1 < (l0.length : Int)
   rotate_left
   · rw [if_neg c3] at H
     have c3b0 := decide_eq_false c3
     clear c3
     obtain rfl := Option.some.inj H
     go_wp2
     go_ret
     exact ⟨z32_, z30_⟩
   rw [if_pos c3] at H
   have c3b0 := decide_eq_true c3
   clear c3
   obtain ⟨c4, H⟩ := in_ H
   have c4b0 := decide_eq_true c4
   clear c4
   obtain ⟨c5, H⟩ := in_ H
   have c5b0 := decide_eq_true c5
   clear c5
   have c6b0 := eq_true (of_decide_eq_true z31_ : 0 ≤ x12_1)
   obtain ⟨c7, H⟩ := in_ H
   have c7b0 := eq_true c7
   have c7b1 := decide_eq_true c7
   clear c7
   have H' := Aside0.mk H
   clear H
   have p404 : 0 ≤ (x12_1 : Int) := of_decide_eq_true z31_
   have q404 : x12_1 < (l0.length : Int) := of_decide_eq_true z31_
   obtain ⟨ad404, e404, hx404_0⟩ := Kd.at_int HR0.out x12_1 p404 q404
   cases e404
   replace p404 := eq_true p404
   replace q404 := eq_true q404
   obtain ⟨i08, hi08, _, hsz8, _⟩ := info_parts info3
   obtain ⟨hcut8, hA8, hC8⟩ := print_take_of (P := Try.prog) (Value.int .i64) 0 23 3 .i64 Try.underlying23 hi08 hsz8 (some ad404) c0 l0 x12_1 (of_decide_eq_true z31_) (of_decide_eq_true z31_) HC0.out
   have HR405 := Aside0.mk (Kd.C_of_reads (h1 := fun _ => rfl) (hA8 _ (Kd.reads_of_C HR0.out)))
   have HC405 := Aside0.mk hC8
   clear hA8 hC8 hi08 hsz8
   have QL := Aside0.mk (show ((l0.take (x12_1 : Int).toNat).length : Int) = max x12_1 0 by rw [List.length_take]; have := of_decide_eq_true c4b0; have := of_decide_eq_true c5b0; omega)
   go_wp2
   go_loopg [5, 21] k1 (fun kq v5 v21 w' => ∃ (x5_2 : Int) (x21_2 : Int), v5 = .int .i64 x5_2 ∧ v21 = .int .i64 x21_2 ∧ Aside0 (impl_invariant.l1 kq l0 a1 x5_2 (rd l0 x12_1) l0 (l0.length : Int) x12_1 (l0.take (x12_1 : Int).toNat) ((l0.take (x12_1 : Int).toNat).length : Int) x21_2 = some r) ∧ Aside0 (kq ≤ k1) ∧ Drawn0 w w')
   case atStart => exact ⟨(x5_1), (0), z32_, z32_, H', ⟨Nat.le_refl _⟩, z30_⟩
   case round =>
    clear H'
    clear c3b0 c4b0 c5b0 c6b0 c7b0 c7b1 hx404_0 p404 q404
    obtain ⟨x5_2, x21_2, rfl, rfl, HA, HK2, ⟨m2, rfl⟩⟩ := hrel
    cases gk with
    | zero => exact absurd HA.out (by simp [impl_invariant.l1])
    | succ k2 =>
     have H := HA.out
     clear HA
     simp only [impl_invariant.l1] at H
     by_cases c9 : x21_2 < ((l0.take (x12_1 : Int).toNat).length : Int)
     rotate_left
     · rw [if_neg c9] at H
       have c9b0 := decide_eq_false c9
       have c9b1 : decide (x21_2 < max x12_1 0) = false := by rw [← QL.out]; exact c9b0
       clear c9
       have H' := Aside0.mk H
       clear H
       go_wp2
       go_roundg k2
       case measure => have := HK1.out; have := HK2.out; omega
       case rel => exact ⟨(x5_2), (wrap64 (x12_1 + 1)), z32_, z32_, H', ⟨by have := HK1.out; have := HK2.out; omega⟩, z30_⟩
     rw [if_pos c9] at H
     have c9b0 := decide_eq_true c9
     have c9b1 : decide (x21_2 < max x12_1 0) = true := by rw [← QL.out]; exact c9b0
     clear c9
     obtain ⟨c10, H⟩ := in_ H
     have c10b0 := decide_eq_true c10
     clear c10
     obtain ⟨c11, H⟩ := in_ H
     have c11b0 := decide_eq_true c11
     have c11b1 : decide (x21_2 < max x12_1 0) = true := by rw [← QL.out]; exact c11b0
     clear c11
     obtain ⟨t407, A12, H⟩ := bi_ H
     have H' := Aside0.mk H
     clear H
     have p406 : 0 ≤ (x21_2 : Int) := of_decide_eq_true z31_
     have q406 : x21_2 < ((l0.take (x12_1 : Int).toNat).length : Int) := of_decide_eq_true z31_
     obtain ⟨ad406, e406, hx406_0⟩ := Kd.at_int HR405.out x21_2 p406 q406
     obtain rfl : ad404 = ad406 := (by injection e406)
     replace p406 := eq_true p406
     have q406b : (x21_2 < max x12_1 0) = True := by rw [← QL.out]; exact eq_true q406
     replace q406 := eq_true q406
     go_wp2_with (first | ((with_reducible refine gate_callee (f := 101) rfl ?_); refine goesL_ (some 29) rfl rfl Try.func101 (by kernel_rfl) rfl #[.int .i64 (rd l0 x12_1), .int .i64 (rd (l0.take (x12_1 : Int).toNat) x21_2), .int .i64 a1] rfl z14_ ?_; (with_reducible refine (impl_symbol.calls k2 (rd l0 x12_1) (rd (l0.take (x12_1 : Int).toNat) x21_2) a1 t407 _ A12.out).mono ?_); rintro e w' ⟨rfl, ⟨nd, rfl⟩⟩; refine ⟨_, rfl, ?_⟩))
     go_roundg k2
     case measure => have := HK1.out; have := HK2.out; omega
     case rel => exact ⟨(wrap64 (x5_2 * t407)), (wrap64 (x21_2 + 1)), z32_, z32_, H', ⟨by have := HK1.out; have := HK2.out; omega⟩, z30_⟩

/-! ### impl_vanishes: function 81 -/
def impl_vanishes.f (k : Nat) (l0 : List Int) (a1 : Int) : Option (Bool) := (impl_product.f k l0).bind fun t408 => (if a1 = 0 then ((impl_lessTerms.f k l0).bind fun t409 => (if t409 > 0 then (some (decide (t409 < (l0.length : Int)))) else (some false))) else (if (l0.length : Int) = 2 then ((impl_localSquare.f k (wrap64 (-t408)) a1).bind fun t410 => (some t410)) else (if (l0.length : Int) = 3 then ((impl_invariant.f k l0 a1).bind fun t411 => ((impl_symbol.f k (-1) (wrap64 (-t408)) a1).bind fun t412 => (some (t411 == t412)))) else (if (l0.length : Int) = 4 then ((impl_localSquare.f k t408 a1).bind fun t413 => (if t413 = true then ((impl_invariant.f k l0 a1).bind fun t414 => ((impl_symbol.f k (-1) (-1) a1).bind fun t415 => (some (t414 == t415)))) else (some true))) else (some false)))))
theorem impl_vanishes.mono : ∀ a0 a1 k, LeO (impl_vanishes.f k a0 a1) (impl_vanishes.f (k + 1) a0 a1) := by
 intro a0 a1 k
 unfold impl_vanishes.f
 exact mo_
theorem impl_vanishes.calls (k : Nat) (A0 : Option Addr) (c0 : Nat) (l0 : List Int) (a1 : Int) (r : Bool) (w : World) (hr0 : Kd.C (Kd.int .i64) w A0 l0.length l0) (hc0 : l0.length ≤ c0) (h : impl_vanishes.f k l0 a1 = some r) :
 Calls Try.prog 81 #[.slice A0 l0.length c0, .int .i64 a1] w fun e w' => e = .returned (.bool r) ∧ Drawn0 w w' := by
 have HR0 := Aside0.mk hr0
 have HC0 := Aside0.mk hc0
 clear hr0 hc0
 have H := h
 clear h
 unfold impl_vanishes.f at H
 obtain ⟨t408, A3, H⟩ := bi_ H
 by_cases c4 : a1 = 0
 · rw [if_pos c4] at H
   have c4b0 := beq_iff_eq.mpr c4
   have c4b1 := bne_eq_false_iff_eq.mpr c4
   clear c4
   obtain ⟨t409, A5, H⟩ := bi_ H
   by_cases c6 : t409 > 0
   · rw [if_pos c6] at H
     have c6b0 := decide_eq_true c6
     clear c6
     obtain rfl := Option.some.inj H
     go_enter Try.func81, Try.ntmps81
     go_wp2_with (first | ((with_reducible refine gate_callee (f := 76) rfl ?_); refine goesL_ (some 8) rfl rfl Try.func76 (by kernel_rfl) rfl #[.slice A0 l0.length c0] rfl z14_ ?_; (with_reducible refine (impl_product.calls k _ _ l0 t408 _ ?side1 ?side2 A3.out).mono ?_); (case side1 => repeat (first | exact HR0.out | (with_reducible refine Kd.C_alloc ?_ _) | (with_reducible refine Kd.C_drewN ?_ _) | (with_reducible refine Kd.C_drew ?_))); (case side2 => exact HC0.out); rintro e w' ⟨rfl, ⟨nd, rfl⟩⟩; refine ⟨_, rfl, ?_⟩) | ((with_reducible refine gate_callee (f := 66) rfl ?_); refine goesL_ (some 12) rfl rfl Try.func66 (by kernel_rfl) rfl #[.slice A0 l0.length c0] rfl z14_ ?_; (with_reducible refine (impl_lessTerms.calls k _ _ l0 t409 _ ?side1 ?side2 A5.out).mono ?_); (case side1 => repeat (first | exact HR0.out | (with_reducible refine Kd.C_alloc ?_ _) | (with_reducible refine Kd.C_drewN ?_ _) | (with_reducible refine Kd.C_drew ?_))); (case side2 => exact HC0.out); rintro e w' ⟨rfl, ⟨nd, rfl⟩⟩; refine ⟨_, rfl, ?_⟩))
     go_ret
     exact ⟨z32_, z30_⟩
   rw [if_neg c6] at H
   have c6b0 := decide_eq_false c6
   clear c6
   obtain rfl := Option.some.inj H
   go_enter Try.func81, Try.ntmps81
   go_wp2_with (first | ((with_reducible refine gate_callee (f := 76) rfl ?_); refine goesL_ (some 8) rfl rfl Try.func76 (by kernel_rfl) rfl #[.slice A0 l0.length c0] rfl z14_ ?_; (with_reducible refine (impl_product.calls k _ _ l0 t408 _ ?side1 ?side2 A3.out).mono ?_); (case side1 => repeat (first | exact HR0.out | (with_reducible refine Kd.C_alloc ?_ _) | (with_reducible refine Kd.C_drewN ?_ _) | (with_reducible refine Kd.C_drew ?_))); (case side2 => exact HC0.out); rintro e w' ⟨rfl, ⟨nd, rfl⟩⟩; refine ⟨_, rfl, ?_⟩) | ((with_reducible refine gate_callee (f := 66) rfl ?_); refine goesL_ (some 12) rfl rfl Try.func66 (by kernel_rfl) rfl #[.slice A0 l0.length c0] rfl z14_ ?_; (with_reducible refine (impl_lessTerms.calls k _ _ l0 t409 _ ?side1 ?side2 A5.out).mono ?_); (case side1 => repeat (first | exact HR0.out | (with_reducible refine Kd.C_alloc ?_ _) | (with_reducible refine Kd.C_drewN ?_ _) | (with_reducible refine Kd.C_drew ?_))); (case side2 => exact HC0.out); rintro e w' ⟨rfl, ⟨nd, rfl⟩⟩; refine ⟨_, rfl, ?_⟩))
   go_ret
   exact ⟨z32_, z30_⟩
 rw [if_neg c4] at H
 have c4b0 := beq_eq_false_iff_ne.mpr c4
 have c4b1 := bne_iff_ne.mpr c4
 by_cases c7 : (l0.length : Int) = 2
 · rw [if_pos c7] at H
   have c7b0 := beq_iff_eq.mpr c7
   have c7b1 := bne_eq_false_iff_eq.mpr c7
   clear c7
   obtain ⟨t410, A8, H⟩ := bi_ H
   obtain rfl := Option.some.inj H
   go_enter Try.func81, Try.ntmps81
   go_wp2_with (first | ((with_reducible refine gate_callee (f := 76) rfl ?_); refine goesL_ (some 8) rfl rfl Try.func76 (by kernel_rfl) rfl #[.slice A0 l0.length c0] rfl z14_ ?_; (with_reducible refine (impl_product.calls k _ _ l0 t408 _ ?side1 ?side2 A3.out).mono ?_); (case side1 => repeat (first | exact HR0.out | (with_reducible refine Kd.C_alloc ?_ _) | (with_reducible refine Kd.C_drewN ?_ _) | (with_reducible refine Kd.C_drew ?_))); (case side2 => exact HC0.out); rintro e w' ⟨rfl, ⟨nd, rfl⟩⟩; refine ⟨_, rfl, ?_⟩) | ((with_reducible refine gate_callee (f := 86) rfl ?_); refine goesL_ (some 28) rfl rfl Try.func86 (by kernel_rfl) rfl #[.int .i64 (wrap64 (-t408)), .int .i64 a1] rfl z14_ ?_; (with_reducible refine (impl_localSquare.calls k (wrap64 (-t408)) a1 t410 _ A8.out).mono ?_); rintro e w' ⟨rfl, ⟨nd, rfl⟩⟩; refine ⟨_, rfl, ?_⟩))
   go_ret
   exact ⟨z32_, z30_⟩
 rw [if_neg c7] at H
 have c7b0 := beq_eq_false_iff_ne.mpr c7
 have c7b1 := bne_iff_ne.mpr c7
 by_cases c9 : (l0.length : Int) = 3
 · rw [if_pos c9] at H
   have c9b0 := beq_iff_eq.mpr c9
   have c9b1 := bne_eq_false_iff_eq.mpr c9
   clear c9
   obtain ⟨t411, A10, H⟩ := bi_ H
   obtain ⟨t412, A11, H⟩ := bi_ H
   obtain rfl := Option.some.inj H
   go_enter Try.func81, Try.ntmps81
   go_wp2_with (first | ((with_reducible refine gate_callee (f := 76) rfl ?_); refine goesL_ (some 8) rfl rfl Try.func76 (by kernel_rfl) rfl #[.slice A0 l0.length c0] rfl z14_ ?_; (with_reducible refine (impl_product.calls k _ _ l0 t408 _ ?side1 ?side2 A3.out).mono ?_); (case side1 => repeat (first | exact HR0.out | (with_reducible refine Kd.C_alloc ?_ _) | (with_reducible refine Kd.C_drewN ?_ _) | (with_reducible refine Kd.C_drew ?_))); (case side2 => exact HC0.out); rintro e w' ⟨rfl, ⟨nd, rfl⟩⟩; refine ⟨_, rfl, ?_⟩) | ((with_reducible refine gate_callee (f := 98) rfl ?_); refine goesL_ (some 33) rfl rfl Try.func98 (by kernel_rfl) rfl #[.slice A0 l0.length c0, .int .i64 a1] rfl z14_ ?_; (with_reducible refine (impl_invariant.calls k _ _ l0 a1 t411 _ ?side1 ?side2 A10.out).mono ?_); (case side1 => repeat (first | exact HR0.out | (with_reducible refine Kd.C_alloc ?_ _) | (with_reducible refine Kd.C_drewN ?_ _) | (with_reducible refine Kd.C_drew ?_))); (case side2 => exact HC0.out); rintro e w' ⟨rfl, ⟨nd, rfl⟩⟩; refine ⟨_, rfl, ?_⟩) | ((with_reducible refine gate_callee (f := 101) rfl ?_); refine goesL_ (some 37) rfl rfl Try.func101 (by kernel_rfl) rfl #[.int .i64 (-1), .int .i64 (wrap64 (-t408)), .int .i64 a1] rfl z14_ ?_; (with_reducible refine (impl_symbol.calls k (-1) (wrap64 (-t408)) a1 t412 _ A11.out).mono ?_); rintro e w' ⟨rfl, ⟨nd, rfl⟩⟩; refine ⟨_, rfl, ?_⟩))
   go_ret
   exact ⟨z32_, z30_⟩
 rw [if_neg c9] at H
 have c9b0 := beq_eq_false_iff_ne.mpr c9
 have c9b1 := bne_iff_ne.mpr c9
 by_cases c12 : (l0.length : Int) = 4
 rotate_left
 · rw [if_neg c12] at H
   have c12b0 := beq_eq_false_iff_ne.mpr c12
   have c12b1 := bne_iff_ne.mpr c12
   obtain rfl := Option.some.inj H
   go_enter Try.func81, Try.ntmps81
   go_wp2_with (first | ((with_reducible refine gate_callee (f := 76) rfl ?_); refine goesL_ (some 8) rfl rfl Try.func76 (by kernel_rfl) rfl #[.slice A0 l0.length c0] rfl z14_ ?_; (with_reducible refine (impl_product.calls k _ _ l0 t408 _ ?side1 ?side2 A3.out).mono ?_); (case side1 => repeat (first | exact HR0.out | (with_reducible refine Kd.C_alloc ?_ _) | (with_reducible refine Kd.C_drewN ?_ _) | (with_reducible refine Kd.C_drew ?_))); (case side2 => exact HC0.out); rintro e w' ⟨rfl, ⟨nd, rfl⟩⟩; refine ⟨_, rfl, ?_⟩))
   go_ret
   exact ⟨z32_, z30_⟩
 rw [if_pos c12] at H
 have c12b0 := beq_iff_eq.mpr c12
 have c12b1 := bne_eq_false_iff_eq.mpr c12
 clear c12
 obtain ⟨t413, A13, H⟩ := bi_ H
 by_cases c14 : t413 = true
 · subst c14
   rw [it_] at H
   obtain ⟨t414, A15, H⟩ := bi_ H
   obtain ⟨t415, A16, H⟩ := bi_ H
   obtain rfl := Option.some.inj H
   go_enter Try.func81, Try.ntmps81
   go_wp2_with (first | ((with_reducible refine gate_callee (f := 76) rfl ?_); refine goesL_ (some 8) rfl rfl Try.func76 (by kernel_rfl) rfl #[.slice A0 l0.length c0] rfl z14_ ?_; (with_reducible refine (impl_product.calls k _ _ l0 t408 _ ?side1 ?side2 A3.out).mono ?_); (case side1 => repeat (first | exact HR0.out | (with_reducible refine Kd.C_alloc ?_ _) | (with_reducible refine Kd.C_drewN ?_ _) | (with_reducible refine Kd.C_drew ?_))); (case side2 => exact HC0.out); rintro e w' ⟨rfl, ⟨nd, rfl⟩⟩; refine ⟨_, rfl, ?_⟩) | ((with_reducible refine gate_callee (f := 86) rfl ?_); refine goesL_ (some 43) rfl rfl Try.func86 (by kernel_rfl) rfl #[.int .i64 t408, .int .i64 a1] rfl z14_ ?_; (with_reducible refine (impl_localSquare.calls k t408 a1 true _ A13.out).mono ?_); rintro e w' ⟨rfl, ⟨nd, rfl⟩⟩; refine ⟨_, rfl, ?_⟩) | (go_at_call 98; (with_reducible refine (impl_invariant.calls k _ _ l0 a1 t414 _ ?side1 ?side2 A15.out).mono ?_); (case side1 => repeat (first | exact HR0.out | (with_reducible refine Kd.C_alloc ?_ _) | (with_reducible refine Kd.C_drewN ?_ _) | (with_reducible refine Kd.C_drew ?_))); (case side2 => exact HC0.out); rintro e w' ⟨rfl, ⟨nd, rfl⟩⟩) | (go_at_call 101; (with_reducible refine (impl_symbol.calls k (-1) (-1) a1 t415 _ A16.out).mono ?_); rintro e w' ⟨rfl, ⟨nd, rfl⟩⟩))
   go_ret
   exact ⟨z32_, z30_⟩
 replace c14 := Bool.eq_false_iff.mpr c14
 subst c14
 rw [jt_] at H
 obtain rfl := Option.some.inj H
 go_enter Try.func81, Try.ntmps81
 go_wp2_with (first | ((with_reducible refine gate_callee (f := 76) rfl ?_); refine goesL_ (some 8) rfl rfl Try.func76 (by kernel_rfl) rfl #[.slice A0 l0.length c0] rfl z14_ ?_; (with_reducible refine (impl_product.calls k _ _ l0 t408 _ ?side1 ?side2 A3.out).mono ?_); (case side1 => repeat (first | exact HR0.out | (with_reducible refine Kd.C_alloc ?_ _) | (with_reducible refine Kd.C_drewN ?_ _) | (with_reducible refine Kd.C_drew ?_))); (case side2 => exact HC0.out); rintro e w' ⟨rfl, ⟨nd, rfl⟩⟩; refine ⟨_, rfl, ?_⟩) | ((with_reducible refine gate_callee (f := 86) rfl ?_); refine goesL_ (some 43) rfl rfl Try.func86 (by kernel_rfl) rfl #[.int .i64 t408, .int .i64 a1] rfl z14_ ?_; (with_reducible refine (impl_localSquare.calls k t408 a1 false _ A13.out).mono ?_); rintro e w' ⟨rfl, ⟨nd, rfl⟩⟩; refine ⟨_, rfl, ?_⟩))
 go_ret
 exact ⟨z32_, z30_⟩

/-! ### impl_FormBad: function 27 -/
def impl_FormBad.l0 : Nat → List Int → List Int → List Int → Int → Int → Option (List Int)
 | 0, _, _, _, _, _ => none
 | k + 1, x0, x3, x8, x9, x10 => if x10 < x9 then (if 0 ≤ x10 then (if x10 < (x8.length : Int) then ((impl_vanishes.f k x0 (rd x8 x10)).bind fun t423 => (if t423 = true then (impl_FormBad.l0 k x0 x3 x8 x9 (wrap64 (x10 + 1))) else (if x3.length < 17592186044416 then (impl_FormBad.l0 k x0 (x3 ++ [rd x8 x10]) x8 x9 (wrap64 (x10 + 1))) else (none)))) else (none)) else (none)) else (some x3)
def impl_FormBad.f (k : Nat) (l0 : List Int) : Option (List Int) := (impl_FormPlaces.f k l0).bind fun t419 => (impl_FormBad.l0 k l0 (([] : List Int)) t419 (t419.length : Int) 0)
theorem impl_FormBad.mono_l : ∀ k, (∀ y0 y1 y2 y3 y4, LeO (impl_FormBad.l0 k y0 y1 y2 y3 y4) (impl_FormBad.l0 (k + 1) y0 y1 y2 y3 y4))
 | 0 => fun _ _ _ _ _ r h => by simp [impl_FormBad.l0] at h
 | k + 1 => by
  have ih0 := impl_FormBad.mono_l k
  intro y0 y1 y2 y3 y4
  unfold impl_FormBad.l0
  exact mo_
theorem impl_FormBad.mono : ∀ a0 k, LeO (impl_FormBad.f k a0) (impl_FormBad.f (k + 1) a0) := by
 intro a0 k
 have ih0 := impl_FormBad.mono_l k
 unfold impl_FormBad.f
 exact mo_
theorem impl_FormBad.calls (k : Nat) (A0 : Option Addr) (c0 : Nat) (l0 : List Int) (r : List Int) (w : World) (hr0 : Kd.C (Kd.int .i64) w A0 l0.length l0) (hc0 : l0.length ≤ c0) (h : impl_FormBad.f k l0 = some r) :
 Calls Try.prog 27 #[.slice A0 l0.length c0] w fun e w' => ∃ v0_ : Value, e = .returned (v0_) ∧ Kd.R (Kd.int .i64) 3 w' w.heap.size (fun _ => True) v0_ r ∧ Below w.heap.size w w' := by
 have HR0 := Aside0.mk hr0
 have HC0 := Aside0.mk hc0
 clear hr0 hc0
 have HB := Aside0.mk (Below.refl w.heap.size w)
 have H := h
 clear h
 unfold impl_FormBad.f at H
 generalize h_ : (([] : List Int)) = y416 at H
 have Ny416 := Aside0.mk h_.symm
 clear h_
 obtain ⟨t419, A2, H⟩ := bi_ H
 have H' := Aside0.mk H
 clear H
 go_enter Try.func27, Try.ntmps27
 go_wp2_with (first | ((with_reducible refine gate_dst (N := 6) rfl ?_); refine Kd.R_lit (Kd.int .i64) _ 3 ?hg (N := 6) ?hd (xs := ([] : List Int)) (inner := []) (ok := fun _ => True) (okp := fun _ => True) ?hr ?hp (fun _ hk => hk) trivial (Below.refl _ _) (Nat.le_refl _) (by simp) ?_; (case hd => rfl); (case hg => rfl); (case hr => first | (go_simp; done) | (go_simp; rfl)); (case hp => exact (Reps.none _ _)); intro v417 w3 ho4 hb hg_ hnew_; clear hg_ hnew_; (first | rw [← Ny416.out] at ho4 | (simp only [Int.reduceToNat] at ho4; rw [← Ny416.out] at ho4)); have HO418:= Aside0.mk (Kd.R_lower ho4 (below_size z16_)); replace HB:= Aside0.mk (below_step z16_ hb); clear hb ho4) | ((with_reducible refine gate_callee (f := 80) rfl ?_); refine goesL_ (some 8) rfl rfl Try.func80 (by kernel_rfl) rfl #[.slice A0 l0.length c0] rfl z14_ ?_; (with_reducible refine (impl_FormPlaces.calls k _ _ l0 t419 _ ?side1 ?side2 A2.out).mono ?_); (case side1 => repeat (first | exact (Kd.C_below HR0.out HB.out) | (with_reducible refine Kd.C_alloc ?_ _) | (with_reducible refine Kd.C_drewN ?_ _) | (with_reducible refine Kd.C_drew ?_))); (case side2 => exact HC0.out); rintro e w5 ⟨v420, rfl, ho0, hb⟩; refine ⟨_, rfl, ?_⟩; have HO421:= Aside0.mk (Kd.R_lower (Kd.R_new' ho0 (Kd.R_lt (by (with_reducible repeat (first | apply Kd.R_alloc | apply Kd.R_drewN | apply Kd.R_drew)); exact HO418.out))) (below_size z16_)); replace HO418:= Aside0.mk (Kd.R_elder' (by (with_reducible repeat (first | apply Kd.R_alloc | apply Kd.R_drewN | apply Kd.R_drew)); exact HO418.out) (Kd.R_base ho0) hb); replace HB:= Aside0.mk (below_step z16_ hb); clear hb ho0; obtain ⟨Ao6, co6, eo6⟩ := Kd.R_slice HO421.out; subst eo6))
 go_loopg [3, 10] k (fun kq v3 v10 w' => ∃ (x3_1 : List Int) (x10_1 : Int), v10 = .int .i64 x10_1 ∧ Aside0 (impl_FormBad.l0 kq l0 x3_1 t419 (t419.length : Int) x10_1 = some r) ∧ Aside0 (kq ≤ k) ∧ Aside0 (Kd.R (Kd.int .i64) 3 w' w.heap.size (fun k_ => some k_ ≠ ((.slice Ao6 t419.length co6) : Value).ownBlock) v3 x3_1) ∧ Aside0 (Kd.R (Kd.int .i64) 3 w' w.heap.size (fun k_ => some k_ ≠ (v3 : Value).ownBlock) (.slice Ao6 t419.length co6) t419) ∧ Aside0 (Below w.heap.size w w'))
 case atStart => exact ⟨(y416), (0), z32_, H', ⟨Nat.le_refl _⟩, ⟨by (with_reducible repeat (first | apply Kd.R_alloc | apply Kd.R_drewN | apply Kd.R_drew)); exact Kd.R_mono HO418.out (fun _ hk => hk.2)⟩, ⟨by (with_reducible repeat (first | apply Kd.R_alloc | apply Kd.R_drewN | apply Kd.R_drew)); exact Kd.R_mono HO421.out (fun _ hk => hk.2)⟩, ⟨z16_⟩⟩
 case round =>
  clear H'
  obtain ⟨x3_1, x10_1, rfl, HA, HK1, HO_3, HO_8, HB⟩ := hrel
  cases gk with
  | zero => exact absurd HA.out (by simp [impl_FormBad.l0])
  | succ k1 =>
   have H := HA.out
   clear HA
   simp only [impl_FormBad.l0] at H
   by_cases c7 : x10_1 < (t419.length : Int)
   rotate_left
   · rw [if_neg c7] at H
     have c7b0 := decide_eq_false c7
     clear c7
     obtain rfl := Option.some.inj H
     go_wp2
     go_ret
     exact ⟨_, z29_, by (with_reducible repeat (first | apply Kd.R_alloc | apply Kd.R_drewN | apply Kd.R_drew)); exact Kd.R_mono HO_3.out (fun _ hk => trivial), z16_⟩
   rw [if_pos c7] at H
   have c7b0 := decide_eq_true c7
   clear c7
   obtain ⟨c8, H⟩ := in_ H
   have c8b0 := decide_eq_true c8
   clear c8
   obtain ⟨c9, H⟩ := in_ H
   have c9b0 := decide_eq_true c9
   clear c9
   obtain ⟨t423, A10, H⟩ := bi_ H
   by_cases c11 : t423 = true
   · subst c11
     rw [it_] at H
     have H' := Aside0.mk H
     clear H
     have p422 : 0 ≤ (x10_1 : Int) := of_decide_eq_true z31_
     have q422 : x10_1 < (t419.length : Int) := of_decide_eq_true z31_
     obtain ⟨ad422, e422, hx422_0⟩ := Kd.at_int (Kd.R_reads' HO_8.out).2.2 x10_1 p422 q422
     cases e422
     replace p422 := eq_true p422
     replace q422 := eq_true q422
     go_wp2_with (first | ((with_reducible refine gate_callee (f := 81) rfl ?_); refine goesL_ (some 16) rfl rfl Try.func81 (by kernel_rfl) rfl #[.slice A0 l0.length c0, .int .i64 (rd t419 x10_1)] rfl z14_ ?_; (with_reducible refine (impl_vanishes.calls k1 _ _ l0 (rd t419 x10_1) true _ ?side1 ?side2 A10.out).mono ?_); (case side1 => repeat (first | exact (Kd.C_below HR0.out HB.out) | (with_reducible refine Kd.C_alloc ?_ _) | (with_reducible refine Kd.C_drewN ?_ _) | (with_reducible refine Kd.C_drew ?_))); (case side2 => exact HC0.out); rintro e w' ⟨rfl, ⟨nd, rfl⟩⟩; refine ⟨_, rfl, ?_⟩))
     go_roundg k1
     case measure => have := HK1.out; omega
     case rel => exact ⟨(x3_1), (wrap64 (x10_1 + 1)), z32_, H', ⟨by have := HK1.out; omega⟩, ⟨z24_⟩, ⟨z25_⟩, ⟨z16_⟩⟩
   replace c11 := Bool.eq_false_iff.mpr c11
   subst c11
   rw [jt_] at H
   obtain ⟨c12, H⟩ := in_ H
   have LMc12 := Aside0.mk c12
   clear c12
   generalize h_ : (x3_1 ++ [rd t419 x10_1]) = y424 at H
   have Ny424 := Aside0.mk h_.symm
   clear h_
   have H' := Aside0.mk H
   clear H
   have p422 : 0 ≤ (x10_1 : Int) := of_decide_eq_true z31_
   have q422 : x10_1 < (t419.length : Int) := of_decide_eq_true z31_
   obtain ⟨ad422, e422, hx422_0⟩ := Kd.at_int (Kd.R_reads' HO_8.out).2.2 x10_1 p422 q422
   cases e422
   replace p422 := eq_true p422
   replace q422 := eq_true q422
   go_wp2_with (first | ((with_reducible refine gate_callee (f := 81) rfl ?_); refine goesL_ (some 16) rfl rfl Try.func81 (by kernel_rfl) rfl #[.slice A0 l0.length c0, .int .i64 (rd t419 x10_1)] rfl z14_ ?_; (with_reducible refine (impl_vanishes.calls k1 _ _ l0 (rd t419 x10_1) false _ ?side1 ?side2 A10.out).mono ?_); (case side1 => repeat (first | exact (Kd.C_below HR0.out HB.out) | (with_reducible refine Kd.C_alloc ?_ _) | (with_reducible refine Kd.C_drewN ?_ _) | (with_reducible refine Kd.C_drew ?_))); (case side2 => exact HC0.out); rintro e w' ⟨rfl, ⟨nd, rfl⟩⟩; refine ⟨_, rfl, ?_⟩) | ((with_reducible refine gate_builtin (b := .append) (xs := #[.tmp 18, .tmp 20]) rfl ?_); at_builtin; refine Kd.R_append (Kd.int .i64) (w0 := w) w.heap.size rfl (.tmp 18) (.tmp 20) 23 3 (.int .i64 0) 8 rfl Try.underlying23 info3 rfl (by decide) (by omega) u3 x3_1 (rd t419 x10_1) [.int .i64 (rd t419 x10_1)] (fun k_ => some k_ ≠ (.slice (some ad422) t419.length co6 : Value).ownBlock) (fun _ => False) rfl rfl ?aP (fun _ hk => hk.elim) ?aF ?aO ?aB ?aS ?aL ?_; (case aP => exact rfl); (case aB => exact z16_); (case aF => exact (fun k_ hk => Kd.fresh' (Kd.R_lt z25_) k_ hk)); (case aO => exact z24_); (case aS => exact (below_size z16_)); (case aL => have := LMc12.out; omega); intro v425 w13 ho hb hg hat; rw [← Ny424.out] at ho; replace HO_8:= Aside0.mk (Kd.R_after (ok := (fun _ => True)) (by (with_reducible repeat (first | apply Kd.R_alloc | apply Kd.R_drewN | apply Kd.R_drew)); exact Kd.R_mono HO_8.out (fun _ hk => ⟨trivial, hk⟩)) hg hat); replace HB:= Aside0.mk (hb); have HO426:= Aside0.mk (ho); clear HO_3; clear ho hb hg hat))
   go_roundg k1
   case measure => have := HK1.out; omega
   case rel => exact ⟨(y424), (wrap64 (x10_1 + 1)), z32_, H', ⟨by have := HK1.out; omega⟩, ⟨by (with_reducible repeat (first | apply Kd.R_alloc | apply Kd.R_drewN | apply Kd.R_drew)); exact HO426.out⟩, ⟨by (with_reducible repeat (first | apply Kd.R_alloc | apply Kd.R_drewN | apply Kd.R_drew)); exact Kd.R_mono HO_8.out (fun _ hk => hk.2)⟩, ⟨z16_⟩⟩

end Go.Proofs.Ytdeahlommlgceaa.PFnNormal

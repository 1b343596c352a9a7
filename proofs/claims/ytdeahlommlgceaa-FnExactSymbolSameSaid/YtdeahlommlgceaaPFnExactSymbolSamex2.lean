-- Written by a program of this repo (wip/gen/gen.py) over the kit's print.
-- (slim)
import Derived.Test.YtdeahlommlgceaaPFnExactSymbolSamex0
import Derived.Test.YtdeahlommlgceaaPFnExactSymbolSamex1
namespace Go.Proofs.Ytdeahlommlgceaa.PFnExactSymbolSame
open Go.RowKit Go.Proofs.YtdeahlommlgceaaW.PrintWords Go.Proofs.YtdeahlommlgceaaW.PrintLast Go.Proofs.YtdeahlommlgceaaW.PrintMore
attribute [local go_sem] max2_int min2_int max_two min_two max_three min_three max_four min_four   -- for this text's walks alone
set_option linter.unusedVariables false
set_option linter.unusedSimpArgs false

/-! ### spec_l3Symbol: function 126 -/
def spec_l3Symbol.f (k : Nat) (a0 : Int) (a1 : Int) (a2 : Int) : Option (Int) := if a2 = 0 then (if a0 < 0 then (if a1 < 0 then (some (-1)) else (some 1)) else (some 1)) else ((spec_l1Valuation.f k a0 a2).bind fun bt127 => ((spec_l1Valuation.f k a1 a2).bind fun bt129 => (if a2 = 2 then ((spec_l1Mod.f bt127.2 16).bind fun t131 => ((spec_l1Mod.f bt129.2 16).bind fun t132 => ((spec_l3Half.f (wrap64 ((wrap64 ((wrap64 ((wrap64 (Int.tdiv (wrap64 (t131 - 1)) 2)) * (wrap64 (Int.tdiv (wrap64 (t132 - 1)) 2)))) + (wrap64 (bt127.1 * (wrap64 (Int.tdiv (wrap64 ((wrap64 (t132 * t132)) - 1)) 8)))))) + (wrap64 (bt129.1 * (wrap64 (Int.tdiv (wrap64 ((wrap64 (t131 * t131)) - 1)) 8))))))).bind fun t133 => (some t133)))) else ((spec_l3Half.f (wrap64 ((wrap64 (bt127.1 * bt129.1)) * (wrap64 (Int.tdiv (wrap64 (a2 - 1)) 2))))).bind fun t134 => (if (Int.tmod bt129.1 2) = 1 then ((spec_l1Residue.f k bt127.2 a2).bind fun t135 => (if (Int.tmod bt127.1 2) = 1 then ((spec_l1Residue.f k bt129.2 a2).bind fun t136 => (some (wrap64 ((wrap64 (t134 * t135)) * t136)))) else (some (wrap64 (t134 * t135))))) else (if (Int.tmod bt127.1 2) = 1 then ((spec_l1Residue.f k bt129.2 a2).bind fun t137 => (some (wrap64 (t134 * t137)))) else (some t134)))))))
theorem spec_l3Symbol.mono : ∀ a0 a1 a2 k, LeO (spec_l3Symbol.f k a0 a1 a2) (spec_l3Symbol.f (k + 1) a0 a1 a2) := by
 intro a0 a1 a2 k
 unfold spec_l3Symbol.f
 repeat' first
  | (with_reducible exact spec_l1Residue.mono _ _ _)
  | (with_reducible exact spec_l1Valuation.mono _ _ _)
  | (with_reducible exact LeO.refl _)
  | (with_reducible exact LeO.none _)
  | (with_reducible refine LeO.ite ?_ ?_)
  | (with_reducible refine LeO.bind ?_ (fun _ => ?_))
  | exact spec_l1Residue.mono _ _ _
  | exact spec_l1Valuation.mono _ _ _
  | exact LeO.none _
  | refine LeO.ite ?_ ?_
  | refine LeO.bind ?_ (fun _ => ?_)
set_option maxHeartbeats 8000000 in
set_option maxRecDepth 100000 in
theorem spec_l3Symbol.calls (k : Nat) (a0 : Int) (a1 : Int) (a2 : Int) (r : Int) (w : World) (h : spec_l3Symbol.f k a0 a1 a2 = some r) :
 Calls Try.prog 126 #[.int .i64 a0, .int .i64 a1, .int .i64 a2] w fun e w' => e = .returned (.int .i64 r) ∧ Drawn0 w w' := by
 have H : (if a2 = 0 then (if a0 < 0 then (if a1 < 0 then (some (-1)) else (some 1)) else (some 1)) else ((spec_l1Valuation.f k a0 a2).bind fun bt127 => ((spec_l1Valuation.f k a1 a2).bind fun bt129 => (if a2 = 2 then ((spec_l1Mod.f bt127.2 16).bind fun t131 => ((spec_l1Mod.f bt129.2 16).bind fun t132 => ((spec_l3Half.f (wrap64 ((wrap64 ((wrap64 ((wrap64 (Int.tdiv (wrap64 (t131 - 1)) 2)) * (wrap64 (Int.tdiv (wrap64 (t132 - 1)) 2)))) + (wrap64 (bt127.1 * (wrap64 (Int.tdiv (wrap64 ((wrap64 (t132 * t132)) - 1)) 8)))))) + (wrap64 (bt129.1 * (wrap64 (Int.tdiv (wrap64 ((wrap64 (t131 * t131)) - 1)) 8))))))).bind fun t133 => (some t133)))) else ((spec_l3Half.f (wrap64 ((wrap64 (bt127.1 * bt129.1)) * (wrap64 (Int.tdiv (wrap64 (a2 - 1)) 2))))).bind fun t134 => (if (Int.tmod bt129.1 2) = 1 then ((spec_l1Residue.f k bt127.2 a2).bind fun t135 => (if (Int.tmod bt127.1 2) = 1 then ((spec_l1Residue.f k bt129.2 a2).bind fun t136 => (some (wrap64 ((wrap64 (t134 * t135)) * t136)))) else (some (wrap64 (t134 * t135))))) else (if (Int.tmod bt127.1 2) = 1 then ((spec_l1Residue.f k bt129.2 a2).bind fun t137 => (some (wrap64 (t134 * t137)))) else (some t134)))))))) = some r := h
 clear h
 by_cases c4 : a2 = 0
 · rw [if_pos c4] at H
   have c4b0 : (a2 == 0) = true := beq_iff_eq.mpr c4
   have c4b1 : (a2 != 0) = false := bne_eq_false_iff_eq.mpr c4
   clear c4
   by_cases c5 : a0 < 0
   · rw [if_pos c5] at H
     have c5b0 : decide (a0 < 0) = true := decide_eq_true c5
     clear c5
     by_cases c6 : a1 < 0
     · rw [if_pos c6] at H
       have c6b0 : decide (a1 < 0) = true := decide_eq_true c6
       clear c6
       obtain rfl := Option.some.inj H
       go_enter Try.func126, Try.ntmps126
       go_wp2
       go_ret
       exact ⟨by first | rfl | (simp; done) | (simp [*]; done), by repeat (first | exact Drawn0.refl _ | apply Drawn0.step)⟩
     · rw [if_neg c6] at H
       have c6b0 : decide (a1 < 0) = false := decide_eq_false c6
       clear c6
       obtain rfl := Option.some.inj H
       go_enter Try.func126, Try.ntmps126
       go_wp2
       go_ret
       exact ⟨by first | rfl | (simp; done) | (simp [*]; done), by repeat (first | exact Drawn0.refl _ | apply Drawn0.step)⟩
   · rw [if_neg c5] at H
     have c5b0 : decide (a0 < 0) = false := decide_eq_false c5
     clear c5
     obtain rfl := Option.some.inj H
     go_enter Try.func126, Try.ntmps126
     go_wp2
     go_ret
     exact ⟨by first | rfl | (simp; done) | (simp [*]; done), by repeat (first | exact Drawn0.refl _ | apply Drawn0.step)⟩
 · rw [if_neg c4] at H
   have c4b0 : (a2 == 0) = false := beq_eq_false_iff_ne.mpr c4
   have c4b1 : (a2 != 0) = true := bne_iff_ne.mpr c4
   replace H := Option.bind_eq_some_iff.mp H
   obtain ⟨⟨t127, t128⟩, A70, H⟩ := H
   replace H : ((spec_l1Valuation.f k a1 a2).bind fun bt129 => (if a2 = 2 then ((spec_l1Mod.f t128 16).bind fun t131 => ((spec_l1Mod.f bt129.2 16).bind fun t132 => ((spec_l3Half.f (wrap64 ((wrap64 ((wrap64 ((wrap64 (Int.tdiv (wrap64 (t131 - 1)) 2)) * (wrap64 (Int.tdiv (wrap64 (t132 - 1)) 2)))) + (wrap64 (t127 * (wrap64 (Int.tdiv (wrap64 ((wrap64 (t132 * t132)) - 1)) 8)))))) + (wrap64 (bt129.1 * (wrap64 (Int.tdiv (wrap64 ((wrap64 (t131 * t131)) - 1)) 8))))))).bind fun t133 => (some t133)))) else ((spec_l3Half.f (wrap64 ((wrap64 (t127 * bt129.1)) * (wrap64 (Int.tdiv (wrap64 (a2 - 1)) 2))))).bind fun t134 => (if (Int.tmod bt129.1 2) = 1 then ((spec_l1Residue.f k t128 a2).bind fun t135 => (if (Int.tmod t127 2) = 1 then ((spec_l1Residue.f k bt129.2 a2).bind fun t136 => (some (wrap64 ((wrap64 (t134 * t135)) * t136)))) else (some (wrap64 (t134 * t135))))) else (if (Int.tmod t127 2) = 1 then ((spec_l1Residue.f k bt129.2 a2).bind fun t137 => (some (wrap64 (t134 * t137)))) else (some t134)))))) = some r := H
   have A7 := Aside0.mk A70
   clear A70
   replace H := Option.bind_eq_some_iff.mp H
   obtain ⟨⟨t129, t130⟩, A80, H⟩ := H
   replace H : (if a2 = 2 then ((spec_l1Mod.f t128 16).bind fun t131 => ((spec_l1Mod.f t130 16).bind fun t132 => ((spec_l3Half.f (wrap64 ((wrap64 ((wrap64 ((wrap64 (Int.tdiv (wrap64 (t131 - 1)) 2)) * (wrap64 (Int.tdiv (wrap64 (t132 - 1)) 2)))) + (wrap64 (t127 * (wrap64 (Int.tdiv (wrap64 ((wrap64 (t132 * t132)) - 1)) 8)))))) + (wrap64 (t129 * (wrap64 (Int.tdiv (wrap64 ((wrap64 (t131 * t131)) - 1)) 8))))))).bind fun t133 => (some t133)))) else ((spec_l3Half.f (wrap64 ((wrap64 (t127 * t129)) * (wrap64 (Int.tdiv (wrap64 (a2 - 1)) 2))))).bind fun t134 => (if (Int.tmod t129 2) = 1 then ((spec_l1Residue.f k t128 a2).bind fun t135 => (if (Int.tmod t127 2) = 1 then ((spec_l1Residue.f k t130 a2).bind fun t136 => (some (wrap64 ((wrap64 (t134 * t135)) * t136)))) else (some (wrap64 (t134 * t135))))) else (if (Int.tmod t127 2) = 1 then ((spec_l1Residue.f k t130 a2).bind fun t137 => (some (wrap64 (t134 * t137)))) else (some t134))))) = some r := H
   have A8 := Aside0.mk A80
   clear A80
   by_cases c9 : a2 = 2
   · rw [if_pos c9] at H
     have c9b0 : (a2 == 2) = true := beq_iff_eq.mpr c9
     have c9b1 : (a2 != 2) = false := bne_eq_false_iff_eq.mpr c9
     clear c9
     replace H := Option.bind_eq_some_iff.mp H
     obtain ⟨t131, A100, H⟩ := H
     replace H : ((spec_l1Mod.f t130 16).bind fun t132 => ((spec_l3Half.f (wrap64 ((wrap64 ((wrap64 ((wrap64 (Int.tdiv (wrap64 (t131 - 1)) 2)) * (wrap64 (Int.tdiv (wrap64 (t132 - 1)) 2)))) + (wrap64 (t127 * (wrap64 (Int.tdiv (wrap64 ((wrap64 (t132 * t132)) - 1)) 8)))))) + (wrap64 (t129 * (wrap64 (Int.tdiv (wrap64 ((wrap64 (t131 * t131)) - 1)) 8))))))).bind fun t133 => (some t133))) = some r := H
     have A10 := Aside0.mk A100
     clear A100
     replace H := Option.bind_eq_some_iff.mp H
     obtain ⟨t132, A110, H⟩ := H
     replace H : ((spec_l3Half.f (wrap64 ((wrap64 ((wrap64 ((wrap64 (Int.tdiv (wrap64 (t131 - 1)) 2)) * (wrap64 (Int.tdiv (wrap64 (t132 - 1)) 2)))) + (wrap64 (t127 * (wrap64 (Int.tdiv (wrap64 ((wrap64 (t132 * t132)) - 1)) 8)))))) + (wrap64 (t129 * (wrap64 (Int.tdiv (wrap64 ((wrap64 (t131 * t131)) - 1)) 8))))))).bind fun t133 => (some t133)) = some r := H
     have A11 := Aside0.mk A110
     clear A110
     replace H := Option.bind_eq_some_iff.mp H
     obtain ⟨t133, A120, H⟩ := H
     replace H : (some t133) = some r := H
     have A12 := Aside0.mk A120
     clear A120
     obtain rfl := Option.some.inj H
     go_enter Try.func126, Try.ntmps126
     go_wp2_with (first | ((with_reducible refine gate_callee (f := 136) rfl ?_); refine goesL_ (some 23) rfl rfl Try.func136 (by kernel_rfl) rfl #[.int .i64 a0, .int .i64 a2] rfl (by (try simp only [List.map_toArray, List.map_cons, List.map_nil]); first | done | rfl | (simp only [List.length_drop, List.length_take]; rfl)) ?_; (with_reducible refine (spec_l1Valuation.calls k a0 a2 t127 t128 _ A7.out).mono ?_); rintro e w' ⟨rfl, ⟨nd, rfl⟩⟩; refine ⟨_, rfl, ?_⟩) | ((with_reducible refine gate_callee (f := 136) rfl ?_); refine goesL_ (some 29) rfl rfl Try.func136 (by kernel_rfl) rfl #[.int .i64 a1, .int .i64 a2] rfl (by (try simp only [List.map_toArray, List.map_cons, List.map_nil]); first | done | rfl | (simp only [List.length_drop, List.length_take]; rfl)) ?_; (with_reducible refine (spec_l1Valuation.calls k a1 a2 t129 t130 _ A8.out).mono ?_); rintro e w' ⟨rfl, ⟨nd, rfl⟩⟩; refine ⟨_, rfl, ?_⟩) | ((with_reducible refine gate_callee (f := 123) rfl ?_); refine goesL_ (some 35) rfl rfl Try.func123 (by kernel_rfl) rfl #[.int .i64 t128, .int .i64 16] rfl (by (try simp only [List.map_toArray, List.map_cons, List.map_nil]); first | done | rfl | (simp only [List.length_drop, List.length_take]; rfl)) ?_; (with_reducible refine (spec_l1Mod.calls t128 16 t131 _ A10.out).mono ?_); rintro e w' ⟨rfl, ⟨nd, rfl⟩⟩; refine ⟨_, rfl, ?_⟩) | ((with_reducible refine gate_callee (f := 123) rfl ?_); refine goesL_ (some 37) rfl rfl Try.func123 (by kernel_rfl) rfl #[.int .i64 t130, .int .i64 16] rfl (by (try simp only [List.map_toArray, List.map_cons, List.map_nil]); first | done | rfl | (simp only [List.length_drop, List.length_take]; rfl)) ?_; (with_reducible refine (spec_l1Mod.calls t130 16 t132 _ A11.out).mono ?_); rintro e w' ⟨rfl, ⟨nd, rfl⟩⟩; refine ⟨_, rfl, ?_⟩) | ((with_reducible refine gate_callee (f := 138) rfl ?_); refine goesL_ (some 61) rfl rfl Try.func138 (by kernel_rfl) rfl #[.int .i64 (wrap64 ((wrap64 ((wrap64 ((wrap64 (Int.tdiv (wrap64 (t131 - 1)) 2)) * (wrap64 (Int.tdiv (wrap64 (t132 - 1)) 2)))) + (wrap64 (t127 * (wrap64 (Int.tdiv (wrap64 ((wrap64 (t132 * t132)) - 1)) 8)))))) + (wrap64 (t129 * (wrap64 (Int.tdiv (wrap64 ((wrap64 (t131 * t131)) - 1)) 8))))))] rfl (by (try simp only [List.map_toArray, List.map_cons, List.map_nil]); first | done | rfl | (simp only [List.length_drop, List.length_take]; rfl)) ?_; (with_reducible refine (spec_l3Half.calls (wrap64 ((wrap64 ((wrap64 ((wrap64 (Int.tdiv (wrap64 (t131 - 1)) 2)) * (wrap64 (Int.tdiv (wrap64 (t132 - 1)) 2)))) + (wrap64 (t127 * (wrap64 (Int.tdiv (wrap64 ((wrap64 (t132 * t132)) - 1)) 8)))))) + (wrap64 (t129 * (wrap64 (Int.tdiv (wrap64 ((wrap64 (t131 * t131)) - 1)) 8)))))) t133 _ A12.out).mono ?_); rintro e w' ⟨rfl, ⟨nd, rfl⟩⟩; refine ⟨_, rfl, ?_⟩))
     go_ret
     exact ⟨by first | rfl | (simp; done) | (simp [*]; done), by repeat (first | exact Drawn0.refl _ | apply Drawn0.step)⟩
   · rw [if_neg c9] at H
     have c9b0 : (a2 == 2) = false := beq_eq_false_iff_ne.mpr c9
     have c9b1 : (a2 != 2) = true := bne_iff_ne.mpr c9
     replace H := Option.bind_eq_some_iff.mp H
     obtain ⟨t134, A130, H⟩ := H
     replace H : (if (Int.tmod t129 2) = 1 then ((spec_l1Residue.f k t128 a2).bind fun t135 => (if (Int.tmod t127 2) = 1 then ((spec_l1Residue.f k t130 a2).bind fun t136 => (some (wrap64 ((wrap64 (t134 * t135)) * t136)))) else (some (wrap64 (t134 * t135))))) else (if (Int.tmod t127 2) = 1 then ((spec_l1Residue.f k t130 a2).bind fun t137 => (some (wrap64 (t134 * t137)))) else (some t134))) = some r := H
     have A13 := Aside0.mk A130
     clear A130
     by_cases c14 : (Int.tmod t129 2) = 1
     · rw [if_pos c14] at H
       have c14b0 : ((Int.tmod t129 2) == 1) = true := beq_iff_eq.mpr c14
       have c14b1 : ((Int.tmod t129 2) != 1) = false := bne_eq_false_iff_eq.mpr c14
       clear c14
       replace H := Option.bind_eq_some_iff.mp H
       obtain ⟨t135, A150, H⟩ := H
       replace H : (if (Int.tmod t127 2) = 1 then ((spec_l1Residue.f k t130 a2).bind fun t136 => (some (wrap64 ((wrap64 (t134 * t135)) * t136)))) else (some (wrap64 (t134 * t135)))) = some r := H
       have A15 := Aside0.mk A150
       clear A150
       by_cases c16 : (Int.tmod t127 2) = 1
       · rw [if_pos c16] at H
         have c16b0 : ((Int.tmod t127 2) == 1) = true := beq_iff_eq.mpr c16
         have c16b1 : ((Int.tmod t127 2) != 1) = false := bne_eq_false_iff_eq.mpr c16
         clear c16
         replace H := Option.bind_eq_some_iff.mp H
         obtain ⟨t136, A170, H⟩ := H
         replace H : (some (wrap64 ((wrap64 (t134 * t135)) * t136))) = some r := H
         have A17 := Aside0.mk A170
         clear A170
         obtain rfl := Option.some.inj H
         go_enter Try.func126, Try.ntmps126
         go_wp2_with (first | ((with_reducible refine gate_callee (f := 136) rfl ?_); refine goesL_ (some 23) rfl rfl Try.func136 (by kernel_rfl) rfl #[.int .i64 a0, .int .i64 a2] rfl (by (try simp only [List.map_toArray, List.map_cons, List.map_nil]); first | done | rfl | (simp only [List.length_drop, List.length_take]; rfl)) ?_; (with_reducible refine (spec_l1Valuation.calls k a0 a2 t127 t128 _ A7.out).mono ?_); rintro e w' ⟨rfl, ⟨nd, rfl⟩⟩; refine ⟨_, rfl, ?_⟩) | ((with_reducible refine gate_callee (f := 136) rfl ?_); refine goesL_ (some 29) rfl rfl Try.func136 (by kernel_rfl) rfl #[.int .i64 a1, .int .i64 a2] rfl (by (try simp only [List.map_toArray, List.map_cons, List.map_nil]); first | done | rfl | (simp only [List.length_drop, List.length_take]; rfl)) ?_; (with_reducible refine (spec_l1Valuation.calls k a1 a2 t129 t130 _ A8.out).mono ?_); rintro e w' ⟨rfl, ⟨nd, rfl⟩⟩; refine ⟨_, rfl, ?_⟩) | ((with_reducible refine gate_callee (f := 138) rfl ?_); refine goesL_ (some 69) rfl rfl Try.func138 (by kernel_rfl) rfl #[.int .i64 (wrap64 ((wrap64 (t127 * t129)) * (wrap64 (Int.tdiv (wrap64 (a2 - 1)) 2))))] rfl (by (try simp only [List.map_toArray, List.map_cons, List.map_nil]); first | done | rfl | (simp only [List.length_drop, List.length_take]; rfl)) ?_; (with_reducible refine (spec_l3Half.calls (wrap64 ((wrap64 (t127 * t129)) * (wrap64 (Int.tdiv (wrap64 (a2 - 1)) 2)))) t134 _ A13.out).mono ?_); rintro e w' ⟨rfl, ⟨nd, rfl⟩⟩; refine ⟨_, rfl, ?_⟩) | ((with_reducible refine gate_callee (f := 137) rfl ?_); refine goesL_ (some 76) rfl rfl Try.func137 (by kernel_rfl) rfl #[.int .i64 t128, .int .i64 a2] rfl (by (try simp only [List.map_toArray, List.map_cons, List.map_nil]); first | done | rfl | (simp only [List.length_drop, List.length_take]; rfl)) ?_; (with_reducible refine (spec_l1Residue.calls k t128 a2 t135 _ A15.out).mono ?_); rintro e w' ⟨rfl, ⟨nd, rfl⟩⟩; refine ⟨_, rfl, ?_⟩) | ((with_reducible refine gate_callee (f := 137) rfl ?_); refine goesL_ (some 84) rfl rfl Try.func137 (by kernel_rfl) rfl #[.int .i64 t130, .int .i64 a2] rfl (by (try simp only [List.map_toArray, List.map_cons, List.map_nil]); first | done | rfl | (simp only [List.length_drop, List.length_take]; rfl)) ?_; (with_reducible refine (spec_l1Residue.calls k t130 a2 t136 _ A17.out).mono ?_); rintro e w' ⟨rfl, ⟨nd, rfl⟩⟩; refine ⟨_, rfl, ?_⟩))
         go_ret
         exact ⟨by first | rfl | (simp; done) | (simp [*]; done), by repeat (first | exact Drawn0.refl _ | apply Drawn0.step)⟩
       · rw [if_neg c16] at H
         have c16b0 : ((Int.tmod t127 2) == 1) = false := beq_eq_false_iff_ne.mpr c16
         have c16b1 : ((Int.tmod t127 2) != 1) = true := bne_iff_ne.mpr c16
         obtain rfl := Option.some.inj H
         go_enter Try.func126, Try.ntmps126
         go_wp2_with (first | ((with_reducible refine gate_callee (f := 136) rfl ?_); refine goesL_ (some 23) rfl rfl Try.func136 (by kernel_rfl) rfl #[.int .i64 a0, .int .i64 a2] rfl (by (try simp only [List.map_toArray, List.map_cons, List.map_nil]); first | done | rfl | (simp only [List.length_drop, List.length_take]; rfl)) ?_; (with_reducible refine (spec_l1Valuation.calls k a0 a2 t127 t128 _ A7.out).mono ?_); rintro e w' ⟨rfl, ⟨nd, rfl⟩⟩; refine ⟨_, rfl, ?_⟩) | ((with_reducible refine gate_callee (f := 136) rfl ?_); refine goesL_ (some 29) rfl rfl Try.func136 (by kernel_rfl) rfl #[.int .i64 a1, .int .i64 a2] rfl (by (try simp only [List.map_toArray, List.map_cons, List.map_nil]); first | done | rfl | (simp only [List.length_drop, List.length_take]; rfl)) ?_; (with_reducible refine (spec_l1Valuation.calls k a1 a2 t129 t130 _ A8.out).mono ?_); rintro e w' ⟨rfl, ⟨nd, rfl⟩⟩; refine ⟨_, rfl, ?_⟩) | ((with_reducible refine gate_callee (f := 138) rfl ?_); refine goesL_ (some 69) rfl rfl Try.func138 (by kernel_rfl) rfl #[.int .i64 (wrap64 ((wrap64 (t127 * t129)) * (wrap64 (Int.tdiv (wrap64 (a2 - 1)) 2))))] rfl (by (try simp only [List.map_toArray, List.map_cons, List.map_nil]); first | done | rfl | (simp only [List.length_drop, List.length_take]; rfl)) ?_; (with_reducible refine (spec_l3Half.calls (wrap64 ((wrap64 (t127 * t129)) * (wrap64 (Int.tdiv (wrap64 (a2 - 1)) 2)))) t134 _ A13.out).mono ?_); rintro e w' ⟨rfl, ⟨nd, rfl⟩⟩; refine ⟨_, rfl, ?_⟩) | ((with_reducible refine gate_callee (f := 137) rfl ?_); refine goesL_ (some 76) rfl rfl Try.func137 (by kernel_rfl) rfl #[.int .i64 t128, .int .i64 a2] rfl (by (try simp only [List.map_toArray, List.map_cons, List.map_nil]); first | done | rfl | (simp only [List.length_drop, List.length_take]; rfl)) ?_; (with_reducible refine (spec_l1Residue.calls k t128 a2 t135 _ A15.out).mono ?_); rintro e w' ⟨rfl, ⟨nd, rfl⟩⟩; refine ⟨_, rfl, ?_⟩))
         go_ret
         exact ⟨by first | rfl | (simp; done) | (simp [*]; done), by repeat (first | exact Drawn0.refl _ | apply Drawn0.step)⟩
     · rw [if_neg c14] at H
       have c14b0 : ((Int.tmod t129 2) == 1) = false := beq_eq_false_iff_ne.mpr c14
       have c14b1 : ((Int.tmod t129 2) != 1) = true := bne_iff_ne.mpr c14
       by_cases c18 : (Int.tmod t127 2) = 1
       · rw [if_pos c18] at H
         have c18b0 : ((Int.tmod t127 2) == 1) = true := beq_iff_eq.mpr c18
         have c18b1 : ((Int.tmod t127 2) != 1) = false := bne_eq_false_iff_eq.mpr c18
         clear c18
         replace H := Option.bind_eq_some_iff.mp H
         obtain ⟨t137, A190, H⟩ := H
         replace H : (some (wrap64 (t134 * t137))) = some r := H
         have A19 := Aside0.mk A190
         clear A190
         obtain rfl := Option.some.inj H
         go_enter Try.func126, Try.ntmps126
         go_wp2_with (first | ((with_reducible refine gate_callee (f := 136) rfl ?_); refine goesL_ (some 23) rfl rfl Try.func136 (by kernel_rfl) rfl #[.int .i64 a0, .int .i64 a2] rfl (by (try simp only [List.map_toArray, List.map_cons, List.map_nil]); first | done | rfl | (simp only [List.length_drop, List.length_take]; rfl)) ?_; (with_reducible refine (spec_l1Valuation.calls k a0 a2 t127 t128 _ A7.out).mono ?_); rintro e w' ⟨rfl, ⟨nd, rfl⟩⟩; refine ⟨_, rfl, ?_⟩) | ((with_reducible refine gate_callee (f := 136) rfl ?_); refine goesL_ (some 29) rfl rfl Try.func136 (by kernel_rfl) rfl #[.int .i64 a1, .int .i64 a2] rfl (by (try simp only [List.map_toArray, List.map_cons, List.map_nil]); first | done | rfl | (simp only [List.length_drop, List.length_take]; rfl)) ?_; (with_reducible refine (spec_l1Valuation.calls k a1 a2 t129 t130 _ A8.out).mono ?_); rintro e w' ⟨rfl, ⟨nd, rfl⟩⟩; refine ⟨_, rfl, ?_⟩) | ((with_reducible refine gate_callee (f := 138) rfl ?_); refine goesL_ (some 69) rfl rfl Try.func138 (by kernel_rfl) rfl #[.int .i64 (wrap64 ((wrap64 (t127 * t129)) * (wrap64 (Int.tdiv (wrap64 (a2 - 1)) 2))))] rfl (by (try simp only [List.map_toArray, List.map_cons, List.map_nil]); first | done | rfl | (simp only [List.length_drop, List.length_take]; rfl)) ?_; (with_reducible refine (spec_l3Half.calls (wrap64 ((wrap64 (t127 * t129)) * (wrap64 (Int.tdiv (wrap64 (a2 - 1)) 2)))) t134 _ A13.out).mono ?_); rintro e w' ⟨rfl, ⟨nd, rfl⟩⟩; refine ⟨_, rfl, ?_⟩) | ((with_reducible refine gate_callee (f := 137) rfl ?_); refine goesL_ (some 84) rfl rfl Try.func137 (by kernel_rfl) rfl #[.int .i64 t130, .int .i64 a2] rfl (by (try simp only [List.map_toArray, List.map_cons, List.map_nil]); first | done | rfl | (simp only [List.length_drop, List.length_take]; rfl)) ?_; (with_reducible refine (spec_l1Residue.calls k t130 a2 t137 _ A19.out).mono ?_); rintro e w' ⟨rfl, ⟨nd, rfl⟩⟩; refine ⟨_, rfl, ?_⟩))
         go_ret
         exact ⟨by first | rfl | (simp; done) | (simp [*]; done), by repeat (first | exact Drawn0.refl _ | apply Drawn0.step)⟩
       · rw [if_neg c18] at H
         have c18b0 : ((Int.tmod t127 2) == 1) = false := beq_eq_false_iff_ne.mpr c18
         have c18b1 : ((Int.tmod t127 2) != 1) = true := bne_iff_ne.mpr c18
         obtain rfl := Option.some.inj H
         go_enter Try.func126, Try.ntmps126
         go_wp2_with (first | ((with_reducible refine gate_callee (f := 136) rfl ?_); refine goesL_ (some 23) rfl rfl Try.func136 (by kernel_rfl) rfl #[.int .i64 a0, .int .i64 a2] rfl (by (try simp only [List.map_toArray, List.map_cons, List.map_nil]); first | done | rfl | (simp only [List.length_drop, List.length_take]; rfl)) ?_; (with_reducible refine (spec_l1Valuation.calls k a0 a2 t127 t128 _ A7.out).mono ?_); rintro e w' ⟨rfl, ⟨nd, rfl⟩⟩; refine ⟨_, rfl, ?_⟩) | ((with_reducible refine gate_callee (f := 136) rfl ?_); refine goesL_ (some 29) rfl rfl Try.func136 (by kernel_rfl) rfl #[.int .i64 a1, .int .i64 a2] rfl (by (try simp only [List.map_toArray, List.map_cons, List.map_nil]); first | done | rfl | (simp only [List.length_drop, List.length_take]; rfl)) ?_; (with_reducible refine (spec_l1Valuation.calls k a1 a2 t129 t130 _ A8.out).mono ?_); rintro e w' ⟨rfl, ⟨nd, rfl⟩⟩; refine ⟨_, rfl, ?_⟩) | ((with_reducible refine gate_callee (f := 138) rfl ?_); refine goesL_ (some 69) rfl rfl Try.func138 (by kernel_rfl) rfl #[.int .i64 (wrap64 ((wrap64 (t127 * t129)) * (wrap64 (Int.tdiv (wrap64 (a2 - 1)) 2))))] rfl (by (try simp only [List.map_toArray, List.map_cons, List.map_nil]); first | done | rfl | (simp only [List.length_drop, List.length_take]; rfl)) ?_; (with_reducible refine (spec_l3Half.calls (wrap64 ((wrap64 (t127 * t129)) * (wrap64 (Int.tdiv (wrap64 (a2 - 1)) 2)))) t134 _ A13.out).mono ?_); rintro e w' ⟨rfl, ⟨nd, rfl⟩⟩; refine ⟨_, rfl, ?_⟩))
         go_ret
         exact ⟨by first | rfl | (simp; done) | (simp [*]; done), by repeat (first | exact Drawn0.refl _ | apply Drawn0.step)⟩

/-! ### spec_SymbolPlaces: function 108 -/
def spec_SymbolPlaces.l0 : Nat → Int → Int → List Int → List Int → Int → Option (List Int)
 | 0, _, _, _, _, _ => none
 | k + 1, x0, x1, x5, x6, x7 => if x7 < (x6.length : Int) then (if 0 ≤ x7 then ((spec_l3Symbol.f k x0 x1 (rd x6 x7)).bind fun t146 => (if t146 = (-1) then (if x5.length < 17592186044416 then (spec_SymbolPlaces.l0 k x0 x1 (x5 ++ [rd x6 x7]) x6 (wrap64 (x7 + 1))) else (none)) else (spec_SymbolPlaces.l0 k x0 x1 x5 x6 (wrap64 (x7 + 1))))) else (none)) else (some x5)
def spec_SymbolPlaces.f (k : Nat) (a0 : Int) (a1 : Int) : Option (List Int) := (some (([] : List Int) : List Int)).bind fun y138 => ((spec_l3Ok.f a0 a1).bind fun t141 => (if t141 = true then ((spec_l2Places.f k (wrap64 (a0 * a1))).bind fun t142 => (spec_SymbolPlaces.l0 k a0 a1 y138 t142 0)) else (some y138)))
theorem spec_SymbolPlaces.mono_l : ∀ k, (∀ y0 y1 y2 y3 y4, LeO (spec_SymbolPlaces.l0 k y0 y1 y2 y3 y4) (spec_SymbolPlaces.l0 (k + 1) y0 y1 y2 y3 y4))
 | 0 => fun _ _ _ _ _ r h => by simp [spec_SymbolPlaces.l0] at h
 | k + 1 => by
  have ih0 := spec_SymbolPlaces.mono_l k
  · intro y0 y1 y2 y3 y4
    unfold spec_SymbolPlaces.l0
    repeat' first
    | (with_reducible exact ih0 _ _ _ _ _)
    | (with_reducible exact spec_l2Places.mono _ _)
    | (with_reducible exact spec_l3Symbol.mono _ _ _ _)
    | (with_reducible exact LeO.refl _)
    | (with_reducible exact LeO.none _)
    | (with_reducible refine LeO.ite ?_ ?_)
    | (with_reducible refine LeO.bind ?_ (fun _ => ?_))
    | exact ih0 _ _ _ _ _
    | exact spec_l2Places.mono _ _
    | exact spec_l3Symbol.mono _ _ _ _
    | exact LeO.none _
    | refine LeO.ite ?_ ?_
    | refine LeO.bind ?_ (fun _ => ?_)
theorem spec_SymbolPlaces.mono : ∀ a0 a1 k, LeO (spec_SymbolPlaces.f k a0 a1) (spec_SymbolPlaces.f (k + 1) a0 a1) := by
 intro a0 a1 k
 have ih0 := spec_SymbolPlaces.mono_l k
 unfold spec_SymbolPlaces.f
 repeat' first
  | (with_reducible exact ih0 _ _ _ _ _)
  | (with_reducible exact spec_l2Places.mono _ _)
  | (with_reducible exact spec_l3Symbol.mono _ _ _ _)
  | (with_reducible exact LeO.refl _)
  | (with_reducible exact LeO.none _)
  | (with_reducible refine LeO.ite ?_ ?_)
  | (with_reducible refine LeO.bind ?_ (fun _ => ?_))
  | exact ih0 _ _ _ _ _
  | exact spec_l2Places.mono _ _
  | exact spec_l3Symbol.mono _ _ _ _
  | exact LeO.none _
  | refine LeO.ite ?_ ?_
  | refine LeO.bind ?_ (fun _ => ?_)
set_option maxHeartbeats 8000000 in
set_option maxRecDepth 100000 in
theorem spec_SymbolPlaces.calls (k : Nat) (a0 : Int) (a1 : Int) (r : List Int) (w : World) (h : spec_SymbolPlaces.f k a0 a1 = some r) :
 Calls Try.prog 108 #[.int .i64 a0, .int .i64 a1] w fun e w' => ∃ v0_ : Value, e = .returned (v0_) ∧ Kd.R (Kd.int .i64) 3 w' w.heap.size (fun _ => True) v0_ r ∧ Below w.heap.size w w' := by
 have HB := Aside0.mk (Below.refl w.heap.size w)
 have H : ((some (([] : List Int) : List Int)).bind fun y138 => ((spec_l3Ok.f a0 a1).bind fun t141 => (if t141 = true then ((spec_l2Places.f k (wrap64 (a0 * a1))).bind fun t142 => (spec_SymbolPlaces.l0 k a0 a1 y138 t142 0)) else (some y138)))) = some r := h
 clear h
 obtain ⟨y138, hy138⟩ : ∃ y_ : List Int, y_ = (([] : List Int)) := ⟨_, rfl⟩
 replace H : ((spec_l3Ok.f a0 a1).bind fun t141 => (if t141 = true then ((spec_l2Places.f k (wrap64 (a0 * a1))).bind fun t142 => (spec_SymbolPlaces.l0 k a0 a1 y138 t142 0)) else (some y138))) = some r := by first | (rw [hy138]; with_reducible exact H) | (have H2_ := (Option.bind_some _ _).symm.trans H; rw [hy138]; with_reducible exact H2_) | (have H2_ := (Option.bind_some _ _).symm.trans H; with_reducible exact H2_) | with_reducible exact H | (rw [hy138]; exact H) | exact H
 have Ny138 := Aside0.mk hy138
 clear hy138
 replace H := Option.bind_eq_some_iff.mp H
 obtain ⟨t141, A30, H⟩ := H
 replace H : (if t141 = true then ((spec_l2Places.f k (wrap64 (a0 * a1))).bind fun t142 => (spec_SymbolPlaces.l0 k a0 a1 y138 t142 0)) else (some y138)) = some r := H
 have A3 := Aside0.mk A30
 clear A30
 by_cases c4 : t141 = true
 · subst c4
   have H1 : ((spec_l2Places.f k (wrap64 (a0 * a1))).bind fun t142 => (spec_SymbolPlaces.l0 k a0 a1 y138 t142 0)) = some r := by rw [if_pos rfl] at H; exact H
   clear H
   have H := H1
   clear H1
   replace H := Option.bind_eq_some_iff.mp H
   obtain ⟨t142, A50, H⟩ := H
   replace H : (spec_SymbolPlaces.l0 k a0 a1 y138 t142 0) = some r := H
   have A5 := Aside0.mk A50
   clear A50
   have H' := Aside0.mk H
   clear H
   go_enter Try.func108, Try.ntmps108
   go_wp2_with (first | ((with_reducible refine gate_dst (N := 8) rfl ?_); refine Kd.R_lit (Kd.int .i64) _ 3 ?hg (N := 8) ?hd (xs := ([] : List Int)) (inner := []) (ok := fun _ => True) (okp := fun _ => True) ?hr ?hp (fun _ hk => hk) trivial (Below.refl _ _) (Nat.le_refl _) (by simp) ?_; (case hd => rfl); (case hg => rfl); (case hr => first | (go_simp; done) | (go_simp; rfl)); (case hp => exact (Reps.none _ _)); intro v139 w6 ho7 hb hg_ hnew_; clear hg_ hnew_; (first | rw [← Ny138.out] at ho7 | (simp only [Int.reduceToNat] at ho7; rw [← Ny138.out] at ho7)); have n0_ := Aside0.mk (Kd.R_lower ho7 (below_size (by repeat (first | (with_reducible first | exact HB.out | apply below_alloc | apply pw_below_drewN | apply below_drew1) | exact HB.out)))); have n1_ := Aside0.mk (below_step (by repeat (first | (with_reducible first | exact HB.out | apply below_alloc | apply pw_below_drewN | apply below_drew1) | exact HB.out)) hb); clear HB; have HO140 := n0_; have HB := n1_; clear n0_ n1_; clear hb ho7) | ((with_reducible refine gate_callee (f := 107) rfl ?_); refine goesL_ (some 11) rfl rfl Try.func107 (by kernel_rfl) rfl #[.int .i64 a0, .int .i64 a1] rfl (by (try simp only [List.map_toArray, List.map_cons, List.map_nil]); first | done | rfl | (simp only [List.length_drop, List.length_take]; rfl)) ?_; (with_reducible refine (spec_l3Ok.calls a0 a1 true _ A3.out).mono ?_); rintro e w' ⟨rfl, ⟨nd, rfl⟩⟩; refine ⟨_, rfl, ?_⟩) | ((with_reducible refine gate_callee (f := 63) rfl ?_); refine goesL_ (some 17) rfl rfl Try.func63 (by kernel_rfl) rfl #[.int .i64 (wrap64 (a0 * a1))] rfl (by (try simp only [List.map_toArray, List.map_cons, List.map_nil]); first | done | rfl | (simp only [List.length_drop, List.length_take]; rfl)) ?_; (with_reducible refine (spec_l2Places.calls k (wrap64 (a0 * a1)) t142 _ A5.out).mono ?_); rintro e w8 ⟨v143, rfl, ho0, hb⟩; refine ⟨_, rfl, ?_⟩; have n0_ := Aside0.mk (Kd.R_elder' (by (with_reducible repeat (first | apply Kd.R_alloc | apply Kd.R_drewN | apply Kd.R_drew)); exact HO140.out) (Kd.R_base ho0) hb); have n1_ := Aside0.mk (Kd.R_lower (Kd.R_new' ho0 (Kd.R_lt (by (with_reducible repeat (first | apply Kd.R_alloc | apply Kd.R_drewN | apply Kd.R_drew)); exact HO140.out))) (below_size (by repeat (first | (with_reducible first | exact HB.out | apply below_alloc | apply pw_below_drewN | apply below_drew1) | exact HB.out)))); have n2_ := Aside0.mk (below_step (by repeat (first | (with_reducible first | exact HB.out | apply below_alloc | apply pw_below_drewN | apply below_drew1) | exact HB.out)) hb); clear HO140; clear HB; have HO140 := n0_; have HO144 := n1_; have HB := n2_; clear n0_ n1_ n2_; (try clear hb); (try clear hb2); (try clear hk); (try clear hi); (try clear ho0)))
   go_loopg [5, 7] k (fun kq v5 v7 w' => ∃ (x5_1 : List Int) (x7_1 : Int), v7 = .int .i64 x7_1 ∧ Aside0 (spec_SymbolPlaces.l0 kq a0 a1 x5_1 t142 x7_1 = some r) ∧ Aside0 (kq ≤ k) ∧ Aside0 (Kd.R (Kd.int .i64) 3 w' w.heap.size (fun k_ => some k_ ≠ (v143 : Value).ownBlock) v5 x5_1) ∧ Aside0 (Kd.R (Kd.int .i64) 3 w' w.heap.size (fun k_ => some k_ ≠ (v5 : Value).ownBlock) v143 t142) ∧ Aside0 (Below w.heap.size w w'))
   case atStart => exact ⟨(y138), (0), (by first | rfl | (simp; done) | (simp [*]; done)), H', ⟨Nat.le_refl _⟩, ⟨by (with_reducible repeat (first | apply Kd.R_alloc | apply Kd.R_drewN | apply Kd.R_drew)); exact Kd.R_mono HO140.out (fun _ hk => hk.2)⟩, ⟨by (with_reducible repeat (first | apply Kd.R_alloc | apply Kd.R_drewN | apply Kd.R_drew)); exact Kd.R_mono HO144.out (fun _ hk => hk.2)⟩, ⟨by repeat (first | (with_reducible first | exact HB.out | apply below_alloc | apply pw_below_drewN | apply below_drew1) | exact HB.out)⟩⟩
   case round =>
    clear H'
    try clear c1
    try clear p2
    try clear c4
    try clear c6
    try clear p6
    obtain ⟨x5_1, x7_1, rfl, HA, HK1, HO_5, HO_6, HB⟩ := hrel
    cases gk with
    | zero => exact absurd HA.out (by simp [spec_SymbolPlaces.l0])
    | succ k1 =>
     have H := HA.out
     clear HA
     simp only [spec_SymbolPlaces.l0] at H
     by_cases c9 : x7_1 < (t142.length : Int)
     · rw [if_pos c9] at H
       have c9b0 : decide (x7_1 < (t142.length : Int)) = true := decide_eq_true c9
       clear c9
       by_cases c10 : 0 ≤ x7_1
       · rw [if_pos c10] at H
         have c10b0 : decide (0 ≤ x7_1) = true := decide_eq_true c10
         clear c10
         replace H := Option.bind_eq_some_iff.mp H
         obtain ⟨t146, A110, H⟩ := H
         replace H : (if t146 = (-1) then (if x5_1.length < 17592186044416 then (spec_SymbolPlaces.l0 k1 a0 a1 (x5_1 ++ [rd t142 x7_1]) t142 (wrap64 (x7_1 + 1))) else (none)) else (spec_SymbolPlaces.l0 k1 a0 a1 x5_1 t142 (wrap64 (x7_1 + 1)))) = some r := H
         have A11 := Aside0.mk A110
         clear A110
         by_cases c12 : t146 = (-1)
         · rw [if_pos c12] at H
           have c12b0 : (t146 == (-1)) = true := beq_iff_eq.mpr c12
           have c12b1 : (t146 != (-1)) = false := bne_eq_false_iff_eq.mpr c12
           clear c12
           by_cases c13 : x5_1.length < 17592186044416
           · rw [if_pos c13] at H
             have LMc13 := Aside0.mk c13
             clear c13
             obtain ⟨y148, hy148⟩ : ∃ y_ : List Int, y_ = (x5_1 ++ [rd t142 x7_1]) := ⟨_, rfl⟩
             replace H : (spec_SymbolPlaces.l0 k1 a0 a1 y148 t142 (wrap64 (x7_1 + 1))) = some r := by first | (rw [hy148]; with_reducible exact H) | (have H2_ := (Option.bind_some _ _).symm.trans H; rw [hy148]; with_reducible exact H2_) | (have H2_ := (Option.bind_some _ _).symm.trans H; with_reducible exact H2_) | with_reducible exact H | (rw [hy148]; exact H) | exact H
             have Ny148 := Aside0.mk hy148
             clear hy148
             have H' := Aside0.mk H
             clear H
             obtain ⟨Ao14, co14, eo14⟩ := Kd.R_slice HO_6.out
             subst eo14
             have p145 : 0 ≤ (x7_1 : Int) := of_decide_eq_true (by first | (with_reducible assumption) | assumption)
             have q145 : x7_1 < (t142.length : Int) := of_decide_eq_true (by first | (with_reducible assumption) | assumption)
             obtain ⟨ad145, e145, hx145_0⟩ := Kd.at_int (Kd.R_reads' HO_6.out).2.2 x7_1 p145 q145
             cases e145
             replace p145 := eq_true p145
             replace q145 := eq_true q145
             go_wp2_with (first | ((with_reducible refine gate_callee (f := 126) rfl ?_); refine goesL_ (some 30) rfl rfl Try.func126 (by kernel_rfl) rfl #[.int .i64 a0, .int .i64 a1, .int .i64 (rd t142 x7_1)] rfl (by (try simp only [List.map_toArray, List.map_cons, List.map_nil]); first | done | rfl | (simp only [List.length_drop, List.length_take]; rfl)) ?_; (with_reducible refine (spec_l3Symbol.calls k1 a0 a1 (rd t142 x7_1) t146 _ A11.out).mono ?_); rintro e w' ⟨rfl, ⟨nd, rfl⟩⟩; refine ⟨_, rfl, ?_⟩; have p147 : 0 ≤ (x7_1 : Int) := of_decide_eq_true (by first | (with_reducible assumption) | assumption); have q147 : x7_1 < (t142.length : Int) := of_decide_eq_true (by first | (with_reducible assumption) | assumption); obtain ⟨ad147, e147, hx147_0⟩ := Kd.at_int (Kd.R_reads' HO_6.out).2.2 x7_1 p147 q147; obtain rfl : ad145 = ad147 := (by injection e147); replace p147 := eq_true p147; replace q147 := eq_true q147) | ((with_reducible refine gate_builtin (b := .append) (xs := #[.tmp 32, .tmp 37]) rfl ?_); at_builtin; refine Kd.R_append (Kd.int .i64) (w0 := w) w.heap.size rfl (.tmp 32) (.tmp 37) 23 3 (.int .i64 0) 8 rfl Try.underlying23 info3 rfl (by decide) (by omega) u5 x5_1 (rd t142 x7_1) [.int .i64 (rd t142 x7_1)] (fun k_ => some k_ ≠ (.slice (some ad145) t142.length co14 : Value).ownBlock) (fun _ => False) rfl rfl ?aP (fun _ hk => hk.elim) ?aF ?aO ?aB ?aS ?aL ?_; (case aP => exact rfl); (case aB => exact (by repeat (first | (with_reducible first | exact HB.out | apply below_alloc | apply pw_below_drewN | apply below_drew1) | exact HB.out))); (case aF => exact (fun k_ hk => Kd.fresh' (Kd.R_lt (by (with_reducible repeat (first | apply Kd.R_alloc | apply Kd.R_drewN | apply Kd.R_drew)); exact HO_6.out)) k_ hk)); (case aO => exact (by (with_reducible repeat (first | apply Kd.R_alloc | apply Kd.R_drewN | apply Kd.R_drew)); exact HO_5.out)); (case aS => exact (below_size (by repeat (first | (with_reducible first | exact HB.out | apply below_alloc | apply pw_below_drewN | apply below_drew1) | exact HB.out)))); (case aL => have := LMc13.out; omega); intro v149 w15 ho hb hg hat; rw [← Ny148.out] at ho; have n0_ := Aside0.mk (Kd.R_after (ok := (fun _ => True)) (by (with_reducible repeat (first | apply Kd.R_alloc | apply Kd.R_drewN | apply Kd.R_drew)); exact Kd.R_mono HO_6.out (fun _ hk => ⟨trivial, hk⟩)) hg hat); have n1_ := Aside0.mk (hb); have n2_ := Aside0.mk (ho); clear HO_6; clear HB; clear HO_5; have HO_6 := n0_; have HB := n1_; have HO150 := n2_; clear n0_ n1_ n2_; clear ho hb hg hat))
             go_roundg k1
             case measure => have := HK1.out; omega
             case rel => exact ⟨(y148), (wrap64 (x7_1 + 1)), (by first | rfl | (simp; done) | (simp [*]; done)), H', ⟨by have := HK1.out; omega⟩, ⟨by (with_reducible repeat (first | apply Kd.R_alloc | apply Kd.R_drewN | apply Kd.R_drew)); exact HO150.out⟩, ⟨by (with_reducible repeat (first | apply Kd.R_alloc | apply Kd.R_drewN | apply Kd.R_drew)); exact Kd.R_mono HO_6.out (fun _ hk => hk.2)⟩, ⟨by repeat (first | (with_reducible first | exact HB.out | apply below_alloc | apply pw_below_drewN | apply below_drew1) | exact HB.out)⟩⟩
           · rw [if_neg c13] at H
             exact absurd H (by simp)
         · rw [if_neg c12] at H
           have c12b0 : (t146 == (-1)) = false := beq_eq_false_iff_ne.mpr c12
           have c12b1 : (t146 != (-1)) = true := bne_iff_ne.mpr c12
           have H' := Aside0.mk H
           clear H
           obtain ⟨Ao16, co16, eo16⟩ := Kd.R_slice HO_6.out
           subst eo16
           have p145 : 0 ≤ (x7_1 : Int) := of_decide_eq_true (by first | (with_reducible assumption) | assumption)
           have q145 : x7_1 < (t142.length : Int) := of_decide_eq_true (by first | (with_reducible assumption) | assumption)
           obtain ⟨ad145, e145, hx145_0⟩ := Kd.at_int (Kd.R_reads' HO_6.out).2.2 x7_1 p145 q145
           cases e145
           replace p145 := eq_true p145
           replace q145 := eq_true q145
           go_wp2_with (first | ((with_reducible refine gate_callee (f := 126) rfl ?_); refine goesL_ (some 30) rfl rfl Try.func126 (by kernel_rfl) rfl #[.int .i64 a0, .int .i64 a1, .int .i64 (rd t142 x7_1)] rfl (by (try simp only [List.map_toArray, List.map_cons, List.map_nil]); first | done | rfl | (simp only [List.length_drop, List.length_take]; rfl)) ?_; (with_reducible refine (spec_l3Symbol.calls k1 a0 a1 (rd t142 x7_1) t146 _ A11.out).mono ?_); rintro e w' ⟨rfl, ⟨nd, rfl⟩⟩; refine ⟨_, rfl, ?_⟩))
           go_roundg k1
           case measure => have := HK1.out; omega
           case rel => exact ⟨(x5_1), (wrap64 (x7_1 + 1)), (by first | rfl | (simp; done) | (simp [*]; done)), H', ⟨by have := HK1.out; omega⟩, ⟨by (with_reducible repeat (first | apply Kd.R_alloc | apply Kd.R_drewN | apply Kd.R_drew)); exact HO_5.out⟩, ⟨by (with_reducible repeat (first | apply Kd.R_alloc | apply Kd.R_drewN | apply Kd.R_drew)); exact HO_6.out⟩, ⟨by repeat (first | (with_reducible first | exact HB.out | apply below_alloc | apply pw_below_drewN | apply below_drew1) | exact HB.out)⟩⟩
       · rw [if_neg c10] at H
         exact absurd H (by simp)
     · rw [if_neg c9] at H
       have c9b0 : decide (x7_1 < (t142.length : Int)) = false := decide_eq_false c9
       clear c9
       obtain rfl := Option.some.inj H
       obtain ⟨Ao17, co17, eo17⟩ := Kd.R_slice HO_6.out
       subst eo17
       go_wp2
       go_ret
       exact ⟨_, by first | rfl | (simp [errW_none, errW_some] <;> rfl) | (simp [*, errW_none, errW_some] <;> rfl), by (with_reducible repeat (first | apply Kd.R_alloc | apply Kd.R_drewN | apply Kd.R_drew)); exact Kd.R_mono HO_5.out (fun _ hk => trivial), by repeat (first | (with_reducible first | exact HB.out | apply below_alloc | apply pw_below_drewN | apply below_drew1) | exact HB.out)⟩
 · replace c4 := Bool.eq_false_iff.mpr c4
   subst c4
   have H1 : (some y138) = some r := by rw [if_neg (show ¬ (false = true) by decide)] at H; exact H
   clear H
   have H := H1
   clear H1
   obtain rfl := Option.some.inj H
   go_enter Try.func108, Try.ntmps108
   go_wp2_with (first | ((with_reducible refine gate_dst (N := 8) rfl ?_); refine Kd.R_lit (Kd.int .i64) _ 3 ?hg (N := 8) ?hd (xs := ([] : List Int)) (inner := []) (ok := fun _ => True) (okp := fun _ => True) ?hr ?hp (fun _ hk => hk) trivial (Below.refl _ _) (Nat.le_refl _) (by simp) ?_; (case hd => rfl); (case hg => rfl); (case hr => first | (go_simp; done) | (go_simp; rfl)); (case hp => exact (Reps.none _ _)); intro v139 w18 ho19 hb hg_ hnew_; clear hg_ hnew_; (first | rw [← Ny138.out] at ho19 | (simp only [Int.reduceToNat] at ho19; rw [← Ny138.out] at ho19)); have n0_ := Aside0.mk (Kd.R_lower ho19 (below_size (by repeat (first | (with_reducible first | exact HB.out | apply below_alloc | apply pw_below_drewN | apply below_drew1) | exact HB.out)))); have n1_ := Aside0.mk (below_step (by repeat (first | (with_reducible first | exact HB.out | apply below_alloc | apply pw_below_drewN | apply below_drew1) | exact HB.out)) hb); clear HB; have HO140 := n0_; have HB := n1_; clear n0_ n1_; clear hb ho19) | ((with_reducible refine gate_callee (f := 107) rfl ?_); refine goesL_ (some 11) rfl rfl Try.func107 (by kernel_rfl) rfl #[.int .i64 a0, .int .i64 a1] rfl (by (try simp only [List.map_toArray, List.map_cons, List.map_nil]); first | done | rfl | (simp only [List.length_drop, List.length_take]; rfl)) ?_; (with_reducible refine (spec_l3Ok.calls a0 a1 false _ A3.out).mono ?_); rintro e w' ⟨rfl, ⟨nd, rfl⟩⟩; refine ⟨_, rfl, ?_⟩))
   go_ret
   exact ⟨_, by first | rfl | (simp [errW_none, errW_some] <;> rfl) | (simp [*, errW_none, errW_some] <;> rfl), by (with_reducible repeat (first | apply Kd.R_alloc | apply Kd.R_drewN | apply Kd.R_drew)); exact HO140.out, by repeat (first | (with_reducible first | exact HB.out | apply below_alloc | apply pw_below_drewN | apply below_drew1) | exact HB.out)⟩

/-! ### spec_SymbolSame: function 53 -/
mutual
def spec_SymbolSame.j0 : Nat → Int → Int → Int → Int → Bool → Option (Bool)
 | 0, _, _, _, _, _ => none
 | k + 1, x0, x1, x2, x3, x21 => if x21 = true then (some false) else ((spec_SymbolPlaces.f k x0 x1).bind fun t153 => ((spec_SymbolPlaces.f k x2 x3).bind fun t156 => (if (t153.length : Int) = (t156.length : Int) then (spec_SymbolSame.l0 k t153 t156 0) else (some false))))
def spec_SymbolSame.l0 : Nat → List Int → List Int → Int → Option (Bool)
 | 0, _, _, _ => none
 | k + 1, x9, x10, x11 => if x11 < (x9.length : Int) then (if 0 ≤ x11 then (if x11 < (x10.length : Int) then (if (rd x9 x11) = (rd x10 x11) then (spec_SymbolSame.l0 k x9 x10 (wrap64 (x11 + 1))) else (some false)) else (none)) else (none)) else (some true)
end
def spec_SymbolSame.f (k : Nat) (a0 : Int) (a1 : Int) (a2 : Int) (a3 : Int) : Option (Bool) := (spec_l3Ok.f a0 a1).bind fun t151 => (if t151 = true then ((spec_l3Ok.f a2 a3).bind fun t152 => (spec_SymbolSame.j0 k a0 a1 a2 a3 (!t152))) else (spec_SymbolSame.j0 k a0 a1 a2 a3 true))
theorem spec_SymbolSame.mono_l : ∀ k, (∀ y0 y1 y2 y3 y4, LeO (spec_SymbolSame.j0 k y0 y1 y2 y3 y4) (spec_SymbolSame.j0 (k + 1) y0 y1 y2 y3 y4)) ∧ (∀ y0 y1 y2, LeO (spec_SymbolSame.l0 k y0 y1 y2) (spec_SymbolSame.l0 (k + 1) y0 y1 y2))
 | 0 => ⟨fun _ _ _ _ _ r h => by simp [spec_SymbolSame.j0] at h, fun _ _ _ r h => by simp [spec_SymbolSame.l0] at h⟩
 | k + 1 => by
  obtain ⟨ih0, ih1⟩ := spec_SymbolSame.mono_l k
  refine ⟨?_, ?_⟩
  · intro y0 y1 y2 y3 y4
    unfold spec_SymbolSame.j0
    repeat' first
    | (with_reducible exact ih0 _ _ _ _ _)
    | (with_reducible exact ih1 _ _ _)
    | (with_reducible exact spec_SymbolPlaces.mono _ _ _)
    | (with_reducible exact LeO.refl _)
    | (with_reducible exact LeO.none _)
    | (with_reducible refine LeO.ite ?_ ?_)
    | (with_reducible refine LeO.bind ?_ (fun _ => ?_))
    | exact ih0 _ _ _ _ _
    | exact ih1 _ _ _
    | exact spec_SymbolPlaces.mono _ _ _
    | exact LeO.none _
    | refine LeO.ite ?_ ?_
    | refine LeO.bind ?_ (fun _ => ?_)
  · intro y0 y1 y2
    unfold spec_SymbolSame.l0
    repeat' first
    | (with_reducible exact ih0 _ _ _ _ _)
    | (with_reducible exact ih1 _ _ _)
    | (with_reducible exact spec_SymbolPlaces.mono _ _ _)
    | (with_reducible exact LeO.refl _)
    | (with_reducible exact LeO.none _)
    | (with_reducible refine LeO.ite ?_ ?_)
    | (with_reducible refine LeO.bind ?_ (fun _ => ?_))
    | exact ih0 _ _ _ _ _
    | exact ih1 _ _ _
    | exact spec_SymbolPlaces.mono _ _ _
    | exact LeO.none _
    | refine LeO.ite ?_ ?_
    | refine LeO.bind ?_ (fun _ => ?_)
theorem spec_SymbolSame.mono : ∀ a0 a1 a2 a3 k, LeO (spec_SymbolSame.f k a0 a1 a2 a3) (spec_SymbolSame.f (k + 1) a0 a1 a2 a3) := by
 intro a0 a1 a2 a3 k
 obtain ⟨ih0, ih1⟩ := spec_SymbolSame.mono_l k
 unfold spec_SymbolSame.f
 repeat' first
  | (with_reducible exact ih0 _ _ _ _ _)
  | (with_reducible exact ih1 _ _ _)
  | (with_reducible exact spec_SymbolPlaces.mono _ _ _)
  | (with_reducible exact LeO.refl _)
  | (with_reducible exact LeO.none _)
  | (with_reducible refine LeO.ite ?_ ?_)
  | (with_reducible refine LeO.bind ?_ (fun _ => ?_))
  | exact ih0 _ _ _ _ _
  | exact ih1 _ _ _
  | exact spec_SymbolPlaces.mono _ _ _
  | exact LeO.none _
  | refine LeO.ite ?_ ?_
  | refine LeO.bind ?_ (fun _ => ?_)
set_option maxHeartbeats 8000000 in
set_option maxRecDepth 100000 in
theorem spec_SymbolSame.calls (k : Nat) (a0 : Int) (a1 : Int) (a2 : Int) (a3 : Int) (r : Bool) (w : World) (h : spec_SymbolSame.f k a0 a1 a2 a3 = some r) :
 Calls Try.prog 53 #[.int .i64 a0, .int .i64 a1, .int .i64 a2, .int .i64 a3] w fun e w' => e = .returned (.bool r) ∧ Below w.heap.size w w' := by
 have HB := Aside0.mk (Below.refl w.heap.size w)
 have H : ((spec_l3Ok.f a0 a1).bind fun t151 => (if t151 = true then ((spec_l3Ok.f a2 a3).bind fun t152 => (spec_SymbolSame.j0 k a0 a1 a2 a3 (!t152))) else (spec_SymbolSame.j0 k a0 a1 a2 a3 true))) = some r := h
 clear h
 have HC5 := Aside0.mk H
 clear H
 go_enter Try.func53, Try.ntmps53
 go_upto_region 1 with (fail)
 repeat (go_quiet (fail); go_upto_region 1 with (fail))
 go_cut [21] (fun v21 wc => ∃ (kq : Nat) (x21_4 : Bool), v21 = .bool x21_4 ∧ Aside0 (spec_SymbolSame.j0 kq a0 a1 a2 a3 x21_4 = some r) ∧ Aside0 (kq ≤ k) ∧ Aside0 (Below w.heap.size w wc))
 case first =>
  have H := HC5.out
  clear HC5
  replace H := Option.bind_eq_some_iff.mp H
  obtain ⟨t151, A60, H⟩ := H
  replace H : (if t151 = true then ((spec_l3Ok.f a2 a3).bind fun t152 => (spec_SymbolSame.j0 k a0 a1 a2 a3 (!t152))) else (spec_SymbolSame.j0 k a0 a1 a2 a3 true)) = some r := H
  have A6 := Aside0.mk A60
  clear A60
  by_cases c7 : t151 = true
  · subst c7
    have H1 : ((spec_l3Ok.f a2 a3).bind fun t152 => (spec_SymbolSame.j0 k a0 a1 a2 a3 (!t152))) = some r := by rw [if_pos rfl] at H; exact H
    clear H
    have H := H1
    clear H1
    replace H := Option.bind_eq_some_iff.mp H
    obtain ⟨t152, A80, H⟩ := H
    replace H : (spec_SymbolSame.j0 k a0 a1 a2 a3 (!t152)) = some r := H
    have A8 := Aside0.mk A80
    clear A80
    have H' := Aside0.mk H
    clear H
    go_wp2_with (first | (go_at_call 107; (with_reducible refine (spec_l3Ok.calls a0 a1 true _ A6.out).mono ?_); rintro e w' ⟨rfl, ⟨nd, rfl⟩⟩; (try first | exact ⟨rfl, _, World.drewN_drewN _ _ _⟩ | exact ⟨rfl, _, Eq.trans (World.drewN_drewN _ _ _) (congrArg (World.drewN _) (Nat.add_assoc _ _ _))⟩)) | (go_at_call 107; (with_reducible refine (spec_l3Ok.calls a2 a3 t152 _ A8.out).mono ?_); rintro e w' ⟨rfl, ⟨nd, rfl⟩⟩; (try first | exact ⟨rfl, _, World.drewN_drewN _ _ _⟩ | exact ⟨rfl, _, Eq.trans (World.drewN_drewN _ _ _) (congrArg (World.drewN _) (Nat.add_assoc _ _ _))⟩)))
    repeat (go_quiet (first | (go_at_call 107; (with_reducible refine (spec_l3Ok.calls a0 a1 true _ A6.out).mono ?_); rintro e w' ⟨rfl, ⟨nd, rfl⟩⟩; (try first | exact ⟨rfl, _, World.drewN_drewN _ _ _⟩ | exact ⟨rfl, _, Eq.trans (World.drewN_drewN _ _ _) (congrArg (World.drewN _) (Nat.add_assoc _ _ _))⟩)) | (go_at_call 107; (with_reducible refine (spec_l3Ok.calls a2 a3 t152 _ A8.out).mono ?_); rintro e w' ⟨rfl, ⟨nd, rfl⟩⟩; (try first | exact ⟨rfl, _, World.drewN_drewN _ _ _⟩ | exact ⟨rfl, _, Eq.trans (World.drewN_drewN _ _ _) (congrArg (World.drewN _) (Nat.add_assoc _ _ _))⟩))); try go_wp2_with (first | (go_at_call 107; (with_reducible refine (spec_l3Ok.calls a0 a1 true _ A6.out).mono ?_); rintro e w' ⟨rfl, ⟨nd, rfl⟩⟩; (try first | exact ⟨rfl, _, World.drewN_drewN _ _ _⟩ | exact ⟨rfl, _, Eq.trans (World.drewN_drewN _ _ _) (congrArg (World.drewN _) (Nat.add_assoc _ _ _))⟩)) | (go_at_call 107; (with_reducible refine (spec_l3Ok.calls a2 a3 t152 _ A8.out).mono ?_); rintro e w' ⟨rfl, ⟨nd, rfl⟩⟩; (try first | exact ⟨rfl, _, World.drewN_drewN _ _ _⟩ | exact ⟨rfl, _, Eq.trans (World.drewN_drewN _ _ _) (congrArg (World.drewN _) (Nat.add_assoc _ _ _))⟩))))
    go_meet
    case rel => exact ⟨_, (!t152), (by first | rfl | (simp; done) | (simp [*]; done)), H', ⟨by first | omega | exact Nat.le_refl _⟩, ⟨by repeat (first | (with_reducible first | exact HB.out | apply below_alloc | apply pw_below_drewN | apply below_drew1) | exact HB.out)⟩⟩
  · replace c7 := Bool.eq_false_iff.mpr c7
    subst c7
    have H1 : (spec_SymbolSame.j0 k a0 a1 a2 a3 true) = some r := by rw [if_neg (show ¬ (false = true) by decide)] at H; exact H
    clear H
    have H := H1
    clear H1
    have H' := Aside0.mk H
    clear H
    go_wp2_with (first | (go_at_call 107; (with_reducible refine (spec_l3Ok.calls a0 a1 false _ A6.out).mono ?_); rintro e w' ⟨rfl, ⟨nd, rfl⟩⟩; (try first | exact ⟨rfl, _, World.drewN_drewN _ _ _⟩ | exact ⟨rfl, _, Eq.trans (World.drewN_drewN _ _ _) (congrArg (World.drewN _) (Nat.add_assoc _ _ _))⟩)))
    repeat (go_quiet (first | (go_at_call 107; (with_reducible refine (spec_l3Ok.calls a0 a1 false _ A6.out).mono ?_); rintro e w' ⟨rfl, ⟨nd, rfl⟩⟩; (try first | exact ⟨rfl, _, World.drewN_drewN _ _ _⟩ | exact ⟨rfl, _, Eq.trans (World.drewN_drewN _ _ _) (congrArg (World.drewN _) (Nat.add_assoc _ _ _))⟩))); try go_wp2_with (first | (go_at_call 107; (with_reducible refine (spec_l3Ok.calls a0 a1 false _ A6.out).mono ?_); rintro e w' ⟨rfl, ⟨nd, rfl⟩⟩; (try first | exact ⟨rfl, _, World.drewN_drewN _ _ _⟩ | exact ⟨rfl, _, Eq.trans (World.drewN_drewN _ _ _) (congrArg (World.drewN _) (Nat.add_assoc _ _ _))⟩))))
    go_meet
    case rel => exact ⟨_, (true), (by first | rfl | (simp; done) | (simp [*]; done)), H', ⟨by first | omega | exact Nat.le_refl _⟩, ⟨by repeat (first | (with_reducible first | exact HB.out | apply below_alloc | apply pw_below_drewN | apply below_drew1) | exact HB.out)⟩⟩
 case rest =>
  clear HC5
  try clear p2
  try clear c5
  try clear c7
  obtain ⟨kq, x21_4, rfl, HA, HJ4, HB⟩ := hcut
  cases kq with
  | zero => exact absurd HA.out (by simp [spec_SymbolSame.j0])
  | succ kj4 =>
   have H := HA.out
   clear HA
   simp only [spec_SymbolSame.j0] at H
   by_cases c9 : x21_4 = true
   · subst c9
     have H1 : (some false) = some r := by rw [if_pos rfl] at H; exact H
     clear H
     have H := H1
     clear H1
     obtain rfl := Option.some.inj H
     go_wp2
     repeat (go_quiet (fail); try go_wp2)
     go_ret
     exact ⟨by first | rfl | (simp [errW_none, errW_some] <;> rfl) | (simp [*, errW_none, errW_some] <;> rfl), by repeat (first | (with_reducible first | exact HB.out | apply below_alloc | apply pw_below_drewN | apply below_drew1) | exact HB.out)⟩
   · replace c9 := Bool.eq_false_iff.mpr c9
     subst c9
     have H1 : ((spec_SymbolPlaces.f kj4 a0 a1).bind fun t153 => ((spec_SymbolPlaces.f kj4 a2 a3).bind fun t156 => (if (t153.length : Int) = (t156.length : Int) then (spec_SymbolSame.l0 kj4 t153 t156 0) else (some false)))) = some r := by rw [if_neg (show ¬ (false = true) by decide)] at H; exact H
     clear H
     have H := H1
     clear H1
     replace H := Option.bind_eq_some_iff.mp H
     obtain ⟨t153, A100, H⟩ := H
     replace H : ((spec_SymbolPlaces.f kj4 a2 a3).bind fun t156 => (if (t153.length : Int) = (t156.length : Int) then (spec_SymbolSame.l0 kj4 t153 t156 0) else (some false))) = some r := H
     have A10 := Aside0.mk A100
     clear A100
     replace H := Option.bind_eq_some_iff.mp H
     obtain ⟨t156, A110, H⟩ := H
     replace H : (if (t153.length : Int) = (t156.length : Int) then (spec_SymbolSame.l0 kj4 t153 t156 0) else (some false)) = some r := H
     have A11 := Aside0.mk A110
     clear A110
     by_cases c12 : (t153.length : Int) = (t156.length : Int)
     · rw [if_pos c12] at H
       have c12b0 : ((t153.length : Int) == (t156.length : Int)) = true := beq_iff_eq.mpr c12
       have c12b1 : ((t153.length : Int) != (t156.length : Int)) = false := bne_eq_false_iff_eq.mpr c12
       have c12b2 : (t153.length == t156.length) = true := by first | simpa using c12 | (simp at c12 ⊢; omega)
       clear c12
       have H' := Aside0.mk H
       clear H
       go_wp2_with (first | (go_at_call 108; (with_reducible refine (spec_SymbolPlaces.calls kj4 a0 a1 t153 _ A10.out).mono ?_); rintro e w13 ⟨v154, rfl, ho0, hb⟩; have n0_ := Aside0.mk (Kd.R_lower ho0 (below_size (by repeat (first | (with_reducible first | exact HB.out | apply below_alloc | apply pw_below_drewN | apply below_drew1) | exact HB.out)))); have n1_ := Aside0.mk (below_step (by repeat (first | (with_reducible first | exact HB.out | apply below_alloc | apply pw_below_drewN | apply below_drew1) | exact HB.out)) hb); clear HB; have HO155 := n0_; have HB := n1_; clear n0_ n1_; (try clear hb); (try clear hb2); (try clear hk); (try clear hi); (try clear ho0)) | (go_at_call 108; (with_reducible refine (spec_SymbolPlaces.calls kj4 a2 a3 t156 _ A11.out).mono ?_); rintro e w14 ⟨v157, rfl, ho0, hb⟩; have n0_ := Aside0.mk (Kd.R_elder' (by (with_reducible repeat (first | apply Kd.R_alloc | apply Kd.R_drewN | apply Kd.R_drew)); exact HO155.out) (Kd.R_base ho0) hb); have n1_ := Aside0.mk (Kd.R_lower (Kd.R_new' ho0 (Kd.R_lt (by (with_reducible repeat (first | apply Kd.R_alloc | apply Kd.R_drewN | apply Kd.R_drew)); exact HO155.out))) (below_size (by repeat (first | (with_reducible first | exact HB.out | apply below_alloc | apply pw_below_drewN | apply below_drew1) | exact HB.out)))); have n2_ := Aside0.mk (below_step (by repeat (first | (with_reducible first | exact HB.out | apply below_alloc | apply pw_below_drewN | apply below_drew1) | exact HB.out)) hb); clear HO155; clear HB; have HO155 := n0_; have HO158 := n1_; have HB := n2_; clear n0_ n1_ n2_; (try clear hb); (try clear hb2); (try clear hk); (try clear hi); (try clear ho0); obtain ⟨Ao15, co15, eo15⟩ := Kd.R_slice HO155.out; subst eo15; obtain ⟨Ao16, co16, eo16⟩ := Kd.R_slice HO158.out; subst eo16))
       repeat (go_quiet (first | (go_at_call 108; (with_reducible refine (spec_SymbolPlaces.calls kj4 a0 a1 t153 _ A10.out).mono ?_); rintro e w13 ⟨v154, rfl, ho0, hb⟩; have n0_ := Aside0.mk (Kd.R_lower ho0 (below_size (by repeat (first | (with_reducible first | exact HB.out | apply below_alloc | apply pw_below_drewN | apply below_drew1) | exact HB.out)))); have n1_ := Aside0.mk (below_step (by repeat (first | (with_reducible first | exact HB.out | apply below_alloc | apply pw_below_drewN | apply below_drew1) | exact HB.out)) hb); clear HB; have HO155 := n0_; have HB := n1_; clear n0_ n1_; (try clear hb); (try clear hb2); (try clear hk); (try clear hi); (try clear ho0)) | (go_at_call 108; (with_reducible refine (spec_SymbolPlaces.calls kj4 a2 a3 t156 _ A11.out).mono ?_); rintro e w14 ⟨v157, rfl, ho0, hb⟩; have n0_ := Aside0.mk (Kd.R_elder' (by (with_reducible repeat (first | apply Kd.R_alloc | apply Kd.R_drewN | apply Kd.R_drew)); exact HO155.out) (Kd.R_base ho0) hb); have n1_ := Aside0.mk (Kd.R_lower (Kd.R_new' ho0 (Kd.R_lt (by (with_reducible repeat (first | apply Kd.R_alloc | apply Kd.R_drewN | apply Kd.R_drew)); exact HO155.out))) (below_size (by repeat (first | (with_reducible first | exact HB.out | apply below_alloc | apply pw_below_drewN | apply below_drew1) | exact HB.out)))); have n2_ := Aside0.mk (below_step (by repeat (first | (with_reducible first | exact HB.out | apply below_alloc | apply pw_below_drewN | apply below_drew1) | exact HB.out)) hb); clear HO155; clear HB; have HO155 := n0_; have HO158 := n1_; have HB := n2_; clear n0_ n1_ n2_; (try clear hb); (try clear hb2); (try clear hk); (try clear hi); (try clear ho0); obtain ⟨Ao15, co15, eo15⟩ := Kd.R_slice HO155.out; subst eo15; obtain ⟨Ao16, co16, eo16⟩ := Kd.R_slice HO158.out; subst eo16)); try go_wp2_with (first | (go_at_call 108; (with_reducible refine (spec_SymbolPlaces.calls kj4 a0 a1 t153 _ A10.out).mono ?_); rintro e w13 ⟨v154, rfl, ho0, hb⟩; have n0_ := Aside0.mk (Kd.R_lower ho0 (below_size (by repeat (first | (with_reducible first | exact HB.out | apply below_alloc | apply pw_below_drewN | apply below_drew1) | exact HB.out)))); have n1_ := Aside0.mk (below_step (by repeat (first | (with_reducible first | exact HB.out | apply below_alloc | apply pw_below_drewN | apply below_drew1) | exact HB.out)) hb); clear HB; have HO155 := n0_; have HB := n1_; clear n0_ n1_; (try clear hb); (try clear hb2); (try clear hk); (try clear hi); (try clear ho0)) | (go_at_call 108; (with_reducible refine (spec_SymbolPlaces.calls kj4 a2 a3 t156 _ A11.out).mono ?_); rintro e w14 ⟨v157, rfl, ho0, hb⟩; have n0_ := Aside0.mk (Kd.R_elder' (by (with_reducible repeat (first | apply Kd.R_alloc | apply Kd.R_drewN | apply Kd.R_drew)); exact HO155.out) (Kd.R_base ho0) hb); have n1_ := Aside0.mk (Kd.R_lower (Kd.R_new' ho0 (Kd.R_lt (by (with_reducible repeat (first | apply Kd.R_alloc | apply Kd.R_drewN | apply Kd.R_drew)); exact HO155.out))) (below_size (by repeat (first | (with_reducible first | exact HB.out | apply below_alloc | apply pw_below_drewN | apply below_drew1) | exact HB.out)))); have n2_ := Aside0.mk (below_step (by repeat (first | (with_reducible first | exact HB.out | apply below_alloc | apply pw_below_drewN | apply below_drew1) | exact HB.out)) hb); clear HO155; clear HB; have HO155 := n0_; have HO158 := n1_; have HB := n2_; clear n0_ n1_ n2_; (try clear hb); (try clear hb2); (try clear hk); (try clear hi); (try clear ho0); obtain ⟨Ao15, co15, eo15⟩ := Kd.R_slice HO155.out; subst eo15; obtain ⟨Ao16, co16, eo16⟩ := Kd.R_slice HO158.out; subst eo16)))
       go_loopg [11] kj4 (fun kq v11 w' => ∃ (x11_2 : Int), v11 = .int .i64 x11_2 ∧ Aside0 (spec_SymbolSame.l0 kq t153 t156 x11_2 = some r) ∧ Aside0 (kq ≤ kj4) ∧ Aside0 (Kd.R (Kd.int .i64) 3 w' w.heap.size (fun k_ => some k_ ≠ ((.slice Ao16 t156.length co16) : Value).ownBlock) (.slice Ao15 t153.length co15) t153) ∧ Aside0 (Kd.R (Kd.int .i64) 3 w' w.heap.size (fun k_ => some k_ ≠ ((.slice Ao15 t153.length co15) : Value).ownBlock) (.slice Ao16 t156.length co16) t156) ∧ Aside0 (Below w.heap.size w w'))
       case atStart => exact ⟨(0), (by first | rfl | (simp; done) | (simp [*]; done)), H', ⟨Nat.le_refl _⟩, ⟨by (with_reducible repeat (first | apply Kd.R_alloc | apply Kd.R_drewN | apply Kd.R_drew)); exact Kd.R_mono HO155.out (fun _ hk => hk.2)⟩, ⟨by (with_reducible repeat (first | apply Kd.R_alloc | apply Kd.R_drewN | apply Kd.R_drew)); exact Kd.R_mono HO158.out (fun _ hk => hk.2)⟩, ⟨by repeat (first | (with_reducible first | exact HB.out | apply below_alloc | apply pw_below_drewN | apply below_drew1) | exact HB.out)⟩⟩
       case round =>
        clear H'
        try clear c1
        try clear p2
        try clear c5
        try clear c7
        try clear c9
        try clear c12
        try clear c12b0
        try clear c12b1
        try clear c12b2
        try clear p2
        obtain ⟨x11_2, rfl, HA, HK2, HO_9, HO_10, HB⟩ := hrel
        cases gk with
        | zero => exact absurd HA.out (by simp [spec_SymbolSame.l0])
        | succ k2 =>
         have H := HA.out
         clear HA
         simp only [spec_SymbolSame.l0] at H
         by_cases c17 : x11_2 < (t153.length : Int)
         · rw [if_pos c17] at H
           have c17b0 : decide (x11_2 < (t153.length : Int)) = true := decide_eq_true c17
           clear c17
           by_cases c18 : 0 ≤ x11_2
           · rw [if_pos c18] at H
             have c18b0 : decide (0 ≤ x11_2) = true := decide_eq_true c18
             clear c18
             by_cases c19 : x11_2 < (t156.length : Int)
             · rw [if_pos c19] at H
               have c19b0 : decide (x11_2 < (t156.length : Int)) = true := decide_eq_true c19
               clear c19
               by_cases c20 : (rd t153 x11_2) = (rd t156 x11_2)
               · rw [if_pos c20] at H
                 have c20b0 : ((rd t153 x11_2) == (rd t156 x11_2)) = true := beq_iff_eq.mpr c20
                 have c20b1 : ((rd t153 x11_2) != (rd t156 x11_2)) = false := bne_eq_false_iff_eq.mpr c20
                 clear c20
                 have H' := Aside0.mk H
                 clear H
                 have p159 : 0 ≤ (x11_2 : Int) := of_decide_eq_true (by first | (with_reducible assumption) | assumption)
                 have q159 : x11_2 < (t153.length : Int) := of_decide_eq_true (by first | (with_reducible assumption) | assumption)
                 obtain ⟨ad159, e159, hx159_0⟩ := Kd.at_int (Kd.R_reads' HO_9.out).2.2 x11_2 p159 q159
                 cases e159
                 replace p159 := eq_true p159
                 replace q159 := eq_true q159
                 have p160 : 0 ≤ (x11_2 : Int) := of_decide_eq_true (by first | (with_reducible assumption) | assumption)
                 have q160 : x11_2 < (t156.length : Int) := of_decide_eq_true (by first | (with_reducible assumption) | assumption)
                 obtain ⟨ad160, e160, hx160_0⟩ := Kd.at_int (Kd.R_reads' HO_10.out).2.2 x11_2 p160 q160
                 cases e160
                 replace p160 := eq_true p160
                 replace q160 := eq_true q160
                 go_wp2
                 repeat (go_quiet (fail); try go_wp2)
                 go_roundg k2
                 case measure => have := HJ4.out; have := HK2.out; omega
                 case rel => exact ⟨(wrap64 (x11_2 + 1)), (by first | rfl | (simp; done) | (simp [*]; done)), H', ⟨by have := HJ4.out; have := HK2.out; omega⟩, ⟨by (with_reducible repeat (first | apply Kd.R_alloc | apply Kd.R_drewN | apply Kd.R_drew)); exact HO_9.out⟩, ⟨by (with_reducible repeat (first | apply Kd.R_alloc | apply Kd.R_drewN | apply Kd.R_drew)); exact HO_10.out⟩, ⟨by repeat (first | (with_reducible first | exact HB.out | apply below_alloc | apply pw_below_drewN | apply below_drew1) | exact HB.out)⟩⟩
               · rw [if_neg c20] at H
                 have c20b0 : ((rd t153 x11_2) == (rd t156 x11_2)) = false := beq_eq_false_iff_ne.mpr c20
                 have c20b1 : ((rd t153 x11_2) != (rd t156 x11_2)) = true := bne_iff_ne.mpr c20
                 obtain rfl := Option.some.inj H
                 have p159 : 0 ≤ (x11_2 : Int) := of_decide_eq_true (by first | (with_reducible assumption) | assumption)
                 have q159 : x11_2 < (t153.length : Int) := of_decide_eq_true (by first | (with_reducible assumption) | assumption)
                 obtain ⟨ad159, e159, hx159_0⟩ := Kd.at_int (Kd.R_reads' HO_9.out).2.2 x11_2 p159 q159
                 cases e159
                 replace p159 := eq_true p159
                 replace q159 := eq_true q159
                 have p160 : 0 ≤ (x11_2 : Int) := of_decide_eq_true (by first | (with_reducible assumption) | assumption)
                 have q160 : x11_2 < (t156.length : Int) := of_decide_eq_true (by first | (with_reducible assumption) | assumption)
                 obtain ⟨ad160, e160, hx160_0⟩ := Kd.at_int (Kd.R_reads' HO_10.out).2.2 x11_2 p160 q160
                 cases e160
                 replace p160 := eq_true p160
                 replace q160 := eq_true q160
                 go_wp2
                 repeat (go_quiet (fail); try go_wp2)
                 go_ret
                 exact ⟨by first | rfl | (simp [errW_none, errW_some] <;> rfl) | (simp [*, errW_none, errW_some] <;> rfl), by repeat (first | (with_reducible first | exact HB.out | apply below_alloc | apply pw_below_drewN | apply below_drew1) | exact HB.out)⟩
             · rw [if_neg c19] at H
               exact absurd H (by simp)
           · rw [if_neg c18] at H
             exact absurd H (by simp)
         · rw [if_neg c17] at H
           have c17b0 : decide (x11_2 < (t153.length : Int)) = false := decide_eq_false c17
           clear c17
           obtain rfl := Option.some.inj H
           go_wp2
           repeat (go_quiet (fail); try go_wp2)
           go_ret
           exact ⟨by first | rfl | (simp [errW_none, errW_some] <;> rfl) | (simp [*, errW_none, errW_some] <;> rfl), by repeat (first | (with_reducible first | exact HB.out | apply below_alloc | apply pw_below_drewN | apply below_drew1) | exact HB.out)⟩
     · rw [if_neg c12] at H
       have c12b0 : ((t153.length : Int) == (t156.length : Int)) = false := beq_eq_false_iff_ne.mpr c12
       have c12b1 : ((t153.length : Int) != (t156.length : Int)) = true := bne_iff_ne.mpr c12
       have c12b2 : (t153.length == t156.length) = false := by first | simpa using c12 | (simp at c12 ⊢; omega)
       obtain rfl := Option.some.inj H
       go_wp2_with (first | (go_at_call 108; (with_reducible refine (spec_SymbolPlaces.calls kj4 a0 a1 t153 _ A10.out).mono ?_); rintro e w21 ⟨v154, rfl, ho0, hb⟩; have n0_ := Aside0.mk (Kd.R_lower ho0 (below_size (by repeat (first | (with_reducible first | exact HB.out | apply below_alloc | apply pw_below_drewN | apply below_drew1) | exact HB.out)))); have n1_ := Aside0.mk (below_step (by repeat (first | (with_reducible first | exact HB.out | apply below_alloc | apply pw_below_drewN | apply below_drew1) | exact HB.out)) hb); clear HB; have HO155 := n0_; have HB := n1_; clear n0_ n1_; (try clear hb); (try clear hb2); (try clear hk); (try clear hi); (try clear ho0)) | (go_at_call 108; (with_reducible refine (spec_SymbolPlaces.calls kj4 a2 a3 t156 _ A11.out).mono ?_); rintro e w22 ⟨v157, rfl, ho0, hb⟩; have n0_ := Aside0.mk (Kd.R_elder' (by (with_reducible repeat (first | apply Kd.R_alloc | apply Kd.R_drewN | apply Kd.R_drew)); exact HO155.out) (Kd.R_base ho0) hb); have n1_ := Aside0.mk (Kd.R_lower (Kd.R_new' ho0 (Kd.R_lt (by (with_reducible repeat (first | apply Kd.R_alloc | apply Kd.R_drewN | apply Kd.R_drew)); exact HO155.out))) (below_size (by repeat (first | (with_reducible first | exact HB.out | apply below_alloc | apply pw_below_drewN | apply below_drew1) | exact HB.out)))); have n2_ := Aside0.mk (below_step (by repeat (first | (with_reducible first | exact HB.out | apply below_alloc | apply pw_below_drewN | apply below_drew1) | exact HB.out)) hb); clear HO155; clear HB; have HO155 := n0_; have HO158 := n1_; have HB := n2_; clear n0_ n1_ n2_; (try clear hb); (try clear hb2); (try clear hk); (try clear hi); (try clear ho0); obtain ⟨Ao23, co23, eo23⟩ := Kd.R_slice HO155.out; subst eo23; obtain ⟨Ao24, co24, eo24⟩ := Kd.R_slice HO158.out; subst eo24))
       repeat (go_quiet (first | (go_at_call 108; (with_reducible refine (spec_SymbolPlaces.calls kj4 a0 a1 t153 _ A10.out).mono ?_); rintro e w21 ⟨v154, rfl, ho0, hb⟩; have n0_ := Aside0.mk (Kd.R_lower ho0 (below_size (by repeat (first | (with_reducible first | exact HB.out | apply below_alloc | apply pw_below_drewN | apply below_drew1) | exact HB.out)))); have n1_ := Aside0.mk (below_step (by repeat (first | (with_reducible first | exact HB.out | apply below_alloc | apply pw_below_drewN | apply below_drew1) | exact HB.out)) hb); clear HB; have HO155 := n0_; have HB := n1_; clear n0_ n1_; (try clear hb); (try clear hb2); (try clear hk); (try clear hi); (try clear ho0)) | (go_at_call 108; (with_reducible refine (spec_SymbolPlaces.calls kj4 a2 a3 t156 _ A11.out).mono ?_); rintro e w22 ⟨v157, rfl, ho0, hb⟩; have n0_ := Aside0.mk (Kd.R_elder' (by (with_reducible repeat (first | apply Kd.R_alloc | apply Kd.R_drewN | apply Kd.R_drew)); exact HO155.out) (Kd.R_base ho0) hb); have n1_ := Aside0.mk (Kd.R_lower (Kd.R_new' ho0 (Kd.R_lt (by (with_reducible repeat (first | apply Kd.R_alloc | apply Kd.R_drewN | apply Kd.R_drew)); exact HO155.out))) (below_size (by repeat (first | (with_reducible first | exact HB.out | apply below_alloc | apply pw_below_drewN | apply below_drew1) | exact HB.out)))); have n2_ := Aside0.mk (below_step (by repeat (first | (with_reducible first | exact HB.out | apply below_alloc | apply pw_below_drewN | apply below_drew1) | exact HB.out)) hb); clear HO155; clear HB; have HO155 := n0_; have HO158 := n1_; have HB := n2_; clear n0_ n1_ n2_; (try clear hb); (try clear hb2); (try clear hk); (try clear hi); (try clear ho0); obtain ⟨Ao23, co23, eo23⟩ := Kd.R_slice HO155.out; subst eo23; obtain ⟨Ao24, co24, eo24⟩ := Kd.R_slice HO158.out; subst eo24)); try go_wp2_with (first | (go_at_call 108; (with_reducible refine (spec_SymbolPlaces.calls kj4 a0 a1 t153 _ A10.out).mono ?_); rintro e w21 ⟨v154, rfl, ho0, hb⟩; have n0_ := Aside0.mk (Kd.R_lower ho0 (below_size (by repeat (first | (with_reducible first | exact HB.out | apply below_alloc | apply pw_below_drewN | apply below_drew1) | exact HB.out)))); have n1_ := Aside0.mk (below_step (by repeat (first | (with_reducible first | exact HB.out | apply below_alloc | apply pw_below_drewN | apply below_drew1) | exact HB.out)) hb); clear HB; have HO155 := n0_; have HB := n1_; clear n0_ n1_; (try clear hb); (try clear hb2); (try clear hk); (try clear hi); (try clear ho0)) | (go_at_call 108; (with_reducible refine (spec_SymbolPlaces.calls kj4 a2 a3 t156 _ A11.out).mono ?_); rintro e w22 ⟨v157, rfl, ho0, hb⟩; have n0_ := Aside0.mk (Kd.R_elder' (by (with_reducible repeat (first | apply Kd.R_alloc | apply Kd.R_drewN | apply Kd.R_drew)); exact HO155.out) (Kd.R_base ho0) hb); have n1_ := Aside0.mk (Kd.R_lower (Kd.R_new' ho0 (Kd.R_lt (by (with_reducible repeat (first | apply Kd.R_alloc | apply Kd.R_drewN | apply Kd.R_drew)); exact HO155.out))) (below_size (by repeat (first | (with_reducible first | exact HB.out | apply below_alloc | apply pw_below_drewN | apply below_drew1) | exact HB.out)))); have n2_ := Aside0.mk (below_step (by repeat (first | (with_reducible first | exact HB.out | apply below_alloc | apply pw_below_drewN | apply below_drew1) | exact HB.out)) hb); clear HO155; clear HB; have HO155 := n0_; have HO158 := n1_; have HB := n2_; clear n0_ n1_ n2_; (try clear hb); (try clear hb2); (try clear hk); (try clear hi); (try clear ho0); obtain ⟨Ao23, co23, eo23⟩ := Kd.R_slice HO155.out; subst eo23; obtain ⟨Ao24, co24, eo24⟩ := Kd.R_slice HO158.out; subst eo24)))
       go_ret
       exact ⟨by first | rfl | (simp [errW_none, errW_some] <;> rfl) | (simp [*, errW_none, errW_some] <;> rfl), by repeat (first | (with_reducible first | exact HB.out | apply below_alloc | apply pw_below_drewN | apply below_drew1) | exact HB.out)⟩

/-! ### impl_size: function 75 -/
def impl_size.f (a0 : Int) : Option (Int) := some (mx a0 (wrap64 (-a0)))
set_option maxHeartbeats 8000000 in
set_option maxRecDepth 100000 in
theorem impl_size.calls (a0 : Int) (r : Int) (w : World) (h : impl_size.f a0 = some r) :
 Calls Try.prog 75 #[.int .i64 a0] w fun e w' => e = .returned (.int .i64 r) ∧ Below w.heap.size w w' := by
 have HB := Aside0.mk (Below.refl w.heap.size w)
 have H : (some (mx a0 (wrap64 (-a0)))) = some r := h
 clear h
 obtain ⟨ji2, hji2⟩ : ∃ j_ : Int, (mx a0 (wrap64 (-a0))) = j_ := ⟨_, rfl⟩
 replace H : (some ji2) = some r := by first | (rw [hji2] at H; exact H) | (simp only [hji2] at H ⊢; exact H)
 have hji2_ : (if a0 < (wrap64 (-a0)) then (wrap64 (-a0)) else a0) = ji2 := hji2
 obtain rfl := Option.some.inj H
 go_enter Try.func75, Try.ntmps75
 go_wp2
 go_ret
 exact ⟨by first | rfl | (simp [errW_none, errW_some] <;> rfl) | (simp only [← hji2]; first | rfl | (simp [errW_none, errW_some] <;> rfl)) | (simp [*, errW_none, errW_some] <;> rfl), by repeat (first | (with_reducible first | exact HB.out | apply below_alloc | apply pw_below_drewN | apply below_drew1) | exact HB.out)⟩

/-! ### impl_split: function 118 -/
def impl_split.l0 : Nat → Int → Int → Int → Option (Int × Int)
 | 0, _, _, _ => none
 | k + 1, x0, x1, x6 => if x1 = 0 then (none) else (if (Int.tmod x0 x1) = 0 then (impl_split.l0 k (wrap64 (Int.tdiv x0 x1)) x1 (wrap64 (x6 + 1))) else (some (x6, x0)))
def impl_split.f (k : Nat) (a0 : Int) (a1 : Int) : Option (Int × Int) := impl_split.l0 k a0 a1 0
theorem impl_split.mono_l : ∀ k, (∀ y0 y1 y2, LeO (impl_split.l0 k y0 y1 y2) (impl_split.l0 (k + 1) y0 y1 y2))
 | 0 => fun _ _ _ r h => by simp [impl_split.l0] at h
 | k + 1 => by
  have ih0 := impl_split.mono_l k
  · intro y0 y1 y2
    unfold impl_split.l0
    repeat' first
    | (with_reducible exact ih0 _ _ _)
    | (with_reducible exact LeO.refl _)
    | (with_reducible exact LeO.none _)
    | (with_reducible refine LeO.ite ?_ ?_)
    | (with_reducible refine LeO.bind ?_ (fun _ => ?_))
    | exact ih0 _ _ _
    | exact LeO.none _
    | refine LeO.ite ?_ ?_
    | refine LeO.bind ?_ (fun _ => ?_)
theorem impl_split.mono : ∀ a0 a1 k, LeO (impl_split.f k a0 a1) (impl_split.f (k + 1) a0 a1) := by
 intro a0 a1 k
 have ih0 := impl_split.mono_l k
 unfold impl_split.f
 repeat' first
  | (with_reducible exact ih0 _ _ _)
  | (with_reducible exact LeO.refl _)
  | (with_reducible exact LeO.none _)
  | (with_reducible refine LeO.ite ?_ ?_)
  | (with_reducible refine LeO.bind ?_ (fun _ => ?_))
  | exact ih0 _ _ _
  | exact LeO.none _
  | refine LeO.ite ?_ ?_
  | refine LeO.bind ?_ (fun _ => ?_)
set_option maxHeartbeats 8000000 in
set_option maxRecDepth 100000 in
theorem impl_split.calls (k : Nat) (a0 : Int) (a1 : Int) (r1 : Int) (r2 : Int) (w : World) (h : impl_split.f k a0 a1 = some (r1, r2)) :
 Calls Try.prog 118 #[.int .i64 a0, .int .i64 a1] w fun e w' => e = .returned (.tuple #[.int .i64 r1, .int .i64 r2]) ∧ Drawn0 w w' := by
 have H : (impl_split.l0 k a0 a1 0) = some (r1, r2) := h
 clear h
 have H' := Aside0.mk H
 clear H
 go_enter Try.func118, Try.ntmps118
 go_wp2
 go_loopg [0, 6] k (fun kq v0 v6 w' => ∃ (x0_1 : Int) (x6_1 : Int), v0 = .int .i64 x0_1 ∧ v6 = .int .i64 x6_1 ∧ Aside0 (impl_split.l0 kq x0_1 a1 x6_1 = some (r1, r2)) ∧ Aside0 (kq ≤ k) ∧ Drawn0 w w')
 case atStart => exact ⟨(a0), (0), (by first | rfl | (simp; done) | (simp [*]; done)), (by first | rfl | (simp; done) | (simp [*]; done)), H', ⟨Nat.le_refl _⟩, by repeat (first | exact Drawn0.refl _ | apply Drawn0.step)⟩
 case round =>
  clear H'
  try clear c1
  try clear p2
  obtain ⟨x0_1, x6_1, rfl, rfl, HA, HK1, ⟨m1, rfl⟩⟩ := hrel
  cases gk with
  | zero => exact absurd HA.out (by simp [impl_split.l0])
  | succ k1 =>
   have H := HA.out
   clear HA
   simp only [impl_split.l0] at H
   by_cases c3 : a1 = 0
   · rw [if_pos c3] at H
     exact absurd H (by simp)
   · rw [if_neg c3] at H
     have c3b0 : (a1 == 0) = false := beq_eq_false_iff_ne.mpr c3
     have c3b1 : (a1 != 0) = true := bne_iff_ne.mpr c3
     by_cases c4 : (Int.tmod x0_1 a1) = 0
     · rw [if_pos c4] at H
       have c4b0 : ((Int.tmod x0_1 a1) == 0) = true := beq_iff_eq.mpr c4
       have c4b1 : ((Int.tmod x0_1 a1) != 0) = false := bne_eq_false_iff_eq.mpr c4
       clear c4
       have H' := Aside0.mk H
       clear H
       go_wp2
       go_roundg k1
       case measure => have := HK1.out; omega
       case rel => exact ⟨(wrap64 (Int.tdiv x0_1 a1)), (wrap64 (x6_1 + 1)), (by first | rfl | (simp; done) | (simp [*]; done)), (by first | rfl | (simp; done) | (simp [*]; done)), H', ⟨by have := HK1.out; omega⟩, by repeat (first | exact Drawn0.refl _ | apply Drawn0.step)⟩
     · rw [if_neg c4] at H
       have c4b0 : ((Int.tmod x0_1 a1) == 0) = false := beq_eq_false_iff_ne.mpr c4
       have c4b1 : ((Int.tmod x0_1 a1) != 0) = true := bne_iff_ne.mpr c4
       simp only [Option.some.injEq, Prod.mk.injEq] at H
       obtain ⟨rfl, rfl⟩ := H
       go_wp2
       go_ret2
       exact ⟨by first | rfl | (simp; done) | (simp [*]; done), by repeat (first | exact Drawn0.refl _ | apply Drawn0.step)⟩

/-! ### impl_primesOf: function 110 -/
def impl_primesOf.l0 : Nat → Int → List Int → Int → Option (List Int)
 | 0, _, _, _ => none
 | k + 1, x0, x3, x4 => if (wrap64 (x4 * x4)) ≤ x0 then (if x4 = 0 then (none) else (if (Int.tmod x0 x4) = 0 then (if x3.length < 17592186044416 then ((impl_split.f k x0 x4).bind fun bt168 => (impl_primesOf.l0 k bt168.2 (x3 ++ [x4]) (wrap64 (x4 + 1)))) else (none)) else (impl_primesOf.l0 k x0 x3 (wrap64 (x4 + 1))))) else (if x0 > 1 then (if x3.length < 17592186044416 then (some (x3 ++ [x0])) else (none)) else (some x3))
def impl_primesOf.f (k : Nat) (a0 : Int) : Option (List Int) := (impl_size.f a0).bind fun t164 => (impl_primesOf.l0 k t164 (([] : List Int)) 2)
theorem impl_primesOf.mono_l : ∀ k, (∀ y0 y1 y2, LeO (impl_primesOf.l0 k y0 y1 y2) (impl_primesOf.l0 (k + 1) y0 y1 y2))
 | 0 => fun _ _ _ r h => by simp [impl_primesOf.l0] at h
 | k + 1 => by
  have ih0 := impl_primesOf.mono_l k
  · intro y0 y1 y2
    unfold impl_primesOf.l0
    repeat' first
    | (with_reducible exact ih0 _ _ _)
    | (with_reducible exact impl_split.mono _ _ _)
    | (with_reducible exact LeO.refl _)
    | (with_reducible exact LeO.none _)
    | (with_reducible refine LeO.ite ?_ ?_)
    | (with_reducible refine LeO.bind ?_ (fun _ => ?_))
    | exact ih0 _ _ _
    | exact impl_split.mono _ _ _
    | exact LeO.none _
    | refine LeO.ite ?_ ?_
    | refine LeO.bind ?_ (fun _ => ?_)
theorem impl_primesOf.mono : ∀ a0 k, LeO (impl_primesOf.f k a0) (impl_primesOf.f (k + 1) a0) := by
 intro a0 k
 have ih0 := impl_primesOf.mono_l k
 unfold impl_primesOf.f
 repeat' first
  | (with_reducible exact ih0 _ _ _)
  | (with_reducible exact impl_split.mono _ _ _)
  | (with_reducible exact LeO.refl _)
  | (with_reducible exact LeO.none _)
  | (with_reducible refine LeO.ite ?_ ?_)
  | (with_reducible refine LeO.bind ?_ (fun _ => ?_))
  | exact ih0 _ _ _
  | exact impl_split.mono _ _ _
  | exact LeO.none _
  | refine LeO.ite ?_ ?_
  | refine LeO.bind ?_ (fun _ => ?_)
set_option maxHeartbeats 8000000 in
set_option maxRecDepth 100000 in
theorem impl_primesOf.calls (k : Nat) (a0 : Int) (r : List Int) (w : World) (h : impl_primesOf.f k a0 = some r) :
 Calls Try.prog 110 #[.int .i64 a0] w fun e w' => ∃ v0_ : Value, e = .returned (v0_) ∧ Kd.R (Kd.int .i64) 3 w' w.heap.size (fun _ => True) v0_ r ∧ Below w.heap.size w w' := by
 have HB := Aside0.mk (Below.refl w.heap.size w)
 have H : ((impl_size.f a0).bind fun t164 => (impl_primesOf.l0 k t164 (([] : List Int)) 2)) = some r := h
 clear h
 obtain ⟨y161, hy161⟩ : ∃ y_ : List Int, y_ = (([] : List Int)) := ⟨_, rfl⟩
 replace H : ((impl_size.f a0).bind fun t164 => (impl_primesOf.l0 k t164 y161 2)) = some r := by first | (rw [hy161]; with_reducible exact H) | (have H2_ := (Option.bind_some _ _).symm.trans H; rw [hy161]; with_reducible exact H2_) | (have H2_ := (Option.bind_some _ _).symm.trans H; with_reducible exact H2_) | with_reducible exact H | (rw [hy161]; exact H) | exact H
 have Ny161 := Aside0.mk hy161
 clear hy161
 replace H := Option.bind_eq_some_iff.mp H
 obtain ⟨t164, A20, H⟩ := H
 replace H : (impl_primesOf.l0 k t164 y161 2) = some r := H
 have A2 := Aside0.mk A20
 clear A20
 have H' := Aside0.mk H
 clear H
 go_enter Try.func110, Try.ntmps110
 go_wp2_with (first | ((with_reducible refine gate_dst (N := 5) rfl ?_); refine Kd.R_lit (Kd.int .i64) _ 3 ?hg (N := 5) ?hd (xs := ([] : List Int)) (inner := []) (ok := fun _ => True) (okp := fun _ => True) ?hr ?hp (fun _ hk => hk) trivial (Below.refl _ _) (Nat.le_refl _) (by simp) ?_; (case hd => rfl); (case hg => rfl); (case hr => first | (go_simp; done) | (go_simp; rfl)); (case hp => exact (Reps.none _ _)); intro v162 w3 ho4 hb hg_ hnew_; clear hg_ hnew_; (first | rw [← Ny161.out] at ho4 | (simp only [Int.reduceToNat] at ho4; rw [← Ny161.out] at ho4)); have n0_ := Aside0.mk (Kd.R_lower ho4 (below_size (by repeat (first | (with_reducible first | exact HB.out | apply below_alloc | apply pw_below_drewN | apply below_drew1) | exact HB.out)))); have n1_ := Aside0.mk (below_step (by repeat (first | (with_reducible first | exact HB.out | apply below_alloc | apply pw_below_drewN | apply below_drew1) | exact HB.out)) hb); clear HB; have HO163 := n0_; have HB := n1_; clear n0_ n1_; clear hb ho4) | ((with_reducible refine gate_callee (f := 75) rfl ?_); refine goesL_ (some 7) rfl rfl Try.func75 (by kernel_rfl) rfl #[.int .i64 a0] rfl (by (try simp only [List.map_toArray, List.map_cons, List.map_nil]); first | done | rfl | (simp only [List.length_drop, List.length_take]; rfl)) ?_; (with_reducible refine (impl_size.calls a0 t164 _ A2.out).mono ?_); rintro e w5 ⟨rfl, hb⟩; refine ⟨_, rfl, ?_⟩; have n0_ := Aside0.mk (Kd.R_below (by (with_reducible repeat (first | apply Kd.R_alloc | apply Kd.R_drewN | apply Kd.R_drew)); exact HO163.out) hb); have n1_ := Aside0.mk (below_step (by repeat (first | (with_reducible first | exact HB.out | apply below_alloc | apply pw_below_drewN | apply below_drew1) | exact HB.out)) hb); clear HO163; clear HB; have HO163 := n0_; have HB := n1_; clear n0_ n1_; (try clear hb); (try clear hb2); (try clear hk); (try clear hi)))
 go_loopg [0, 3, 4] k (fun kq v0 v3 v4 w' => ∃ (x0_1 : Int) (x3_1 : List Int) (x4_1 : Int), v0 = .int .i64 x0_1 ∧ v4 = .int .i64 x4_1 ∧ Aside0 (impl_primesOf.l0 kq x0_1 x3_1 x4_1 = some r) ∧ Aside0 (kq ≤ k) ∧ Aside0 (Kd.R (Kd.int .i64) 3 w' w.heap.size (fun _ => True) v3 x3_1) ∧ Aside0 (Below w.heap.size w w'))
 case atStart => exact ⟨(t164), (y161), (2), (by first | rfl | (simp; done) | (simp [*]; done)), (by first | rfl | (simp; done) | (simp [*]; done)), H', ⟨Nat.le_refl _⟩, ⟨by (with_reducible repeat (first | apply Kd.R_alloc | apply Kd.R_drewN | apply Kd.R_drew)); exact HO163.out⟩, ⟨by repeat (first | (with_reducible first | exact HB.out | apply below_alloc | apply pw_below_drewN | apply below_drew1) | exact HB.out)⟩⟩
 case round =>
  clear H'
  try clear c1
  try clear p2
  obtain ⟨x0_1, x3_1, x4_1, rfl, rfl, HA, HK1, HO_3, HB⟩ := hrel
  cases gk with
  | zero => exact absurd HA.out (by simp [impl_primesOf.l0])
  | succ k1 =>
   have H := HA.out
   clear HA
   simp only [impl_primesOf.l0] at H
   by_cases c6 : (wrap64 (x4_1 * x4_1)) ≤ x0_1
   · rw [if_pos c6] at H
     have c6b0 : decide ((wrap64 (x4_1 * x4_1)) ≤ x0_1) = true := decide_eq_true c6
     clear c6
     by_cases c7 : x4_1 = 0
     · rw [if_pos c7] at H
       exact absurd H (by simp)
     · rw [if_neg c7] at H
       have c7b0 : (x4_1 == 0) = false := beq_eq_false_iff_ne.mpr c7
       have c7b1 : (x4_1 != 0) = true := bne_iff_ne.mpr c7
       by_cases c8 : (Int.tmod x0_1 x4_1) = 0
       · rw [if_pos c8] at H
         have c8b0 : ((Int.tmod x0_1 x4_1) == 0) = true := beq_iff_eq.mpr c8
         have c8b1 : ((Int.tmod x0_1 x4_1) != 0) = false := bne_eq_false_iff_eq.mpr c8
         clear c8
         by_cases c9 : x3_1.length < 17592186044416
         · rw [if_pos c9] at H
           have LMc9 := Aside0.mk c9
           clear c9
           obtain ⟨y165, hy165⟩ : ∃ y_ : List Int, y_ = (x3_1 ++ [x4_1]) := ⟨_, rfl⟩
           replace H : ((impl_split.f k1 x0_1 x4_1).bind fun bt168 => (impl_primesOf.l0 k1 bt168.2 y165 (wrap64 (x4_1 + 1)))) = some r := by first | (rw [hy165]; with_reducible exact H) | (have H2_ := (Option.bind_some _ _).symm.trans H; rw [hy165]; with_reducible exact H2_) | (have H2_ := (Option.bind_some _ _).symm.trans H; with_reducible exact H2_) | with_reducible exact H | (rw [hy165]; exact H) | exact H
           have Ny165 := Aside0.mk hy165
           clear hy165
           replace H := Option.bind_eq_some_iff.mp H
           obtain ⟨⟨t168, t169⟩, A100, H⟩ := H
           replace H : (impl_primesOf.l0 k1 t169 y165 (wrap64 (x4_1 + 1))) = some r := H
           have A10 := Aside0.mk A100
           clear A100
           have H' := Aside0.mk H
           clear H
           go_wp2_with (first | ((with_reducible refine gate_builtin (b := .append) (xs := #[.tmp 19, .tmp 21]) rfl ?_); at_builtin; refine Kd.R_append (Kd.int .i64) (w0 := w) w.heap.size rfl (.tmp 19) (.tmp 21) 23 3 (.int .i64 0) 8 rfl Try.underlying23 info3 rfl (by decide) (by omega) u3 x3_1 x4_1 [.int .i64 x4_1] (fun _ => True) (fun _ => False) rfl rfl ?aP (fun _ hk => hk.elim) ?aF ?aO ?aB ?aS ?aL ?_; (case aP => exact rfl); (case aB => exact (by repeat (first | (with_reducible first | exact HB.out | apply below_alloc | apply pw_below_drewN | apply below_drew1) | exact HB.out))); (case aF => exact (fun _ _ => trivial)); (case aO => exact (by (with_reducible repeat (first | apply Kd.R_alloc | apply Kd.R_drewN | apply Kd.R_drew)); exact HO_3.out)); (case aS => exact (below_size (by repeat (first | (with_reducible first | exact HB.out | apply below_alloc | apply pw_below_drewN | apply below_drew1) | exact HB.out)))); (case aL => have := LMc9.out; omega); intro v166 w11 ho hb hg hat; rw [← Ny165.out] at ho; have n0_ := Aside0.mk (hb); have n1_ := Aside0.mk (ho); clear HB; clear HO_3; have HB := n0_; have HO167 := n1_; clear n0_ n1_; clear ho hb hg hat) | ((with_reducible refine gate_callee (f := 118) rfl ?_); refine goesL_ (some 26) rfl rfl Try.func118 (by kernel_rfl) rfl #[.int .i64 x0_1, .int .i64 x4_1] rfl (by (try simp only [List.map_toArray, List.map_cons, List.map_nil]); first | done | rfl | (simp only [List.length_drop, List.length_take]; rfl)) ?_; (with_reducible refine (impl_split.calls k1 x0_1 x4_1 t168 t169 _ A10.out).mono ?_); rintro e w' ⟨rfl, ⟨nd, rfl⟩⟩; refine ⟨_, rfl, ?_⟩))
           go_roundg k1
           case measure => have := HK1.out; omega
           case rel => exact ⟨(t169), (y165), (wrap64 (x4_1 + 1)), (by first | rfl | (simp; done) | (simp [*]; done)), (by first | rfl | (simp; done) | (simp [*]; done)), H', ⟨by have := HK1.out; omega⟩, ⟨by (with_reducible repeat (first | apply Kd.R_alloc | apply Kd.R_drewN | apply Kd.R_drew)); exact HO167.out⟩, ⟨by repeat (first | (with_reducible first | exact HB.out | apply below_alloc | apply pw_below_drewN | apply below_drew1) | exact HB.out)⟩⟩
         · rw [if_neg c9] at H
           exact absurd H (by simp)
       · rw [if_neg c8] at H
         have c8b0 : ((Int.tmod x0_1 x4_1) == 0) = false := beq_eq_false_iff_ne.mpr c8
         have c8b1 : ((Int.tmod x0_1 x4_1) != 0) = true := bne_iff_ne.mpr c8
         have H' := Aside0.mk H
         clear H
         go_wp2
         go_roundg k1
         case measure => have := HK1.out; omega
         case rel => exact ⟨(x0_1), (x3_1), (wrap64 (x4_1 + 1)), (by first | rfl | (simp; done) | (simp [*]; done)), (by first | rfl | (simp; done) | (simp [*]; done)), H', ⟨by have := HK1.out; omega⟩, ⟨by (with_reducible repeat (first | apply Kd.R_alloc | apply Kd.R_drewN | apply Kd.R_drew)); exact HO_3.out⟩, ⟨by repeat (first | (with_reducible first | exact HB.out | apply below_alloc | apply pw_below_drewN | apply below_drew1) | exact HB.out)⟩⟩
   · rw [if_neg c6] at H
     have c6b0 : decide ((wrap64 (x4_1 * x4_1)) ≤ x0_1) = false := decide_eq_false c6
     clear c6
     by_cases c12 : x0_1 > 1
     · rw [if_pos c12] at H
       have c12b0 : decide (1 < x0_1) = true := decide_eq_true c12
       clear c12
       by_cases c13 : x3_1.length < 17592186044416
       · rw [if_pos c13] at H
         have LMc13 := Aside0.mk c13
         clear c13
         obtain ⟨y170, hy170⟩ : ∃ y_ : List Int, y_ = (x3_1 ++ [x0_1]) := ⟨_, rfl⟩
         replace H : (some y170) = some r := by first | (rw [hy170]; with_reducible exact H) | (have H2_ := (Option.bind_some _ _).symm.trans H; rw [hy170]; with_reducible exact H2_) | (have H2_ := (Option.bind_some _ _).symm.trans H; with_reducible exact H2_) | with_reducible exact H | (rw [hy170]; exact H) | exact H
         have Ny170 := Aside0.mk hy170
         clear hy170
         obtain rfl := Option.some.inj H
         go_wp2_with (first | ((with_reducible refine gate_builtin (b := .append) (xs := #[.tmp 31, .tmp 33]) rfl ?_); at_builtin; refine Kd.R_append (Kd.int .i64) (w0 := w) w.heap.size rfl (.tmp 31) (.tmp 33) 23 3 (.int .i64 0) 8 rfl Try.underlying23 info3 rfl (by decide) (by omega) u3 x3_1 x0_1 [.int .i64 x0_1] (fun _ => True) (fun _ => False) rfl rfl ?aP (fun _ hk => hk.elim) ?aF ?aO ?aB ?aS ?aL ?_; (case aP => exact rfl); (case aB => exact (by repeat (first | (with_reducible first | exact HB.out | apply below_alloc | apply pw_below_drewN | apply below_drew1) | exact HB.out))); (case aF => exact (fun _ _ => trivial)); (case aO => exact (by (with_reducible repeat (first | apply Kd.R_alloc | apply Kd.R_drewN | apply Kd.R_drew)); exact HO_3.out)); (case aS => exact (below_size (by repeat (first | (with_reducible first | exact HB.out | apply below_alloc | apply pw_below_drewN | apply below_drew1) | exact HB.out)))); (case aL => have := LMc13.out; omega); intro v171 w14 ho hb hg hat; rw [← Ny170.out] at ho; have n0_ := Aside0.mk (hb); have n1_ := Aside0.mk (ho); clear HB; clear HO_3; have HB := n0_; have HO172 := n1_; clear n0_ n1_; clear ho hb hg hat))
         go_ret
         exact ⟨_, by first | rfl | (simp [errW_none, errW_some] <;> rfl) | (simp [*, errW_none, errW_some] <;> rfl), by (with_reducible repeat (first | apply Kd.R_alloc | apply Kd.R_drewN | apply Kd.R_drew)); exact HO172.out, by repeat (first | (with_reducible first | exact HB.out | apply below_alloc | apply pw_below_drewN | apply below_drew1) | exact HB.out)⟩
       · rw [if_neg c13] at H
         exact absurd H (by simp)
     · rw [if_neg c12] at H
       have c12b0 : decide (1 < x0_1) = false := decide_eq_false c12
       clear c12
       obtain rfl := Option.some.inj H
       go_wp2
       go_ret
       exact ⟨_, by first | rfl | (simp [errW_none, errW_some] <;> rfl) | (simp [*, errW_none, errW_some] <;> rfl), by (with_reducible repeat (first | apply Kd.R_alloc | apply Kd.R_drewN | apply Kd.R_drew)); exact HO_3.out, by repeat (first | (with_reducible first | exact HB.out | apply below_alloc | apply pw_below_drewN | apply below_drew1) | exact HB.out)⟩

end Go.Proofs.Ytdeahlommlgceaa.PFnExactSymbolSame

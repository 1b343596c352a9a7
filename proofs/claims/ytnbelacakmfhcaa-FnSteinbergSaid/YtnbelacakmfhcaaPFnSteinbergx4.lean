-- PRINTED BY print.sh 35421559b90ae4d0a3588c463048766b98c2df88dd9212a6774a882060cdf62d: not written by this session
import Derived.Test.YtnbelacakmfhcaaPFnSteinbergx0
import Derived.Test.YtnbelacakmfhcaaPFnSteinbergx1
import Derived.Test.YtnbelacakmfhcaaPFnSteinbergx2
import Derived.Test.YtnbelacakmfhcaaPFnSteinbergx3
namespace Go.Proofs.Ytnbelacakmfhcaa.PFnSteinberg
open Go.RowKit Go.Proofs.YtnbelacakmfhcaaW.PrintWords Go.Proofs.YtnbelacakmfhcaaW.PrintLast Go.Proofs.YtnbelacakmfhcaaW.PrintMore
attribute [local go_sem] max2_int min2_int max_two min_two max_three min_three max_four min_four   -- for this text's walks alone
set_option linter.unusedVariables false
set_option linter.unusedSimpArgs false

/-! ### laws_FnSteinberg: function 8 -/
def laws_FnSteinberg.j0 : Nat → Int → Int → Int → Int → Bool → Option (Bool)
  | 0, _, _, _, _, _ => none
  | k + 1, x3, x5, x6, x7, x33 => if x33 = true then (some (x6 == x7)) else ((impl_SymbolOf.f k x3 (wrap64 (1 - x3)) x5).bind fun t204 => (if x3 = 1 then ((impl_SymbolOf.f k x3 x3 x5).bind fun t205 => ((impl_SymbolOf.f k x3 (-1) x5).bind fun t206 => (some (t205 == t206)))) else (if t204 = 0 then ((laws_sizeOf.f (wrap64 (1 - x3))).bind fun t207 => (if t207 > 5000 then ((impl_SymbolOf.f k x3 x3 x5).bind fun t208 => ((impl_SymbolOf.f k x3 (-1) x5).bind fun t209 => (some (t208 == t209)))) else (if t204 = 1 then ((impl_SymbolOf.f k x3 x3 x5).bind fun t210 => ((impl_SymbolOf.f k x3 (-1) x5).bind fun t211 => (some (t210 == t211)))) else (some false)))) else (if t204 = 1 then ((impl_SymbolOf.f k x3 x3 x5).bind fun t212 => ((impl_SymbolOf.f k x3 (-1) x5).bind fun t213 => (some (t212 == t213)))) else (some false)))))
def laws_FnSteinberg.f (k : Nat) (l0 : List Int) : Option (Bool) := if (l0.length : Int) > 1048576 then (some true) else ((spec_DrawSymbolOf.f k l0).bind fun bt199 => ((impl_SymbolOf.f k bt199.1 bt199.2.1 bt199.2.2).bind fun t202 => ((spec_SymbolOf.f k bt199.1 bt199.2.1 bt199.2.2).bind fun t203 => (if t202 = t203 then (laws_FnSteinberg.j0 k bt199.1 bt199.2.2 t202 t203 (t202 == 0)) else (laws_FnSteinberg.j0 k bt199.1 bt199.2.2 t202 t203 true)))))
theorem laws_FnSteinberg.mono_l : ∀ k, (∀ y0 y1 y2 y3 y4, LeO (laws_FnSteinberg.j0 k y0 y1 y2 y3 y4) (laws_FnSteinberg.j0 (k + 1) y0 y1 y2 y3 y4))
  | 0 => fun _ _ _ _ _ r h => by simp [laws_FnSteinberg.j0] at h
  | k + 1 => by
    have ih0 := laws_FnSteinberg.mono_l k
    · intro y0 y1 y2 y3 y4
      unfold laws_FnSteinberg.j0
      repeat' first
      | (with_reducible exact ih0 _ _ _ _ _)
      | (with_reducible exact impl_SymbolOf.mono _ _ _ _)
      | (with_reducible exact spec_DrawSymbolOf.mono _ _)
      | (with_reducible exact spec_SymbolOf.mono _ _ _ _)
      | (with_reducible exact LeO.refl _)
      | (with_reducible exact LeO.none _)
      | (with_reducible refine LeO.ite ?_ ?_)
      | (with_reducible refine LeO.bind ?_ (fun _ => ?_))
      | exact ih0 _ _ _ _ _
      | exact impl_SymbolOf.mono _ _ _ _
      | exact spec_DrawSymbolOf.mono _ _
      | exact spec_SymbolOf.mono _ _ _ _
      | exact LeO.none _
      | refine LeO.ite ?_ ?_
      | refine LeO.bind ?_ (fun _ => ?_)
theorem laws_FnSteinberg.mono : ∀ a0 k, LeO (laws_FnSteinberg.f k a0) (laws_FnSteinberg.f (k + 1) a0) := by
  intro a0 k
  have ih0 := laws_FnSteinberg.mono_l k
  unfold laws_FnSteinberg.f
  repeat' first
      | (with_reducible exact ih0 _ _ _ _ _)
      | (with_reducible exact impl_SymbolOf.mono _ _ _ _)
      | (with_reducible exact spec_DrawSymbolOf.mono _ _)
      | (with_reducible exact spec_SymbolOf.mono _ _ _ _)
      | (with_reducible exact LeO.refl _)
      | (with_reducible exact LeO.none _)
      | (with_reducible refine LeO.ite ?_ ?_)
      | (with_reducible refine LeO.bind ?_ (fun _ => ?_))
      | exact ih0 _ _ _ _ _
      | exact impl_SymbolOf.mono _ _ _ _
      | exact spec_DrawSymbolOf.mono _ _
      | exact spec_SymbolOf.mono _ _ _ _
      | exact LeO.none _
      | refine LeO.ite ?_ ?_
      | refine LeO.bind ?_ (fun _ => ?_)
set_option maxHeartbeats 8000000 in
set_option maxRecDepth 100000 in
theorem laws_FnSteinberg.calls (k : Nat) (A0 : Option Addr) (c0 : Nat) (l0 : List Int) (r : Bool) (w : World) (hr0 : Kd.C (Kd.int .u8) w A0 l0.length l0) (hc0 : l0.length ≤ c0) (h : laws_FnSteinberg.f k l0 = some r) :
    Calls Try.prog 8 #[.slice A0 l0.length c0] w fun e w' => e = .returned (.bool r) ∧ Below w.heap.size w w' := by
  have HR0 := Aside0.mk hr0
  have HC0 := Aside0.mk hc0
  clear hr0 hc0
  have HB := Aside0.mk (Below.refl w.heap.size w)
  have H : (if (l0.length : Int) > 1048576 then (some true) else ((spec_DrawSymbolOf.f k l0).bind fun bt199 => ((impl_SymbolOf.f k bt199.1 bt199.2.1 bt199.2.2).bind fun t202 => ((spec_SymbolOf.f k bt199.1 bt199.2.1 bt199.2.2).bind fun t203 => (if t202 = t203 then (laws_FnSteinberg.j0 k bt199.1 bt199.2.2 t202 t203 (t202 == 0)) else (laws_FnSteinberg.j0 k bt199.1 bt199.2.2 t202 t203 true)))))) = some r := h
  clear h
  by_cases c2 : (l0.length : Int) > 1048576
  · rw [if_pos c2] at H
    have c2b0 : decide (1048576 < (l0.length : Int)) = true := decide_eq_true c2
    have c2b1 : decide (1048576 < l0.length) = true := decide_eq_true (by omega)
    clear c2
    obtain rfl := Option.some.inj H
    go_enter Try.func8, Try.ntmps8
    go_wp2
    go_ret
    exact ⟨by first | rfl | (simp [errW_none, errW_some] <;> rfl) | (simp [*, errW_none, errW_some] <;> rfl), by repeat (first | (with_reducible first | exact HB.out | apply below_alloc | apply pw_below_drewN | apply below_drew1) | exact HB.out)⟩
  · rw [if_neg c2] at H
    have c2b0 : decide (1048576 < (l0.length : Int)) = false := decide_eq_false c2
    have c2b1 : decide (1048576 < l0.length) = false := decide_eq_false (by omega)
    clear c2
    replace H := Option.bind_eq_some_iff.mp H
    obtain ⟨⟨t199, t200, t201⟩, A30, H⟩ := H
    replace H : ((impl_SymbolOf.f k t199 t200 t201).bind fun t202 => ((spec_SymbolOf.f k t199 t200 t201).bind fun t203 => (if t202 = t203 then (laws_FnSteinberg.j0 k t199 t201 t202 t203 (t202 == 0)) else (laws_FnSteinberg.j0 k t199 t201 t202 t203 true)))) = some r := H
    have A3 := Aside0.mk A30
    clear A30
    replace H := Option.bind_eq_some_iff.mp H
    obtain ⟨t202, A40, H⟩ := H
    replace H : ((spec_SymbolOf.f k t199 t200 t201).bind fun t203 => (if t202 = t203 then (laws_FnSteinberg.j0 k t199 t201 t202 t203 (t202 == 0)) else (laws_FnSteinberg.j0 k t199 t201 t202 t203 true))) = some r := H
    have A4 := Aside0.mk A40
    clear A40
    replace H := Option.bind_eq_some_iff.mp H
    obtain ⟨t203, A50, H⟩ := H
    replace H : (if t202 = t203 then (laws_FnSteinberg.j0 k t199 t201 t202 t203 (t202 == 0)) else (laws_FnSteinberg.j0 k t199 t201 t202 t203 true)) = some r := H
    have A5 := Aside0.mk A50
    clear A50
    have HC6 := Aside0.mk H
    clear H
    go_enter Try.func8, Try.ntmps8
    go_upto_region 6 with (first | ((with_reducible refine gate_callee (f := 28) rfl ?_); refine goesL_ (some 15) rfl rfl Try.func28 (by kernel_rfl) rfl #[.slice A0 l0.length c0] rfl (by (try simp only [List.map_toArray, List.map_cons, List.map_nil]); first | done | rfl | (simp only [List.length_drop, List.length_take]; rfl)) ?_; (with_reducible refine (spec_DrawSymbolOf.calls k _ _ l0 t199 t200 t201 _ ?side1 ?side2 A3.out).mono ?_); (case side1 => repeat (first | exact HR0.out | (with_reducible refine Kd.C_alloc ?_ _) | (with_reducible refine Kd.C_drewN ?_ _) | (with_reducible refine Kd.C_drew ?_))); (case side2 => exact HC0.out); rintro e w7 ⟨rfl, hb⟩; refine ⟨_, rfl, ?_⟩; have n0_ := Aside0.mk (below_step (by repeat (first | (with_reducible first | exact HB.out | apply below_alloc | apply pw_below_drewN | apply below_drew1) | exact HB.out)) hb); clear HB; have HB := n0_; clear n0_; (try clear hb); (try clear hb2); (try clear hk); (try clear hi)) | ((with_reducible refine gate_callee (f := 29) rfl ?_); refine goesL_ (some 22) rfl rfl Try.func29 (by kernel_rfl) rfl #[.int .i64 t199, .int .i64 t200, .int .i64 t201] rfl (by (try simp only [List.map_toArray, List.map_cons, List.map_nil]); first | done | rfl | (simp only [List.length_drop, List.length_take]; rfl)) ?_; (with_reducible refine (impl_SymbolOf.calls k t199 t200 t201 t202 _ A4.out).mono ?_); rintro e w' ⟨rfl, ⟨nd, rfl⟩⟩; refine ⟨_, rfl, ?_⟩) | ((with_reducible refine gate_callee (f := 30) rfl ?_); refine goesL_ (some 26) rfl rfl Try.func30 (by kernel_rfl) rfl #[.int .i64 t199, .int .i64 t200, .int .i64 t201] rfl (by (try simp only [List.map_toArray, List.map_cons, List.map_nil]); first | done | rfl | (simp only [List.length_drop, List.length_take]; rfl)) ?_; (with_reducible refine (spec_SymbolOf.calls k t199 t200 t201 t203 _ A5.out).mono ?_); rintro e w' ⟨rfl, ⟨nd, rfl⟩⟩; refine ⟨_, rfl, ?_⟩))
    (try simp only [Act.put, List.setIfInBounds_toArray, List.set_cons_zero, List.set_cons_succ])
    go_cut [33] (fun v33 wc => ∃ (kq : Nat) (x33_5 : Bool), v33 = .bool x33_5 ∧ Aside0 (laws_FnSteinberg.j0 kq t199 t201 t202 t203 x33_5 = some r) ∧ Aside0 (kq ≤ k) ∧ Aside0 (Below w.heap.size w wc))
    case first =>
      have H := HC6.out
      clear HC6
      by_cases c8 : t202 = t203
      · rw [if_pos c8] at H
        have c8b0 : (t202 == t203) = true := beq_iff_eq.mpr c8
        have c8b1 : (t202 != t203) = false := bne_eq_false_iff_eq.mpr c8
        clear c8
        (first | rw [c8b0] | (simp only [i64_w, i32_w]; rw [c8b0]) | skip)
        have H' := Aside0.mk H
        clear H
        go_wp2
        go_meet
        case rel => exact ⟨_, ((t202 == 0)), (by first | rfl | (simp; done) | (simp [*]; done)), H', ⟨by first | omega | exact Nat.le_refl _⟩, ⟨by repeat (first | (with_reducible first | exact HB.out | apply below_alloc | apply pw_below_drewN | apply below_drew1) | exact HB.out)⟩⟩
      · rw [if_neg c8] at H
        have c8b0 : (t202 == t203) = false := beq_eq_false_iff_ne.mpr c8
        have c8b1 : (t202 != t203) = true := bne_iff_ne.mpr c8
        (first | rw [c8b0] | (simp only [i64_w, i32_w]; rw [c8b0]) | skip)
        have H' := Aside0.mk H
        clear H
        go_wp2
        go_meet
        case rel => exact ⟨_, (true), (by first | rfl | (simp; done) | (simp [*]; done)), H', ⟨by first | omega | exact Nat.le_refl _⟩, ⟨by repeat (first | (with_reducible first | exact HB.out | apply below_alloc | apply pw_below_drewN | apply below_drew1) | exact HB.out)⟩⟩
    case rest =>
      clear HC6
      try clear c2
      try clear c2b0
      try clear c2b1
      try clear p2
      try clear c3
      try clear c8
      try clear c8b0
      try clear c8b1
      obtain ⟨kq, x33_5, rfl, HA, HJ5, HB⟩ := hcut
      cases kq with
      | zero => exact absurd HA.out (by simp [laws_FnSteinberg.j0])
      | succ kj5 =>
        have H := HA.out
        clear HA
        simp only [laws_FnSteinberg.j0] at H
        by_cases c9 : x33_5 = true
        · subst c9
          have H1 : (some (t202 == t203)) = some r := by rw [if_pos rfl] at H; exact H
          clear H
          have H := H1
          clear H1
          obtain rfl := Option.some.inj H
          go_wp2
          go_ret
          exact ⟨by first | rfl | (simp [errW_none, errW_some] <;> rfl) | (simp [*, errW_none, errW_some] <;> rfl), by repeat (first | (with_reducible first | exact HB.out | apply below_alloc | apply pw_below_drewN | apply below_drew1) | exact HB.out)⟩
        · replace c9 := Bool.eq_false_iff.mpr c9
          subst c9
          have H1 : ((impl_SymbolOf.f kj5 t199 (wrap64 (1 - t199)) t201).bind fun t204 => (if t199 = 1 then ((impl_SymbolOf.f kj5 t199 t199 t201).bind fun t205 => ((impl_SymbolOf.f kj5 t199 (-1) t201).bind fun t206 => (some (t205 == t206)))) else (if t204 = 0 then ((laws_sizeOf.f (wrap64 (1 - t199))).bind fun t207 => (if t207 > 5000 then ((impl_SymbolOf.f kj5 t199 t199 t201).bind fun t208 => ((impl_SymbolOf.f kj5 t199 (-1) t201).bind fun t209 => (some (t208 == t209)))) else (if t204 = 1 then ((impl_SymbolOf.f kj5 t199 t199 t201).bind fun t210 => ((impl_SymbolOf.f kj5 t199 (-1) t201).bind fun t211 => (some (t210 == t211)))) else (some false)))) else (if t204 = 1 then ((impl_SymbolOf.f kj5 t199 t199 t201).bind fun t212 => ((impl_SymbolOf.f kj5 t199 (-1) t201).bind fun t213 => (some (t212 == t213)))) else (some false))))) = some r := by rw [if_neg (show ¬ (false = true) by decide)] at H; exact H
          clear H
          have H := H1
          clear H1
          replace H := Option.bind_eq_some_iff.mp H
          obtain ⟨t204, A100, H⟩ := H
          replace H : (if t199 = 1 then ((impl_SymbolOf.f kj5 t199 t199 t201).bind fun t205 => ((impl_SymbolOf.f kj5 t199 (-1) t201).bind fun t206 => (some (t205 == t206)))) else (if t204 = 0 then ((laws_sizeOf.f (wrap64 (1 - t199))).bind fun t207 => (if t207 > 5000 then ((impl_SymbolOf.f kj5 t199 t199 t201).bind fun t208 => ((impl_SymbolOf.f kj5 t199 (-1) t201).bind fun t209 => (some (t208 == t209)))) else (if t204 = 1 then ((impl_SymbolOf.f kj5 t199 t199 t201).bind fun t210 => ((impl_SymbolOf.f kj5 t199 (-1) t201).bind fun t211 => (some (t210 == t211)))) else (some false)))) else (if t204 = 1 then ((impl_SymbolOf.f kj5 t199 t199 t201).bind fun t212 => ((impl_SymbolOf.f kj5 t199 (-1) t201).bind fun t213 => (some (t212 == t213)))) else (some false)))) = some r := H
          have A10 := Aside0.mk A100
          clear A100
          by_cases c11 : t199 = 1
          · rw [if_pos c11] at H
            have c11b0 : (t199 == 1) = true := beq_iff_eq.mpr c11
            have c11b1 : (t199 != 1) = false := bne_eq_false_iff_eq.mpr c11
            clear c11
            replace H := Option.bind_eq_some_iff.mp H
            obtain ⟨t205, A120, H⟩ := H
            replace H : ((impl_SymbolOf.f kj5 t199 (-1) t201).bind fun t206 => (some (t205 == t206))) = some r := H
            have A12 := Aside0.mk A120
            clear A120
            replace H := Option.bind_eq_some_iff.mp H
            obtain ⟨t206, A130, H⟩ := H
            replace H : (some (t205 == t206)) = some r := H
            have A13 := Aside0.mk A130
            clear A130
            obtain rfl := Option.some.inj H
            go_wp2_with (first | ((with_reducible refine gate_callee (f := 29) rfl ?_); refine goesL_ (some 42) rfl rfl Try.func29 (by kernel_rfl) rfl #[.int .i64 t199, .int .i64 (wrap64 (1 - t199)), .int .i64 t201] rfl (by (try simp only [List.map_toArray, List.map_cons, List.map_nil]); first | done | rfl | (simp only [List.length_drop, List.length_take]; rfl)) ?_; (with_reducible refine (impl_SymbolOf.calls kj5 t199 (wrap64 (1 - t199)) t201 t204 _ A10.out).mono ?_); rintro e w' ⟨rfl, ⟨nd, rfl⟩⟩; refine ⟨_, rfl, ?_⟩) | (go_at_call 29; (with_reducible refine (impl_SymbolOf.calls kj5 t199 t199 t201 t205 _ A12.out).mono ?_); rintro e w' ⟨rfl, ⟨nd, rfl⟩⟩) | (go_at_call 29; (with_reducible refine (impl_SymbolOf.calls kj5 t199 (-1) t201 t206 _ A13.out).mono ?_); rintro e w' ⟨rfl, ⟨nd, rfl⟩⟩))
            go_ret
            exact ⟨by first | rfl | (simp [errW_none, errW_some] <;> rfl) | (simp [*, errW_none, errW_some] <;> rfl), by repeat (first | (with_reducible first | exact HB.out | apply below_alloc | apply pw_below_drewN | apply below_drew1) | exact HB.out)⟩
          · rw [if_neg c11] at H
            have c11b0 : (t199 == 1) = false := beq_eq_false_iff_ne.mpr c11
            have c11b1 : (t199 != 1) = true := bne_iff_ne.mpr c11
            by_cases c14 : t204 = 0
            · rw [if_pos c14] at H
              have c14b0 : (t204 == 0) = true := beq_iff_eq.mpr c14
              have c14b1 : (t204 != 0) = false := bne_eq_false_iff_eq.mpr c14
              clear c14
              replace H := Option.bind_eq_some_iff.mp H
              obtain ⟨t207, A150, H⟩ := H
              replace H : (if t207 > 5000 then ((impl_SymbolOf.f kj5 t199 t199 t201).bind fun t208 => ((impl_SymbolOf.f kj5 t199 (-1) t201).bind fun t209 => (some (t208 == t209)))) else (if t204 = 1 then ((impl_SymbolOf.f kj5 t199 t199 t201).bind fun t210 => ((impl_SymbolOf.f kj5 t199 (-1) t201).bind fun t211 => (some (t210 == t211)))) else (some false))) = some r := H
              have A15 := Aside0.mk A150
              clear A150
              by_cases c16 : t207 > 5000
              · rw [if_pos c16] at H
                have c16b0 : decide (5000 < t207) = true := decide_eq_true c16
                clear c16
                replace H := Option.bind_eq_some_iff.mp H
                obtain ⟨t208, A170, H⟩ := H
                replace H : ((impl_SymbolOf.f kj5 t199 (-1) t201).bind fun t209 => (some (t208 == t209))) = some r := H
                have A17 := Aside0.mk A170
                clear A170
                replace H := Option.bind_eq_some_iff.mp H
                obtain ⟨t209, A180, H⟩ := H
                replace H : (some (t208 == t209)) = some r := H
                have A18 := Aside0.mk A180
                clear A180
                obtain rfl := Option.some.inj H
                go_wp2_with (first | ((with_reducible refine gate_callee (f := 29) rfl ?_); refine goesL_ (some 42) rfl rfl Try.func29 (by kernel_rfl) rfl #[.int .i64 t199, .int .i64 (wrap64 (1 - t199)), .int .i64 t201] rfl (by (try simp only [List.map_toArray, List.map_cons, List.map_nil]); first | done | rfl | (simp only [List.length_drop, List.length_take]; rfl)) ?_; (with_reducible refine (impl_SymbolOf.calls kj5 t199 (wrap64 (1 - t199)) t201 t204 _ A10.out).mono ?_); rintro e w' ⟨rfl, ⟨nd, rfl⟩⟩; refine ⟨_, rfl, ?_⟩) | (go_at_call 31; (with_reducible refine (laws_sizeOf.calls (wrap64 (1 - t199)) t207 _ A15.out).mono ?_); rintro e w19 ⟨rfl, hb⟩; have n0_ := Aside0.mk (below_step (by repeat (first | (with_reducible first | exact HB.out | apply below_alloc | apply pw_below_drewN | apply below_drew1) | exact HB.out)) hb); clear HB; have HB := n0_; clear n0_; (try clear hb); (try clear hb2); (try clear hk); (try clear hi)) | (go_at_call 29; (with_reducible refine (impl_SymbolOf.calls kj5 t199 t199 t201 t208 _ A17.out).mono ?_); rintro e w' ⟨rfl, ⟨nd, rfl⟩⟩) | (go_at_call 29; (with_reducible refine (impl_SymbolOf.calls kj5 t199 (-1) t201 t209 _ A18.out).mono ?_); rintro e w' ⟨rfl, ⟨nd, rfl⟩⟩))
                go_ret
                exact ⟨by first | rfl | (simp [errW_none, errW_some] <;> rfl) | (simp [*, errW_none, errW_some] <;> rfl), by repeat (first | (with_reducible first | exact HB.out | apply below_alloc | apply pw_below_drewN | apply below_drew1) | exact HB.out)⟩
              · rw [if_neg c16] at H
                have c16b0 : decide (5000 < t207) = false := decide_eq_false c16
                clear c16
                by_cases c20 : t204 = 1
                · rw [if_pos c20] at H
                  have c20b0 : (t204 == 1) = true := beq_iff_eq.mpr c20
                  have c20b1 : (t204 != 1) = false := bne_eq_false_iff_eq.mpr c20
                  clear c20
                  replace H := Option.bind_eq_some_iff.mp H
                  obtain ⟨t210, A210, H⟩ := H
                  replace H : ((impl_SymbolOf.f kj5 t199 (-1) t201).bind fun t211 => (some (t210 == t211))) = some r := H
                  have A21 := Aside0.mk A210
                  clear A210
                  replace H := Option.bind_eq_some_iff.mp H
                  obtain ⟨t211, A220, H⟩ := H
                  replace H : (some (t210 == t211)) = some r := H
                  have A22 := Aside0.mk A220
                  clear A220
                  obtain rfl := Option.some.inj H
                  go_wp2_with (first | ((with_reducible refine gate_callee (f := 29) rfl ?_); refine goesL_ (some 42) rfl rfl Try.func29 (by kernel_rfl) rfl #[.int .i64 t199, .int .i64 (wrap64 (1 - t199)), .int .i64 t201] rfl (by (try simp only [List.map_toArray, List.map_cons, List.map_nil]); first | done | rfl | (simp only [List.length_drop, List.length_take]; rfl)) ?_; (with_reducible refine (impl_SymbolOf.calls kj5 t199 (wrap64 (1 - t199)) t201 t204 _ A10.out).mono ?_); rintro e w' ⟨rfl, ⟨nd, rfl⟩⟩; refine ⟨_, rfl, ?_⟩) | (go_at_call 31; (with_reducible refine (laws_sizeOf.calls (wrap64 (1 - t199)) t207 _ A15.out).mono ?_); rintro e w23 ⟨rfl, hb⟩; have n0_ := Aside0.mk (below_step (by repeat (first | (with_reducible first | exact HB.out | apply below_alloc | apply pw_below_drewN | apply below_drew1) | exact HB.out)) hb); clear HB; have HB := n0_; clear n0_; (try clear hb); (try clear hb2); (try clear hk); (try clear hi)) | (go_at_call 29; (with_reducible refine (impl_SymbolOf.calls kj5 t199 t199 t201 t210 _ A21.out).mono ?_); rintro e w' ⟨rfl, ⟨nd, rfl⟩⟩) | (go_at_call 29; (with_reducible refine (impl_SymbolOf.calls kj5 t199 (-1) t201 t211 _ A22.out).mono ?_); rintro e w' ⟨rfl, ⟨nd, rfl⟩⟩))
                  go_ret
                  exact ⟨by first | rfl | (simp [errW_none, errW_some] <;> rfl) | (simp [*, errW_none, errW_some] <;> rfl), by repeat (first | (with_reducible first | exact HB.out | apply below_alloc | apply pw_below_drewN | apply below_drew1) | exact HB.out)⟩
                · rw [if_neg c20] at H
                  have c20b0 : (t204 == 1) = false := beq_eq_false_iff_ne.mpr c20
                  have c20b1 : (t204 != 1) = true := bne_iff_ne.mpr c20
                  obtain rfl := Option.some.inj H
                  go_wp2_with (first | ((with_reducible refine gate_callee (f := 29) rfl ?_); refine goesL_ (some 42) rfl rfl Try.func29 (by kernel_rfl) rfl #[.int .i64 t199, .int .i64 (wrap64 (1 - t199)), .int .i64 t201] rfl (by (try simp only [List.map_toArray, List.map_cons, List.map_nil]); first | done | rfl | (simp only [List.length_drop, List.length_take]; rfl)) ?_; (with_reducible refine (impl_SymbolOf.calls kj5 t199 (wrap64 (1 - t199)) t201 t204 _ A10.out).mono ?_); rintro e w' ⟨rfl, ⟨nd, rfl⟩⟩; refine ⟨_, rfl, ?_⟩) | (go_at_call 31; (with_reducible refine (laws_sizeOf.calls (wrap64 (1 - t199)) t207 _ A15.out).mono ?_); rintro e w24 ⟨rfl, hb⟩; have n0_ := Aside0.mk (below_step (by repeat (first | (with_reducible first | exact HB.out | apply below_alloc | apply pw_below_drewN | apply below_drew1) | exact HB.out)) hb); clear HB; have HB := n0_; clear n0_; (try clear hb); (try clear hb2); (try clear hk); (try clear hi)))
                  go_ret
                  exact ⟨by first | rfl | (simp [errW_none, errW_some] <;> rfl) | (simp [*, errW_none, errW_some] <;> rfl), by repeat (first | (with_reducible first | exact HB.out | apply below_alloc | apply pw_below_drewN | apply below_drew1) | exact HB.out)⟩
            · rw [if_neg c14] at H
              have c14b0 : (t204 == 0) = false := beq_eq_false_iff_ne.mpr c14
              have c14b1 : (t204 != 0) = true := bne_iff_ne.mpr c14
              by_cases c25 : t204 = 1
              · rw [if_pos c25] at H
                have c25b0 : (t204 == 1) = true := beq_iff_eq.mpr c25
                have c25b1 : (t204 != 1) = false := bne_eq_false_iff_eq.mpr c25
                clear c25
                replace H := Option.bind_eq_some_iff.mp H
                obtain ⟨t212, A260, H⟩ := H
                replace H : ((impl_SymbolOf.f kj5 t199 (-1) t201).bind fun t213 => (some (t212 == t213))) = some r := H
                have A26 := Aside0.mk A260
                clear A260
                replace H := Option.bind_eq_some_iff.mp H
                obtain ⟨t213, A270, H⟩ := H
                replace H : (some (t212 == t213)) = some r := H
                have A27 := Aside0.mk A270
                clear A270
                obtain rfl := Option.some.inj H
                go_wp2_with (first | ((with_reducible refine gate_callee (f := 29) rfl ?_); refine goesL_ (some 42) rfl rfl Try.func29 (by kernel_rfl) rfl #[.int .i64 t199, .int .i64 (wrap64 (1 - t199)), .int .i64 t201] rfl (by (try simp only [List.map_toArray, List.map_cons, List.map_nil]); first | done | rfl | (simp only [List.length_drop, List.length_take]; rfl)) ?_; (with_reducible refine (impl_SymbolOf.calls kj5 t199 (wrap64 (1 - t199)) t201 t204 _ A10.out).mono ?_); rintro e w' ⟨rfl, ⟨nd, rfl⟩⟩; refine ⟨_, rfl, ?_⟩) | (go_at_call 29; (with_reducible refine (impl_SymbolOf.calls kj5 t199 t199 t201 t212 _ A26.out).mono ?_); rintro e w' ⟨rfl, ⟨nd, rfl⟩⟩) | (go_at_call 29; (with_reducible refine (impl_SymbolOf.calls kj5 t199 (-1) t201 t213 _ A27.out).mono ?_); rintro e w' ⟨rfl, ⟨nd, rfl⟩⟩))
                go_ret
                exact ⟨by first | rfl | (simp [errW_none, errW_some] <;> rfl) | (simp [*, errW_none, errW_some] <;> rfl), by repeat (first | (with_reducible first | exact HB.out | apply below_alloc | apply pw_below_drewN | apply below_drew1) | exact HB.out)⟩
              · rw [if_neg c25] at H
                have c25b0 : (t204 == 1) = false := beq_eq_false_iff_ne.mpr c25
                have c25b1 : (t204 != 1) = true := bne_iff_ne.mpr c25
                obtain rfl := Option.some.inj H
                go_wp2_with (first | ((with_reducible refine gate_callee (f := 29) rfl ?_); refine goesL_ (some 42) rfl rfl Try.func29 (by kernel_rfl) rfl #[.int .i64 t199, .int .i64 (wrap64 (1 - t199)), .int .i64 t201] rfl (by (try simp only [List.map_toArray, List.map_cons, List.map_nil]); first | done | rfl | (simp only [List.length_drop, List.length_take]; rfl)) ?_; (with_reducible refine (impl_SymbolOf.calls kj5 t199 (wrap64 (1 - t199)) t201 t204 _ A10.out).mono ?_); rintro e w' ⟨rfl, ⟨nd, rfl⟩⟩; refine ⟨_, rfl, ?_⟩))
                go_ret
                exact ⟨by first | rfl | (simp [errW_none, errW_some] <;> rfl) | (simp [*, errW_none, errW_some] <;> rfl), by repeat (first | (with_reducible first | exact HB.out | apply below_alloc | apply pw_below_drewN | apply below_drew1) | exact HB.out)⟩

/-- THE ONE PURE STATEMENT of laws_FnSteinberg: yours. -/
def laws_FnSteinberg.Pure : Prop := ∀ (l0 : List Int), l0.length ≤ maxLen → l0.length * 1 ≤ 140737488351232 → (∀ x ∈ l0, (Lit.int .u8 x).wf = true) → ∃ k, laws_FnSteinberg.f k l0 = some true
theorem laws_FnSteinberg.walk (P : laws_FnSteinberg.Pure) (a0 : Option Addr) (len0 cap0 : Nat) (z0 : List Int) (w : World) (w0 : (a0 = none ∧ len0 = 0 ∧ cap0 = 0 ∧ z0 = []) ∨ ∃ x, a0 = some x ∧ len0 ≤ cap0 ∧ cap0 ≤ maxLen ∧ z0.length = cap0 ∧ (∀ i, i < z0.length → w.cell? (x.add i) = some (.int .u8 (z0.getD i 0))) ∧ ∀ n ∈ z0, (Lit.int .u8 n).wf = true) (y0 : len0 * 1 ≤ 140737488351232) :
    Calls Try.prog 8 #[.slice a0 len0 cap0] w fun e w' => e = .returned (.bool true) ∧ Below w.heap.size w w' := by
  obtain ⟨l0, rfl, hr0, hm0, hw0, hc0⟩ := ReadsInt.ofRowC w0
  obtain ⟨k, h⟩ := P l0 hm0 y0 hw0
  refine (laws_FnSteinberg.calls k _ _ l0 true w (Kd.C_of_reads (d := (0 : Int)) (h1 := fun _ => rfl) hr0) hc0 h).mono ?_
  rintro e w' ⟨rfl, hd⟩
  exact ⟨rfl, hd⟩

end Go.Proofs.Ytnbelacakmfhcaa.PFnSteinberg

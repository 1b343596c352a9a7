-- PRINTED BY print.sh 35421559b90ae4d0a3588c463048766b98c2df88dd9212a6774a882060cdf62d: not written by this session
import Derived.Test.YtnbelacakmfhcaaPFnFindx0
import Derived.Test.YtnbelacakmfhcaaPFnFindx2
import Derived.Test.YtnbelacakmfhcaaPFnFindx3
import Derived.Test.YtnbelacakmfhcaaPFnFindx4
namespace Go.Proofs.Ytnbelacakmfhcaa.PFnFind
open Go.RowKit Go.Proofs.YtnbelacakmfhcaaW.PrintWords Go.Proofs.YtnbelacakmfhcaaW.PrintLast Go.Proofs.YtnbelacakmfhcaaW.PrintMore
attribute [local go_sem] max2_int min2_int max_two min_two max_three min_three max_four min_four   -- for this text's walks alone
set_option linter.unusedVariables false
set_option linter.unusedSimpArgs false

/-! ### laws_FnFind: function 13 -/
mutual
def laws_FnFind.j0 : Nat → Int → Int → Int → Bool → Int → Bool → Bool → Option (Bool)
  | 0, _, _, _, _, _, _, _ => none
  | k + 1, x3, x4, x5, x6, x7, x8, x43 => if x43 = true then (if (x6 == x8) = true then (some (x5 == x7)) else (some false)) else ((impl_LocalNames.f k x4).bind fun bt254 => (laws_FnFind.l0 k x3 x4 x5 bt254.1 bt254.2 0))
def laws_FnFind.l0 : Nat → Int → Int → Int → List Int → Bool → Int → Option (Bool)
  | 0, _, _, _, _, _, _ => none
  | k + 1, x3, x4, x5, x9, x10, x11 => if x11 < (x9.length : Int) then (if 0 ≤ x11 then (laws_FnFind.j2 k x3 x4 x5 x9 x10 x11 ((rd x9 x11) != x5)) else (none)) else (laws_FnFind.j2 k x3 x4 x5 x9 x10 x11 false)
def laws_FnFind.j2 : Nat → Int → Int → Int → List Int → Bool → Int → Bool → Option (Bool)
  | 0, _, _, _, _, _, _, _ => none
  | k + 1, x3, x4, x5, x9, x10, x11, x68 => if x68 = true then (if 0 ≤ x11 then (if x11 < (x9.length : Int) then ((impl_SymbolOf.f k x3 (rd x9 x11) x4).bind fun t260 => (if t260 = 1 then (laws_FnFind.l0 k x3 x4 x5 x9 x10 (wrap64 (x11 + 1))) else (some false))) else (none)) else (none)) else (if x10 = true then ((laws_hasInt.f k x9 x5).bind fun t261 => (if t261 = true then ((impl_SymbolOf.f k x3 x5 x4).bind fun t262 => (if t262 = (-1) then ((impl_LocalSquare.f k x3 x4).bind fun t263 => (some (!t263))) else (some false))) else (some false))) else (some false))
end
def laws_FnFind.f (k : Nat) (l0 : List Int) : Option (Bool) := if (l0.length : Int) > 1048576 then (some true) else ((spec_DrawSymbolFind.f k l0).bind fun bt248 => ((impl_SymbolFind.f k bt248.1 bt248.2).bind fun bt250 => ((spec_SymbolFind.f k bt248.1 bt248.2).bind fun bt252 => (if (bt250.2 != bt252.2) = true then (laws_FnFind.j0 k bt248.1 bt248.2 bt250.1 bt250.2 bt252.1 bt252.2 true) else (if bt250.1 = bt252.1 then (laws_FnFind.j0 k bt248.1 bt248.2 bt250.1 bt250.2 bt252.1 bt252.2 (!bt250.2)) else (laws_FnFind.j0 k bt248.1 bt248.2 bt250.1 bt250.2 bt252.1 bt252.2 true))))))
theorem laws_FnFind.mono_l : ∀ k, (∀ y0 y1 y2 y3 y4 y5 y6, LeO (laws_FnFind.j0 k y0 y1 y2 y3 y4 y5 y6) (laws_FnFind.j0 (k + 1) y0 y1 y2 y3 y4 y5 y6)) ∧ (∀ y0 y1 y2 y3 y4 y5, LeO (laws_FnFind.l0 k y0 y1 y2 y3 y4 y5) (laws_FnFind.l0 (k + 1) y0 y1 y2 y3 y4 y5)) ∧ (∀ y0 y1 y2 y3 y4 y5 y6, LeO (laws_FnFind.j2 k y0 y1 y2 y3 y4 y5 y6) (laws_FnFind.j2 (k + 1) y0 y1 y2 y3 y4 y5 y6))
  | 0 => ⟨fun _ _ _ _ _ _ _ r h => by simp [laws_FnFind.j0] at h, fun _ _ _ _ _ _ r h => by simp [laws_FnFind.l0] at h, fun _ _ _ _ _ _ _ r h => by simp [laws_FnFind.j2] at h⟩
  | k + 1 => by
    obtain ⟨ih0, ih1, ih2⟩ := laws_FnFind.mono_l k
    refine ⟨?_, ?_, ?_⟩
    · intro y0 y1 y2 y3 y4 y5 y6
      unfold laws_FnFind.j0
      repeat' first
      | (with_reducible exact ih0 _ _ _ _ _ _ _)
      | (with_reducible exact ih1 _ _ _ _ _ _)
      | (with_reducible exact ih2 _ _ _ _ _ _ _)
      | (with_reducible exact impl_LocalNames.mono _ _)
      | (with_reducible exact impl_LocalSquare.mono _ _ _)
      | (with_reducible exact impl_SymbolFind.mono _ _ _)
      | (with_reducible exact impl_SymbolOf.mono _ _ _ _)
      | (with_reducible exact laws_hasInt.mono _ _ _)
      | (with_reducible exact spec_DrawSymbolFind.mono _ _)
      | (with_reducible exact spec_SymbolFind.mono _ _ _)
      | (with_reducible exact LeO.refl _)
      | (with_reducible exact LeO.none _)
      | (with_reducible refine LeO.ite ?_ ?_)
      | (with_reducible refine LeO.bind ?_ (fun _ => ?_))
      | exact ih0 _ _ _ _ _ _ _
      | exact ih1 _ _ _ _ _ _
      | exact ih2 _ _ _ _ _ _ _
      | exact impl_LocalNames.mono _ _
      | exact impl_LocalSquare.mono _ _ _
      | exact impl_SymbolFind.mono _ _ _
      | exact impl_SymbolOf.mono _ _ _ _
      | exact laws_hasInt.mono _ _ _
      | exact spec_DrawSymbolFind.mono _ _
      | exact spec_SymbolFind.mono _ _ _
      | exact LeO.none _
      | refine LeO.ite ?_ ?_
      | refine LeO.bind ?_ (fun _ => ?_)
    · intro y0 y1 y2 y3 y4 y5
      unfold laws_FnFind.l0
      repeat' first
      | (with_reducible exact ih0 _ _ _ _ _ _ _)
      | (with_reducible exact ih1 _ _ _ _ _ _)
      | (with_reducible exact ih2 _ _ _ _ _ _ _)
      | (with_reducible exact impl_LocalNames.mono _ _)
      | (with_reducible exact impl_LocalSquare.mono _ _ _)
      | (with_reducible exact impl_SymbolFind.mono _ _ _)
      | (with_reducible exact impl_SymbolOf.mono _ _ _ _)
      | (with_reducible exact laws_hasInt.mono _ _ _)
      | (with_reducible exact spec_DrawSymbolFind.mono _ _)
      | (with_reducible exact spec_SymbolFind.mono _ _ _)
      | (with_reducible exact LeO.refl _)
      | (with_reducible exact LeO.none _)
      | (with_reducible refine LeO.ite ?_ ?_)
      | (with_reducible refine LeO.bind ?_ (fun _ => ?_))
      | exact ih0 _ _ _ _ _ _ _
      | exact ih1 _ _ _ _ _ _
      | exact ih2 _ _ _ _ _ _ _
      | exact impl_LocalNames.mono _ _
      | exact impl_LocalSquare.mono _ _ _
      | exact impl_SymbolFind.mono _ _ _
      | exact impl_SymbolOf.mono _ _ _ _
      | exact laws_hasInt.mono _ _ _
      | exact spec_DrawSymbolFind.mono _ _
      | exact spec_SymbolFind.mono _ _ _
      | exact LeO.none _
      | refine LeO.ite ?_ ?_
      | refine LeO.bind ?_ (fun _ => ?_)
    · intro y0 y1 y2 y3 y4 y5 y6
      unfold laws_FnFind.j2
      repeat' first
      | (with_reducible exact ih0 _ _ _ _ _ _ _)
      | (with_reducible exact ih1 _ _ _ _ _ _)
      | (with_reducible exact ih2 _ _ _ _ _ _ _)
      | (with_reducible exact impl_LocalNames.mono _ _)
      | (with_reducible exact impl_LocalSquare.mono _ _ _)
      | (with_reducible exact impl_SymbolFind.mono _ _ _)
      | (with_reducible exact impl_SymbolOf.mono _ _ _ _)
      | (with_reducible exact laws_hasInt.mono _ _ _)
      | (with_reducible exact spec_DrawSymbolFind.mono _ _)
      | (with_reducible exact spec_SymbolFind.mono _ _ _)
      | (with_reducible exact LeO.refl _)
      | (with_reducible exact LeO.none _)
      | (with_reducible refine LeO.ite ?_ ?_)
      | (with_reducible refine LeO.bind ?_ (fun _ => ?_))
      | exact ih0 _ _ _ _ _ _ _
      | exact ih1 _ _ _ _ _ _
      | exact ih2 _ _ _ _ _ _ _
      | exact impl_LocalNames.mono _ _
      | exact impl_LocalSquare.mono _ _ _
      | exact impl_SymbolFind.mono _ _ _
      | exact impl_SymbolOf.mono _ _ _ _
      | exact laws_hasInt.mono _ _ _
      | exact spec_DrawSymbolFind.mono _ _
      | exact spec_SymbolFind.mono _ _ _
      | exact LeO.none _
      | refine LeO.ite ?_ ?_
      | refine LeO.bind ?_ (fun _ => ?_)
theorem laws_FnFind.mono : ∀ a0 k, LeO (laws_FnFind.f k a0) (laws_FnFind.f (k + 1) a0) := by
  intro a0 k
  obtain ⟨ih0, ih1, ih2⟩ := laws_FnFind.mono_l k
  unfold laws_FnFind.f
  repeat' first
      | (with_reducible exact ih0 _ _ _ _ _ _ _)
      | (with_reducible exact ih1 _ _ _ _ _ _)
      | (with_reducible exact ih2 _ _ _ _ _ _ _)
      | (with_reducible exact impl_LocalNames.mono _ _)
      | (with_reducible exact impl_LocalSquare.mono _ _ _)
      | (with_reducible exact impl_SymbolFind.mono _ _ _)
      | (with_reducible exact impl_SymbolOf.mono _ _ _ _)
      | (with_reducible exact laws_hasInt.mono _ _ _)
      | (with_reducible exact spec_DrawSymbolFind.mono _ _)
      | (with_reducible exact spec_SymbolFind.mono _ _ _)
      | (with_reducible exact LeO.refl _)
      | (with_reducible exact LeO.none _)
      | (with_reducible refine LeO.ite ?_ ?_)
      | (with_reducible refine LeO.bind ?_ (fun _ => ?_))
      | exact ih0 _ _ _ _ _ _ _
      | exact ih1 _ _ _ _ _ _
      | exact ih2 _ _ _ _ _ _ _
      | exact impl_LocalNames.mono _ _
      | exact impl_LocalSquare.mono _ _ _
      | exact impl_SymbolFind.mono _ _ _
      | exact impl_SymbolOf.mono _ _ _ _
      | exact laws_hasInt.mono _ _ _
      | exact spec_DrawSymbolFind.mono _ _
      | exact spec_SymbolFind.mono _ _ _
      | exact LeO.none _
      | refine LeO.ite ?_ ?_
      | refine LeO.bind ?_ (fun _ => ?_)
set_option maxHeartbeats 8000000 in
set_option maxRecDepth 100000 in
theorem laws_FnFind.calls (k : Nat) (A0 : Option Addr) (c0 : Nat) (l0 : List Int) (r : Bool) (w : World) (hr0 : Kd.C (Kd.int .u8) w A0 l0.length l0) (hc0 : l0.length ≤ c0) (h : laws_FnFind.f k l0 = some r) :
    Calls Try.prog 13 #[.slice A0 l0.length c0] w fun e w' => e = .returned (.bool r) ∧ Below w.heap.size w w' := by
  have HR0 := Aside0.mk hr0
  have HC0 := Aside0.mk hc0
  clear hr0 hc0
  have HB := Aside0.mk (Below.refl w.heap.size w)
  have H : (if (l0.length : Int) > 1048576 then (some true) else ((spec_DrawSymbolFind.f k l0).bind fun bt248 => ((impl_SymbolFind.f k bt248.1 bt248.2).bind fun bt250 => ((spec_SymbolFind.f k bt248.1 bt248.2).bind fun bt252 => (if (bt250.2 != bt252.2) = true then (laws_FnFind.j0 k bt248.1 bt248.2 bt250.1 bt250.2 bt252.1 bt252.2 true) else (if bt250.1 = bt252.1 then (laws_FnFind.j0 k bt248.1 bt248.2 bt250.1 bt250.2 bt252.1 bt252.2 (!bt250.2)) else (laws_FnFind.j0 k bt248.1 bt248.2 bt250.1 bt250.2 bt252.1 bt252.2 true))))))) = some r := h
  clear h
  by_cases c2 : (l0.length : Int) > 1048576
  · rw [if_pos c2] at H
    have c2b0 : decide (1048576 < (l0.length : Int)) = true := decide_eq_true c2
    have c2b1 : decide (1048576 < l0.length) = true := decide_eq_true (by omega)
    clear c2
    obtain rfl := Option.some.inj H
    go_enter Try.func13, Try.ntmps13
    go_wp2
    go_ret
    exact ⟨by first | rfl | (simp [errW_none, errW_some] <;> rfl) | (simp [*, errW_none, errW_some] <;> rfl), by repeat (first | (with_reducible first | exact HB.out | apply below_alloc | apply pw_below_drewN | apply below_drew1) | exact HB.out)⟩
  · rw [if_neg c2] at H
    have c2b0 : decide (1048576 < (l0.length : Int)) = false := decide_eq_false c2
    have c2b1 : decide (1048576 < l0.length) = false := decide_eq_false (by omega)
    clear c2
    replace H := Option.bind_eq_some_iff.mp H
    obtain ⟨⟨t248, t249⟩, A30, H⟩ := H
    replace H : ((impl_SymbolFind.f k t248 t249).bind fun bt250 => ((spec_SymbolFind.f k t248 t249).bind fun bt252 => (if (bt250.2 != bt252.2) = true then (laws_FnFind.j0 k t248 t249 bt250.1 bt250.2 bt252.1 bt252.2 true) else (if bt250.1 = bt252.1 then (laws_FnFind.j0 k t248 t249 bt250.1 bt250.2 bt252.1 bt252.2 (!bt250.2)) else (laws_FnFind.j0 k t248 t249 bt250.1 bt250.2 bt252.1 bt252.2 true))))) = some r := H
    have A3 := Aside0.mk A30
    clear A30
    replace H := Option.bind_eq_some_iff.mp H
    obtain ⟨⟨t250, t251⟩, A40, H⟩ := H
    replace H : ((spec_SymbolFind.f k t248 t249).bind fun bt252 => (if (t251 != bt252.2) = true then (laws_FnFind.j0 k t248 t249 t250 t251 bt252.1 bt252.2 true) else (if t250 = bt252.1 then (laws_FnFind.j0 k t248 t249 t250 t251 bt252.1 bt252.2 (!t251)) else (laws_FnFind.j0 k t248 t249 t250 t251 bt252.1 bt252.2 true)))) = some r := H
    have A4 := Aside0.mk A40
    clear A40
    replace H := Option.bind_eq_some_iff.mp H
    obtain ⟨⟨t252, t253⟩, A50, H⟩ := H
    replace H : (if (t251 != t253) = true then (laws_FnFind.j0 k t248 t249 t250 t251 t252 t253 true) else (if t250 = t252 then (laws_FnFind.j0 k t248 t249 t250 t251 t252 t253 (!t251)) else (laws_FnFind.j0 k t248 t249 t250 t251 t252 t253 true))) = some r := H
    have A5 := Aside0.mk A50
    clear A50
    have HC6 := Aside0.mk H
    clear H
    go_enter Try.func13, Try.ntmps13
    go_upto_region 6 with (first | ((with_reducible refine gate_callee (f := 43) rfl ?_); refine goesL_ (some 17) rfl rfl Try.func43 (by kernel_rfl) rfl #[.slice A0 l0.length c0] rfl (by (try simp only [List.map_toArray, List.map_cons, List.map_nil]); first | done | rfl | (simp only [List.length_drop, List.length_take]; rfl)) ?_; (with_reducible refine (spec_DrawSymbolFind.calls k _ _ l0 t248 t249 _ ?side1 ?side2 A3.out).mono ?_); (case side1 => repeat (first | exact HR0.out | (with_reducible refine Kd.C_alloc ?_ _) | (with_reducible refine Kd.C_drewN ?_ _) | (with_reducible refine Kd.C_drew ?_))); (case side2 => exact HC0.out); rintro e w7 ⟨rfl, hb⟩; refine ⟨_, rfl, ?_⟩; have n0_ := Aside0.mk (below_step (by repeat (first | (with_reducible first | exact HB.out | apply below_alloc | apply pw_below_drewN | apply below_drew1) | exact HB.out)) hb); clear HB; have HB := n0_; clear n0_; (try clear hb); (try clear hb2); (try clear hk); (try clear hi)) | ((with_reducible refine gate_callee (f := 16) rfl ?_); refine goesL_ (some 23) rfl rfl Try.func16 (by kernel_rfl) rfl #[.int .i64 t248, .int .i64 t249] rfl (by (try simp only [List.map_toArray, List.map_cons, List.map_nil]); first | done | rfl | (simp only [List.length_drop, List.length_take]; rfl)) ?_; (with_reducible refine (impl_SymbolFind.calls k t248 t249 t250 t251 _ A4.out).mono ?_); rintro e w8 ⟨rfl, hb⟩; refine ⟨_, rfl, ?_⟩; have n0_ := Aside0.mk (below_step (by repeat (first | (with_reducible first | exact HB.out | apply below_alloc | apply pw_below_drewN | apply below_drew1) | exact HB.out)) hb); clear HB; have HB := n0_; clear n0_; (try clear hb); (try clear hb2); (try clear hk); (try clear hi)) | ((with_reducible refine gate_callee (f := 15) rfl ?_); refine goesL_ (some 29) rfl rfl Try.func15 (by kernel_rfl) rfl #[.int .i64 t248, .int .i64 t249] rfl (by (try simp only [List.map_toArray, List.map_cons, List.map_nil]); first | done | rfl | (simp only [List.length_drop, List.length_take]; rfl)) ?_; (with_reducible refine (spec_SymbolFind.calls k t248 t249 t252 t253 _ A5.out).mono ?_); rintro e w9 ⟨rfl, hb⟩; refine ⟨_, rfl, ?_⟩; have n0_ := Aside0.mk (below_step (by repeat (first | (with_reducible first | exact HB.out | apply below_alloc | apply pw_below_drewN | apply below_drew1) | exact HB.out)) hb); clear HB; have HB := n0_; clear n0_; (try clear hb); (try clear hb2); (try clear hk); (try clear hi)))
    (try simp only [Act.put, List.setIfInBounds_toArray, List.set_cons_zero, List.set_cons_succ])
    go_cut [43] (fun v43 wc => ∃ (kq : Nat) (x43_5 : Bool), v43 = .bool x43_5 ∧ Aside0 (laws_FnFind.j0 kq t248 t249 t250 t251 t252 t253 x43_5 = some r) ∧ Aside0 (kq ≤ k) ∧ Aside0 (Below w.heap.size w wc))
    case first =>
      have H := HC6.out
      clear HC6
      by_cases c10 : (t251 != t253) = true
      · rw [if_pos c10] at H
        have c10b0 : (t251 != t253) = true := c10
        (try (have c10b1 : decide (t251 = t253) = false := by simpa using c10))
        (try (have c10b2 : (t251 == t253) = false := by simpa using c10))
        (try (have c10b3 : ¬ (t251 = t253) := by simpa using c10))
        clear c10
        (first | rw [c10b0] | (simp only [i64_w, i32_w]; rw [c10b0]) | skip)
        have H' := Aside0.mk H
        clear H
        go_wp2
        go_meet
        case rel => exact ⟨_, (true), (by first | rfl | (simp; done) | (simp [*]; done)), H', ⟨by first | omega | exact Nat.le_refl _⟩, ⟨by repeat (first | (with_reducible first | exact HB.out | apply below_alloc | apply pw_below_drewN | apply below_drew1) | exact HB.out)⟩⟩
      · rw [if_neg c10] at H
        have c10b0 : (t251 != t253) = false := by simpa using c10
        (try (have c10b1 : decide (t251 = t253) = true := by simpa using c10))
        (try (have c10b2 : (t251 == t253) = true := by simpa using c10))
        clear c10
        (first | rw [c10b0] | (simp only [i64_w, i32_w]; rw [c10b0]) | skip)
        by_cases c11 : t250 = t252
        · rw [if_pos c11] at H
          have c11b0 : (t250 == t252) = true := beq_iff_eq.mpr c11
          have c11b1 : (t250 != t252) = false := bne_eq_false_iff_eq.mpr c11
          clear c11
          have H' := Aside0.mk H
          clear H
          go_wp2
          go_meet
          case rel => exact ⟨_, (!t251), (by first | rfl | (simp; done) | (simp [*]; done)), H', ⟨by first | omega | exact Nat.le_refl _⟩, ⟨by repeat (first | (with_reducible first | exact HB.out | apply below_alloc | apply pw_below_drewN | apply below_drew1) | exact HB.out)⟩⟩
        · rw [if_neg c11] at H
          have c11b0 : (t250 == t252) = false := beq_eq_false_iff_ne.mpr c11
          have c11b1 : (t250 != t252) = true := bne_iff_ne.mpr c11
          have H' := Aside0.mk H
          clear H
          go_wp2
          go_meet
          case rel => exact ⟨_, (true), (by first | rfl | (simp; done) | (simp [*]; done)), H', ⟨by first | omega | exact Nat.le_refl _⟩, ⟨by repeat (first | (with_reducible first | exact HB.out | apply below_alloc | apply pw_below_drewN | apply below_drew1) | exact HB.out)⟩⟩
    case rest =>
      clear HC6
      try clear c1
      try clear c2
      try clear c2b0
      try clear c2b1
      try clear p2
      try clear c4
      try clear c10
      try clear c10b0
      try clear c10b1
      try clear c10b2
      try clear c11
      try clear c11b0
      try clear c11b1
      obtain ⟨kq, x43_5, rfl, HA, HJ5, HB⟩ := hcut
      cases kq with
      | zero => exact absurd HA.out (by simp [laws_FnFind.j0])
      | succ kj5 =>
        have H := HA.out
        clear HA
        simp only [laws_FnFind.j0] at H
        by_cases c12 : x43_5 = true
        · subst c12
          have H1 : (if (t251 == t253) = true then (some (t250 == t252)) else (some false)) = some r := by rw [if_pos rfl] at H; exact H
          clear H
          have H := H1
          clear H1
          by_cases c13 : (t251 == t253) = true
          · rw [if_pos c13] at H
            have c13b0 : (t251 == t253) = true := c13
            (try (have c13b1 : decide (t251 = t253) = true := by simpa using c13))
            (try (have c13b2 : (t251 == t253) = true := by simpa using c13))
            clear c13
            obtain rfl := Option.some.inj H
            go_wp2
            go_ret
            exact ⟨by first | rfl | (simp [errW_none, errW_some] <;> rfl) | (simp [*, errW_none, errW_some] <;> rfl), by repeat (first | (with_reducible first | exact HB.out | apply below_alloc | apply pw_below_drewN | apply below_drew1) | exact HB.out)⟩
          · rw [if_neg c13] at H
            have c13b0 : (t251 == t253) = false := by simpa using c13
            (try (have c13b1 : decide (t251 = t253) = false := by simpa using c13))
            (try (have c13b2 : (t251 == t253) = false := by simpa using c13))
            (try (have c13b3 : ¬ (t251 = t253) := by simpa using c13))
            clear c13
            obtain rfl := Option.some.inj H
            go_wp2
            go_ret
            exact ⟨by first | rfl | (simp [errW_none, errW_some] <;> rfl) | (simp [*, errW_none, errW_some] <;> rfl), by repeat (first | (with_reducible first | exact HB.out | apply below_alloc | apply pw_below_drewN | apply below_drew1) | exact HB.out)⟩
        · replace c12 := Bool.eq_false_iff.mpr c12
          subst c12
          have H1 : ((impl_LocalNames.f kj5 t249).bind fun bt254 => (laws_FnFind.l0 kj5 t248 t249 t250 bt254.1 bt254.2 0)) = some r := by rw [if_neg (show ¬ (false = true) by decide)] at H; exact H
          clear H
          have H := H1
          clear H1
          replace H := Option.bind_eq_some_iff.mp H
          obtain ⟨⟨t254, t255⟩, A140, H⟩ := H
          replace H : (laws_FnFind.l0 kj5 t248 t249 t250 t254 t255 0) = some r := H
          have A14 := Aside0.mk A140
          clear A140
          have H' := Aside0.mk H
          clear H
          go_wp2_with (first | ((with_reducible refine gate_callee (f := 37) rfl ?_); refine goesL_ (some 54) rfl rfl Try.func37 (by kernel_rfl) rfl #[.int .i64 t249] rfl (by (try simp only [List.map_toArray, List.map_cons, List.map_nil]); first | done | rfl | (simp only [List.length_drop, List.length_take]; rfl)) ?_; (with_reducible refine (impl_LocalNames.calls kj5 t249 t254 t255 _ A14.out).mono ?_); rintro e w15 ⟨v256, rfl, ho0, hb⟩; refine ⟨_, rfl, ?_⟩; have n0_ := Aside0.mk (Kd.R_lower ho0 (below_size (by repeat (first | (with_reducible first | exact HB.out | apply below_alloc | apply pw_below_drewN | apply below_drew1) | exact HB.out)))); have n1_ := Aside0.mk (below_step (by repeat (first | (with_reducible first | exact HB.out | apply below_alloc | apply pw_below_drewN | apply below_drew1) | exact HB.out)) hb); clear HB; have HO257 := n0_; have HB := n1_; clear n0_ n1_; (try clear hb); (try clear hb2); (try clear hk); (try clear hi); (try clear ho0)))
          go_loopg [11] kj5 (fun kq v11 w' => ∃ (x11_2 : Int), v11 = .int .i64 x11_2 ∧ Aside0 (laws_FnFind.l0 kq t248 t249 t250 t254 t255 x11_2 = some r) ∧ Aside0 (kq ≤ kj5) ∧ Aside0 (Kd.R (Kd.int .i64) 3 w' w.heap.size (fun _ => True) v256 t254) ∧ Aside0 (Below w.heap.size w w'))
          case atStart => exact ⟨(0), (by first | rfl | (simp; done) | (simp [*]; done)), H', ⟨Nat.le_refl _⟩, ⟨by (with_reducible repeat (first | apply Kd.R_alloc | apply Kd.R_drewN | apply Kd.R_drew)); exact HO257.out⟩, ⟨by repeat (first | (with_reducible first | exact HB.out | apply below_alloc | apply pw_below_drewN | apply below_drew1) | exact HB.out)⟩⟩
          case round =>
            clear H'
            try clear c1
            try clear c2
            try clear c2b0
            try clear c2b1
            try clear p2
            try clear c3
            try clear c4
            try clear c10
            try clear c10b0
            try clear c10b1
            try clear c10b2
            try clear c11
            try clear c11b0
            try clear c11b1
            try clear c12
            try clear c13
            try clear c13b0
            try clear c13b1
            try clear c13b2
            try clear c15
            try clear p2
            obtain ⟨x11_2, rfl, HA, HK2, HO_9, HB⟩ := hrel
            cases gk with
            | zero => exact absurd HA.out (by simp [laws_FnFind.l0])
            | succ k2 =>
              have H := HA.out
              clear HA
              simp only [laws_FnFind.l0] at H
              have HC16 := Aside0.mk H
              clear H
              go_upto_region 10 with (fail)
              go_cut [68] (fun v68 wc => ∃ (kq : Nat) (x68_15 : Bool), v68 = .bool x68_15 ∧ Aside0 (laws_FnFind.j2 kq t248 t249 t250 t254 t255 x11_2 x68_15 = some r) ∧ Aside0 (kq ≤ k2) ∧ Aside0 (Kd.R (Kd.int .i64) 3 wc w.heap.size (fun _ => True) v256 t254) ∧ Aside0 (Below w.heap.size w wc))
              case first =>
                have H := HC16.out
                clear HC16
                by_cases c17 : x11_2 < (t254.length : Int)
                · rw [if_pos c17] at H
                  have c17b0 : decide (x11_2 < (t254.length : Int)) = true := decide_eq_true c17
                  clear c17
                  (first | rw [c17b0] | (simp only [i64_w, i32_w]; rw [c17b0]) | skip)
                  by_cases c18 : 0 ≤ x11_2
                  · rw [if_pos c18] at H
                    have c18b0 : decide (0 ≤ x11_2) = true := decide_eq_true c18
                    clear c18
                    have H' := Aside0.mk H
                    clear H
                    obtain ⟨Ao19, co19, eo19⟩ := Kd.R_slice HO_9.out
                    subst eo19
                    have p258 : 0 ≤ (x11_2 : Int) := of_decide_eq_true (by first | (with_reducible assumption) | assumption)
                    have q258 : x11_2 < (t254.length : Int) := of_decide_eq_true (by first | (with_reducible assumption) | assumption)
                    obtain ⟨ad258, e258, hx258_0⟩ := Kd.at_int (Kd.R_reads' HO_9.out).2.2 x11_2 p258 q258
                    cases e258
                    replace p258 := eq_true p258
                    replace q258 := eq_true q258
                    go_wp2
                    go_meet
                    case rel => exact ⟨_, (((rd t254 x11_2) != t250)), (by first | rfl | (simp; done) | (simp [*]; done)), H', ⟨by have := HJ5.out; have := HK2.out; first | omega | exact Nat.le_refl _⟩, ⟨by (with_reducible repeat (first | apply Kd.R_alloc | apply Kd.R_drewN | apply Kd.R_drew)); exact HO_9.out⟩, ⟨by repeat (first | (with_reducible first | exact HB.out | apply below_alloc | apply pw_below_drewN | apply below_drew1) | exact HB.out)⟩⟩
                  · rw [if_neg c18] at H
                    exact absurd H (by simp)
                · rw [if_neg c17] at H
                  have c17b0 : decide (x11_2 < (t254.length : Int)) = false := decide_eq_false c17
                  clear c17
                  (first | rw [c17b0] | (simp only [i64_w, i32_w]; rw [c17b0]) | skip)
                  have H' := Aside0.mk H
                  clear H
                  obtain ⟨Ao20, co20, eo20⟩ := Kd.R_slice HO_9.out
                  subst eo20
                  go_wp2
                  go_meet
                  case rel => exact ⟨_, (false), (by first | rfl | (simp; done) | (simp [*]; done)), H', ⟨by have := HJ5.out; have := HK2.out; first | omega | exact Nat.le_refl _⟩, ⟨by (with_reducible repeat (first | apply Kd.R_alloc | apply Kd.R_drewN | apply Kd.R_drew)); exact HO_9.out⟩, ⟨by repeat (first | (with_reducible first | exact HB.out | apply below_alloc | apply pw_below_drewN | apply below_drew1) | exact HB.out)⟩⟩
              case rest =>
                clear HC16
                try clear c1
                try clear c2
                try clear c2b0
                try clear c2b1
                try clear p2
                try clear q2
                try clear hx2
                try clear c3
                try clear c4
                try clear c10
                try clear c10b0
                try clear c10b1
                try clear c10b2
                try clear c11
                try clear c11b0
                try clear c11b1
                try clear c12
                try clear c13
                try clear c13b0
                try clear c13b1
                try clear c13b2
                try clear c15
                try clear c16
                try clear c17
                try clear c17b0
                try clear c18
                try clear c18b0
                try clear hx258_0
                try clear p2
                try clear p258
                try clear q258
                obtain ⟨kq, x68_15, rfl, HA, HJ15, HO_9, HB⟩ := hcut
                cases kq with
                | zero => exact absurd HA.out (by simp [laws_FnFind.j2])
                | succ kj15 =>
                  have H := HA.out
                  clear HA
                  simp only [laws_FnFind.j2] at H
                  by_cases c21 : x68_15 = true
                  · subst c21
                    have H1 : (if 0 ≤ x11_2 then (if x11_2 < (t254.length : Int) then ((impl_SymbolOf.f kj15 t248 (rd t254 x11_2) t249).bind fun t260 => (if t260 = 1 then (laws_FnFind.l0 kj15 t248 t249 t250 t254 t255 (wrap64 (x11_2 + 1))) else (some false))) else (none)) else (none)) = some r := by rw [if_pos rfl] at H; exact H
                    clear H
                    have H := H1
                    clear H1
                    by_cases c22 : 0 ≤ x11_2
                    · rw [if_pos c22] at H
                      have c22b0 : decide (0 ≤ x11_2) = true := decide_eq_true c22
                      clear c22
                      by_cases c23 : x11_2 < (t254.length : Int)
                      · rw [if_pos c23] at H
                        have c23b0 : decide (x11_2 < (t254.length : Int)) = true := decide_eq_true c23
                        clear c23
                        replace H := Option.bind_eq_some_iff.mp H
                        obtain ⟨t260, A240, H⟩ := H
                        replace H : (if t260 = 1 then (laws_FnFind.l0 kj15 t248 t249 t250 t254 t255 (wrap64 (x11_2 + 1))) else (some false)) = some r := H
                        have A24 := Aside0.mk A240
                        clear A240
                        by_cases c25 : t260 = 1
                        · rw [if_pos c25] at H
                          have c25b0 : (t260 == 1) = true := beq_iff_eq.mpr c25
                          have c25b1 : (t260 != 1) = false := bne_eq_false_iff_eq.mpr c25
                          clear c25
                          have H' := Aside0.mk H
                          clear H
                          obtain ⟨Ao26, co26, eo26⟩ := Kd.R_slice HO_9.out
                          subst eo26
                          have p259 : 0 ≤ (x11_2 : Int) := of_decide_eq_true (by first | (with_reducible assumption) | assumption)
                          have q259 : x11_2 < (t254.length : Int) := of_decide_eq_true (by first | (with_reducible assumption) | assumption)
                          obtain ⟨ad259, e259, hx259_0⟩ := Kd.at_int (Kd.R_reads' HO_9.out).2.2 x11_2 p259 q259
                          cases e259
                          replace p259 := eq_true p259
                          replace q259 := eq_true q259
                          go_wp2_with (first | ((with_reducible refine gate_callee (f := 29) rfl ?_); refine goesL_ (some 77) rfl rfl Try.func29 (by kernel_rfl) rfl #[.int .i64 t248, .int .i64 (rd t254 x11_2), .int .i64 t249] rfl (by (try simp only [List.map_toArray, List.map_cons, List.map_nil]); first | done | rfl | (simp only [List.length_drop, List.length_take]; rfl)) ?_; (with_reducible refine (impl_SymbolOf.calls kj15 t248 (rd t254 x11_2) t249 t260 _ A24.out).mono ?_); rintro e w' ⟨rfl, ⟨nd, rfl⟩⟩; refine ⟨_, rfl, ?_⟩))
                          go_roundg kj15
                          case measure => have := HJ5.out; have := HK2.out; have := HJ15.out; omega
                          case rel => exact ⟨(wrap64 (x11_2 + 1)), (by first | rfl | (simp; done) | (simp [*]; done)), H', ⟨by have := HJ5.out; have := HK2.out; have := HJ15.out; omega⟩, ⟨by (with_reducible repeat (first | apply Kd.R_alloc | apply Kd.R_drewN | apply Kd.R_drew)); exact HO_9.out⟩, ⟨by repeat (first | (with_reducible first | exact HB.out | apply below_alloc | apply pw_below_drewN | apply below_drew1) | exact HB.out)⟩⟩
                        · rw [if_neg c25] at H
                          have c25b0 : (t260 == 1) = false := beq_eq_false_iff_ne.mpr c25
                          have c25b1 : (t260 != 1) = true := bne_iff_ne.mpr c25
                          obtain rfl := Option.some.inj H
                          obtain ⟨Ao27, co27, eo27⟩ := Kd.R_slice HO_9.out
                          subst eo27
                          have p259 : 0 ≤ (x11_2 : Int) := of_decide_eq_true (by first | (with_reducible assumption) | assumption)
                          have q259 : x11_2 < (t254.length : Int) := of_decide_eq_true (by first | (with_reducible assumption) | assumption)
                          obtain ⟨ad259, e259, hx259_0⟩ := Kd.at_int (Kd.R_reads' HO_9.out).2.2 x11_2 p259 q259
                          cases e259
                          replace p259 := eq_true p259
                          replace q259 := eq_true q259
                          go_wp2_with (first | ((with_reducible refine gate_callee (f := 29) rfl ?_); refine goesL_ (some 77) rfl rfl Try.func29 (by kernel_rfl) rfl #[.int .i64 t248, .int .i64 (rd t254 x11_2), .int .i64 t249] rfl (by (try simp only [List.map_toArray, List.map_cons, List.map_nil]); first | done | rfl | (simp only [List.length_drop, List.length_take]; rfl)) ?_; (with_reducible refine (impl_SymbolOf.calls kj15 t248 (rd t254 x11_2) t249 t260 _ A24.out).mono ?_); rintro e w' ⟨rfl, ⟨nd, rfl⟩⟩; refine ⟨_, rfl, ?_⟩))
                          go_ret
                          exact ⟨by first | rfl | (simp [errW_none, errW_some] <;> rfl) | (simp [*, errW_none, errW_some] <;> rfl), by repeat (first | (with_reducible first | exact HB.out | apply below_alloc | apply pw_below_drewN | apply below_drew1) | exact HB.out)⟩
                      · rw [if_neg c23] at H
                        exact absurd H (by simp)
                    · rw [if_neg c22] at H
                      exact absurd H (by simp)
                  · replace c21 := Bool.eq_false_iff.mpr c21
                    subst c21
                    have H1 : (if t255 = true then ((laws_hasInt.f kj15 t254 t250).bind fun t261 => (if t261 = true then ((impl_SymbolOf.f kj15 t248 t250 t249).bind fun t262 => (if t262 = (-1) then ((impl_LocalSquare.f kj15 t248 t249).bind fun t263 => (some (!t263))) else (some false))) else (some false))) else (some false)) = some r := by rw [if_neg (show ¬ (false = true) by decide)] at H; exact H
                    clear H
                    have H := H1
                    clear H1
                    by_cases c28 : t255 = true
                    · subst c28
                      have H1 : ((laws_hasInt.f kj15 t254 t250).bind fun t261 => (if t261 = true then ((impl_SymbolOf.f kj15 t248 t250 t249).bind fun t262 => (if t262 = (-1) then ((impl_LocalSquare.f kj15 t248 t249).bind fun t263 => (some (!t263))) else (some false))) else (some false))) = some r := by rw [if_pos rfl] at H; exact H
                      clear H
                      have H := H1
                      clear H1
                      replace H := Option.bind_eq_some_iff.mp H
                      obtain ⟨t261, A290, H⟩ := H
                      replace H : (if t261 = true then ((impl_SymbolOf.f kj15 t248 t250 t249).bind fun t262 => (if t262 = (-1) then ((impl_LocalSquare.f kj15 t248 t249).bind fun t263 => (some (!t263))) else (some false))) else (some false)) = some r := H
                      have A29 := Aside0.mk A290
                      clear A290
                      by_cases c30 : t261 = true
                      · subst c30
                        have H1 : ((impl_SymbolOf.f kj15 t248 t250 t249).bind fun t262 => (if t262 = (-1) then ((impl_LocalSquare.f kj15 t248 t249).bind fun t263 => (some (!t263))) else (some false))) = some r := by rw [if_pos rfl] at H; exact H
                        clear H
                        have H := H1
                        clear H1
                        replace H := Option.bind_eq_some_iff.mp H
                        obtain ⟨t262, A310, H⟩ := H
                        replace H : (if t262 = (-1) then ((impl_LocalSquare.f kj15 t248 t249).bind fun t263 => (some (!t263))) else (some false)) = some r := H
                        have A31 := Aside0.mk A310
                        clear A310
                        by_cases c32 : t262 = (-1)
                        · rw [if_pos c32] at H
                          have c32b0 : (t262 == (-1)) = true := beq_iff_eq.mpr c32
                          have c32b1 : (t262 != (-1)) = false := bne_eq_false_iff_eq.mpr c32
                          clear c32
                          replace H := Option.bind_eq_some_iff.mp H
                          obtain ⟨t263, A330, H⟩ := H
                          replace H : (some (!t263)) = some r := H
                          have A33 := Aside0.mk A330
                          clear A330
                          obtain rfl := Option.some.inj H
                          obtain ⟨Ao34, co34, eo34⟩ := Kd.R_slice HO_9.out
                          subst eo34
                          go_wp2_with (first | (go_at_call 44; (with_reducible refine (laws_hasInt.calls kj15 _ _ t254 t250 true _ ?side1 ?side2 A29.out).mono ?_); (case side1 => repeat (first | exact (Kd.R_reads' HO_9.out).2.2 | (with_reducible refine Kd.C_alloc ?_ _) | (with_reducible refine Kd.C_drewN ?_ _) | (with_reducible refine Kd.C_drew ?_))); (case side2 => exact (Kd.R_reads' HO_9.out).2.1); rintro e w' ⟨rfl, ⟨nd, rfl⟩⟩) | (go_at_call 29; (with_reducible refine (impl_SymbolOf.calls kj15 t248 t250 t249 t262 _ A31.out).mono ?_); rintro e w' ⟨rfl, ⟨nd, rfl⟩⟩) | (go_at_call 42; (with_reducible refine (impl_LocalSquare.calls kj15 t248 t249 t263 _ A33.out).mono ?_); rintro e w' ⟨rfl, ⟨nd, rfl⟩⟩))
                          go_ret
                          exact ⟨by first | rfl | (simp [errW_none, errW_some] <;> rfl) | (simp [*, errW_none, errW_some] <;> rfl), by repeat (first | (with_reducible first | exact HB.out | apply below_alloc | apply pw_below_drewN | apply below_drew1) | exact HB.out)⟩
                        · rw [if_neg c32] at H
                          have c32b0 : (t262 == (-1)) = false := beq_eq_false_iff_ne.mpr c32
                          have c32b1 : (t262 != (-1)) = true := bne_iff_ne.mpr c32
                          obtain rfl := Option.some.inj H
                          obtain ⟨Ao35, co35, eo35⟩ := Kd.R_slice HO_9.out
                          subst eo35
                          go_wp2_with (first | (go_at_call 44; (with_reducible refine (laws_hasInt.calls kj15 _ _ t254 t250 true _ ?side1 ?side2 A29.out).mono ?_); (case side1 => repeat (first | exact (Kd.R_reads' HO_9.out).2.2 | (with_reducible refine Kd.C_alloc ?_ _) | (with_reducible refine Kd.C_drewN ?_ _) | (with_reducible refine Kd.C_drew ?_))); (case side2 => exact (Kd.R_reads' HO_9.out).2.1); rintro e w' ⟨rfl, ⟨nd, rfl⟩⟩) | (go_at_call 29; (with_reducible refine (impl_SymbolOf.calls kj15 t248 t250 t249 t262 _ A31.out).mono ?_); rintro e w' ⟨rfl, ⟨nd, rfl⟩⟩))
                          go_ret
                          exact ⟨by first | rfl | (simp [errW_none, errW_some] <;> rfl) | (simp [*, errW_none, errW_some] <;> rfl), by repeat (first | (with_reducible first | exact HB.out | apply below_alloc | apply pw_below_drewN | apply below_drew1) | exact HB.out)⟩
                      · replace c30 := Bool.eq_false_iff.mpr c30
                        subst c30
                        have H1 : (some false) = some r := by rw [if_neg (show ¬ (false = true) by decide)] at H; exact H
                        clear H
                        have H := H1
                        clear H1
                        obtain rfl := Option.some.inj H
                        obtain ⟨Ao36, co36, eo36⟩ := Kd.R_slice HO_9.out
                        subst eo36
                        go_wp2_with (first | (go_at_call 44; (with_reducible refine (laws_hasInt.calls kj15 _ _ t254 t250 false _ ?side1 ?side2 A29.out).mono ?_); (case side1 => repeat (first | exact (Kd.R_reads' HO_9.out).2.2 | (with_reducible refine Kd.C_alloc ?_ _) | (with_reducible refine Kd.C_drewN ?_ _) | (with_reducible refine Kd.C_drew ?_))); (case side2 => exact (Kd.R_reads' HO_9.out).2.1); rintro e w' ⟨rfl, ⟨nd, rfl⟩⟩))
                        go_ret
                        exact ⟨by first | rfl | (simp [errW_none, errW_some] <;> rfl) | (simp [*, errW_none, errW_some] <;> rfl), by repeat (first | (with_reducible first | exact HB.out | apply below_alloc | apply pw_below_drewN | apply below_drew1) | exact HB.out)⟩
                    · replace c28 := Bool.eq_false_iff.mpr c28
                      subst c28
                      have H1 : (some false) = some r := by rw [if_neg (show ¬ (false = true) by decide)] at H; exact H
                      clear H
                      have H := H1
                      clear H1
                      obtain rfl := Option.some.inj H
                      go_wp2
                      go_ret
                      exact ⟨by first | rfl | (simp [errW_none, errW_some] <;> rfl) | (simp [*, errW_none, errW_some] <;> rfl), by repeat (first | (with_reducible first | exact HB.out | apply below_alloc | apply pw_below_drewN | apply below_drew1) | exact HB.out)⟩

/-- THE ONE PURE STATEMENT of laws_FnFind: yours. -/
def laws_FnFind.Pure : Prop := ∀ (l0 : List Int), l0.length ≤ maxLen → l0.length * 1 ≤ 140737488351232 → (∀ x ∈ l0, (Lit.int .u8 x).wf = true) → ∃ k, laws_FnFind.f k l0 = some true
theorem laws_FnFind.walk (P : laws_FnFind.Pure) (a0 : Option Addr) (len0 cap0 : Nat) (z0 : List Int) (w : World) (w0 : (a0 = none ∧ len0 = 0 ∧ cap0 = 0 ∧ z0 = []) ∨ ∃ x, a0 = some x ∧ len0 ≤ cap0 ∧ cap0 ≤ maxLen ∧ z0.length = cap0 ∧ (∀ i, i < z0.length → w.cell? (x.add i) = some (.int .u8 (z0.getD i 0))) ∧ ∀ n ∈ z0, (Lit.int .u8 n).wf = true) (y0 : len0 * 1 ≤ 140737488351232) :
    Calls Try.prog 13 #[.slice a0 len0 cap0] w fun e w' => e = .returned (.bool true) ∧ Below w.heap.size w w' := by
  obtain ⟨l0, rfl, hr0, hm0, hw0, hc0⟩ := ReadsInt.ofRowC w0
  obtain ⟨k, h⟩ := P l0 hm0 y0 hw0
  refine (laws_FnFind.calls k _ _ l0 true w (Kd.C_of_reads (d := (0 : Int)) (h1 := fun _ => rfl) hr0) hc0 h).mono ?_
  rintro e w' ⟨rfl, hd⟩
  exact ⟨rfl, hd⟩

end Go.Proofs.Ytnbelacakmfhcaa.PFnFind

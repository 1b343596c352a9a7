-- Written by a program of this repo (wip/gen/gen.py) over the kit's print.
-- (slim)
import Derived.Test.YtkbklmlahnjcmaaPFnDiscx0
import Derived.Test.YtkbklmlahnjcmaaPFnDiscx3
namespace Go.Proofs.Ytkbklmlahnjcmaa.PFnDisc
open Go.RowKit Go.Proofs.YtkbklmlahnjcmaaW.PrintWords Go.Proofs.YtkbklmlahnjcmaaW.PrintLast Go.Proofs.YtkbklmlahnjcmaaW.PrintMore
attribute [local go_sem] max2_int min2_int max_two min_two max_three min_three max_four min_four   -- for this text's walks alone
set_option linter.unusedVariables false
set_option linter.unusedSimpArgs false

/-! ### impl_nameOf: function 28 -/
def impl_nameOf.l0 : Nat → Int → Int → List Int → Int → Int → Option (Int)
 | 0, _, _, _, _, _ => none
 | k + 1, x0, x1, x8, x9, x10 => if x10 < x9 then (if 0 ≤ x10 then (if x10 < (x8.length : Int) then ((impl_localSquare.f k (wrap64 (x0 * (rd x8 x10))) x1).bind fun t203 => (if t203 = true then (some (rd x8 x10)) else (impl_nameOf.l0 k x0 x1 x8 x9 (wrap64 (x10 + 1))))) else (none)) else (none)) else (some 0)
def impl_nameOf.f (k : Nat) (a0 : Int) (a1 : Int) : Option (Int) := (impl_namesAt.f k a1).bind fun t199 => (impl_nameOf.l0 k a0 a1 t199 (t199.length : Int) 0)
theorem impl_nameOf.mono_l : ∀ k, (∀ y0 y1 y2 y3 y4, LeO (impl_nameOf.l0 k y0 y1 y2 y3 y4) (impl_nameOf.l0 (k + 1) y0 y1 y2 y3 y4))
 | 0 => fun _ _ _ _ _ r h => by simp [impl_nameOf.l0] at h
 | k + 1 => by
  have ih0 := impl_nameOf.mono_l k
  · intro y0 y1 y2 y3 y4
    unfold impl_nameOf.l0
    repeat' first
    | (with_reducible exact ih0 _ _ _ _ _)
    | (with_reducible exact impl_localSquare.mono _ _ _)
    | (with_reducible exact impl_namesAt.mono _ _)
    | (with_reducible exact LeO.refl _)
    | (with_reducible exact LeO.none _)
    | (with_reducible refine LeO.ite ?_ ?_)
    | (with_reducible refine LeO.bind ?_ (fun _ => ?_))
    | exact ih0 _ _ _ _ _
    | exact impl_localSquare.mono _ _ _
    | exact impl_namesAt.mono _ _
    | exact LeO.none _
    | refine LeO.ite ?_ ?_
    | refine LeO.bind ?_ (fun _ => ?_)
theorem impl_nameOf.mono : ∀ a0 a1 k, LeO (impl_nameOf.f k a0 a1) (impl_nameOf.f (k + 1) a0 a1) := by
 intro a0 a1 k
 have ih0 := impl_nameOf.mono_l k
 unfold impl_nameOf.f
 repeat' first
  | (with_reducible exact ih0 _ _ _ _ _)
  | (with_reducible exact impl_localSquare.mono _ _ _)
  | (with_reducible exact impl_namesAt.mono _ _)
  | (with_reducible exact LeO.refl _)
  | (with_reducible exact LeO.none _)
  | (with_reducible refine LeO.ite ?_ ?_)
  | (with_reducible refine LeO.bind ?_ (fun _ => ?_))
  | exact ih0 _ _ _ _ _
  | exact impl_localSquare.mono _ _ _
  | exact impl_namesAt.mono _ _
  | exact LeO.none _
  | refine LeO.ite ?_ ?_
  | refine LeO.bind ?_ (fun _ => ?_)
set_option maxHeartbeats 8000000 in
set_option maxRecDepth 100000 in
theorem impl_nameOf.calls (k : Nat) (a0 : Int) (a1 : Int) (r : Int) (w : World) (h : impl_nameOf.f k a0 a1 = some r) :
 Calls Try.prog 28 #[.int .i64 a0, .int .i64 a1] w fun e w' => e = .returned (.int .i64 r) ∧ Below w.heap.size w w' := by
 have HB := Aside0.mk (Below.refl w.heap.size w)
 have H : ((impl_namesAt.f k a1).bind fun t199 => (impl_nameOf.l0 k a0 a1 t199 (t199.length : Int) 0)) = some r := h
 clear h
 replace H := Option.bind_eq_some_iff.mp H
 obtain ⟨t199, A30, H⟩ := H
 replace H : (impl_nameOf.l0 k a0 a1 t199 (t199.length : Int) 0) = some r := H
 have A3 := Aside0.mk A30
 clear A30
 have H' := Aside0.mk H
 clear H
 go_enter Try.func28, Try.ntmps28
 go_wp2_with (first | ((with_reducible refine gate_callee (f := 38) rfl ?_); refine goesL_ (some 8) rfl rfl Try.func38 (by kernel_rfl) rfl #[.int .i64 a1] rfl (by (try simp only [List.map_toArray, List.map_cons, List.map_nil]); first | done | rfl | (simp only [List.length_drop, List.length_take]; rfl)) ?_; (with_reducible refine (impl_namesAt.calls k a1 t199 _ A3.out).mono ?_); rintro e w4 ⟨v200, rfl, ho0, hb⟩; refine ⟨_, rfl, ?_⟩; have n0_ := Aside0.mk (Kd.R_lower ho0 (below_size (by repeat (first | (with_reducible first | exact HB.out | apply below_alloc | apply pw_below_drewN | apply below_drew1) | exact HB.out)))); have n1_ := Aside0.mk (below_step (by repeat (first | (with_reducible first | exact HB.out | apply below_alloc | apply pw_below_drewN | apply below_drew1) | exact HB.out)) hb); clear HB; have HO201 := n0_; have HB := n1_; clear n0_ n1_; (try clear hb); (try clear hb2); (try clear hk); (try clear hi); (try clear ho0); obtain ⟨Ao5, co5, eo5⟩ := Kd.R_slice HO201.out; subst eo5))
 go_loopg [10] k (fun kq v10 w' => ∃ (x10_1 : Int), v10 = .int .i64 x10_1 ∧ Aside0 (impl_nameOf.l0 kq a0 a1 t199 (t199.length : Int) x10_1 = some r) ∧ Aside0 (kq ≤ k) ∧ Aside0 (Kd.R (Kd.int .i64) 3 w' w.heap.size (fun _ => True) (.slice Ao5 t199.length co5) t199) ∧ Aside0 (Below w.heap.size w w'))
 case atStart => exact ⟨(0), (by first | rfl | (simp; done) | (simp [*]; done)), H', ⟨Nat.le_refl _⟩, ⟨by (with_reducible repeat (first | apply Kd.R_alloc | apply Kd.R_drewN | apply Kd.R_drew)); exact HO201.out⟩, ⟨by repeat (first | (with_reducible first | exact HB.out | apply below_alloc | apply pw_below_drewN | apply below_drew1) | exact HB.out)⟩⟩
 case round =>
  clear H'
  try clear c2
  try clear p2
  try clear c3
  obtain ⟨x10_1, rfl, HA, HK1, HO_8, HB⟩ := hrel
  cases gk with
  | zero => exact absurd HA.out (by simp [impl_nameOf.l0])
  | succ k1 =>
   have H := HA.out
   clear HA
   simp only [impl_nameOf.l0] at H
   by_cases c6 : x10_1 < (t199.length : Int)
   · rw [if_pos c6] at H
     have c6b0 : decide (x10_1 < (t199.length : Int)) = true := decide_eq_true c6
     clear c6
     by_cases c7 : 0 ≤ x10_1
     · rw [if_pos c7] at H
       have c7b0 : decide (0 ≤ x10_1) = true := decide_eq_true c7
       clear c7
       by_cases c8 : x10_1 < (t199.length : Int)
       · rw [if_pos c8] at H
         have c8b0 : decide (x10_1 < (t199.length : Int)) = true := decide_eq_true c8
         clear c8
         replace H := Option.bind_eq_some_iff.mp H
         obtain ⟨t203, A90, H⟩ := H
         replace H : (if t203 = true then (some (rd t199 x10_1)) else (impl_nameOf.l0 k1 a0 a1 t199 (t199.length : Int) (wrap64 (x10_1 + 1)))) = some r := H
         have A9 := Aside0.mk A90
         clear A90
         by_cases c10 : t203 = true
         · subst c10
           have H1 : (some (rd t199 x10_1)) = some r := by rw [if_pos rfl] at H; exact H
           clear H
           have H := H1
           clear H1
           obtain rfl := Option.some.inj H
           have p202 : 0 ≤ (x10_1 : Int) := of_decide_eq_true (by first | (with_reducible assumption) | assumption)
           have q202 : x10_1 < (t199.length : Int) := of_decide_eq_true (by first | (with_reducible assumption) | assumption)
           obtain ⟨ad202, e202, hx202_0⟩ := Kd.at_int (Kd.R_reads' HO_8.out).2.2 x10_1 p202 q202
           cases e202
           replace p202 := eq_true p202
           replace q202 := eq_true q202
           go_wp2_with (first | ((with_reducible refine gate_callee (f := 39) rfl ?_); refine goesL_ (some 18) rfl rfl Try.func39 (by kernel_rfl) rfl #[.int .i64 (wrap64 (a0 * (rd t199 x10_1))), .int .i64 a1] rfl (by (try simp only [List.map_toArray, List.map_cons, List.map_nil]); first | done | rfl | (simp only [List.length_drop, List.length_take]; rfl)) ?_; (with_reducible refine (impl_localSquare.calls k1 (wrap64 (a0 * (rd t199 x10_1))) a1 true _ A9.out).mono ?_); rintro e w' ⟨rfl, ⟨nd, rfl⟩⟩; refine ⟨_, rfl, ?_⟩))
           go_ret
           exact ⟨by first | rfl | (simp [errW_none, errW_some] <;> rfl) | (simp [*, errW_none, errW_some] <;> rfl), by repeat (first | (with_reducible first | exact HB.out | apply below_alloc | apply pw_below_drewN | apply below_drew1) | exact HB.out)⟩
         · replace c10 := Bool.eq_false_iff.mpr c10
           subst c10
           have H1 : (impl_nameOf.l0 k1 a0 a1 t199 (t199.length : Int) (wrap64 (x10_1 + 1))) = some r := by rw [if_neg (show ¬ (false = true) by decide)] at H; exact H
           clear H
           have H := H1
           clear H1
           have H' := Aside0.mk H
           clear H
           have p202 : 0 ≤ (x10_1 : Int) := of_decide_eq_true (by first | (with_reducible assumption) | assumption)
           have q202 : x10_1 < (t199.length : Int) := of_decide_eq_true (by first | (with_reducible assumption) | assumption)
           obtain ⟨ad202, e202, hx202_0⟩ := Kd.at_int (Kd.R_reads' HO_8.out).2.2 x10_1 p202 q202
           cases e202
           replace p202 := eq_true p202
           replace q202 := eq_true q202
           go_wp2_with (first | ((with_reducible refine gate_callee (f := 39) rfl ?_); refine goesL_ (some 18) rfl rfl Try.func39 (by kernel_rfl) rfl #[.int .i64 (wrap64 (a0 * (rd t199 x10_1))), .int .i64 a1] rfl (by (try simp only [List.map_toArray, List.map_cons, List.map_nil]); first | done | rfl | (simp only [List.length_drop, List.length_take]; rfl)) ?_; (with_reducible refine (impl_localSquare.calls k1 (wrap64 (a0 * (rd t199 x10_1))) a1 false _ A9.out).mono ?_); rintro e w' ⟨rfl, ⟨nd, rfl⟩⟩; refine ⟨_, rfl, ?_⟩))
           go_roundg k1
           case measure => have := HK1.out; omega
           case rel => exact ⟨(wrap64 (x10_1 + 1)), (by first | rfl | (simp; done) | (simp [*]; done)), H', ⟨by have := HK1.out; omega⟩, ⟨by (with_reducible repeat (first | apply Kd.R_alloc | apply Kd.R_drewN | apply Kd.R_drew)); exact HO_8.out⟩, ⟨by repeat (first | (with_reducible first | exact HB.out | apply below_alloc | apply pw_below_drewN | apply below_drew1) | exact HB.out)⟩⟩
       · rw [if_neg c8] at H
         exact absurd H (by simp)
     · rw [if_neg c7] at H
       exact absurd H (by simp)
   · rw [if_neg c6] at H
     have c6b0 : decide (x10_1 < (t199.length : Int)) = false := decide_eq_false c6
     clear c6
     obtain rfl := Option.some.inj H
     go_wp2
     go_ret
     exact ⟨by first | rfl | (simp [errW_none, errW_some] <;> rfl) | (simp [*, errW_none, errW_some] <;> rfl), by repeat (first | (with_reducible first | exact HB.out | apply below_alloc | apply pw_below_drewN | apply below_drew1) | exact HB.out)⟩

/-! ### impl_LocalMul: function 10 -/
def impl_LocalMul.f (k : Nat) (a0 : Int) (a1 : Int) (a2 : Int) : Option (Int × Bool) := if a0 = 0 then (some (0, false)) else (if a1 = 0 then (some (0, false)) else ((impl_isNumber.f a0).bind fun t204 => (if t204 = true then ((impl_isNumber.f a1).bind fun t205 => (if t205 = true then ((impl_PlaceValid.f k a2).bind fun t206 => (if t206 = true then ((impl_nameOf.f k (wrap64 (a0 * a1)) a2).bind fun t207 => (some (t207, true))) else (some (0, false)))) else (some (0, false)))) else (some (0, false)))))
theorem impl_LocalMul.mono : ∀ a0 a1 a2 k, LeO (impl_LocalMul.f k a0 a1 a2) (impl_LocalMul.f (k + 1) a0 a1 a2) := by
 intro a0 a1 a2 k
 unfold impl_LocalMul.f
 repeat' first
  | (with_reducible exact impl_PlaceValid.mono _ _)
  | (with_reducible exact impl_nameOf.mono _ _ _)
  | (with_reducible exact LeO.refl _)
  | (with_reducible exact LeO.none _)
  | (with_reducible refine LeO.ite ?_ ?_)
  | (with_reducible refine LeO.bind ?_ (fun _ => ?_))
  | exact impl_PlaceValid.mono _ _
  | exact impl_nameOf.mono _ _ _
  | exact LeO.none _
  | refine LeO.ite ?_ ?_
  | refine LeO.bind ?_ (fun _ => ?_)
set_option maxHeartbeats 8000000 in
set_option maxRecDepth 100000 in
theorem impl_LocalMul.calls (k : Nat) (a0 : Int) (a1 : Int) (a2 : Int) (r1 : Int) (r2 : Bool) (w : World) (h : impl_LocalMul.f k a0 a1 a2 = some (r1, r2)) :
 Calls Try.prog 10 #[.int .i64 a0, .int .i64 a1, .int .i64 a2] w fun e w' => e = .returned (.tuple #[.int .i64 r1, .bool r2]) ∧ Below w.heap.size w w' := by
 have HB := Aside0.mk (Below.refl w.heap.size w)
 have H : (if a0 = 0 then (some (0, false)) else (if a1 = 0 then (some (0, false)) else ((impl_isNumber.f a0).bind fun t204 => (if t204 = true then ((impl_isNumber.f a1).bind fun t205 => (if t205 = true then ((impl_PlaceValid.f k a2).bind fun t206 => (if t206 = true then ((impl_nameOf.f k (wrap64 (a0 * a1)) a2).bind fun t207 => (some (t207, true))) else (some (0, false)))) else (some (0, false)))) else (some (0, false)))))) = some (r1, r2) := h
 clear h
 by_cases c4 : a0 = 0
 · rw [if_pos c4] at H
   have c4b0 : (a0 == 0) = true := beq_iff_eq.mpr c4
   have c4b1 : (a0 != 0) = false := bne_eq_false_iff_eq.mpr c4
   clear c4
   simp only [Option.some.injEq, Prod.mk.injEq] at H
   obtain ⟨rfl, rfl⟩ := H
   go_enter Try.func10, Try.ntmps10
   go_wp2
   go_ret2
   exact ⟨by first | rfl | (simp [errW_none, errW_some] <;> rfl) | (simp [*, errW_none, errW_some] <;> rfl), by repeat (first | (with_reducible first | exact HB.out | apply below_alloc | apply pw_below_drewN | apply below_drew1) | exact HB.out)⟩
 · rw [if_neg c4] at H
   have c4b0 : (a0 == 0) = false := beq_eq_false_iff_ne.mpr c4
   have c4b1 : (a0 != 0) = true := bne_iff_ne.mpr c4
   by_cases c5 : a1 = 0
   · rw [if_pos c5] at H
     have c5b0 : (a1 == 0) = true := beq_iff_eq.mpr c5
     have c5b1 : (a1 != 0) = false := bne_eq_false_iff_eq.mpr c5
     clear c5
     simp only [Option.some.injEq, Prod.mk.injEq] at H
     obtain ⟨rfl, rfl⟩ := H
     go_enter Try.func10, Try.ntmps10
     go_wp2
     go_ret2
     exact ⟨by first | rfl | (simp [errW_none, errW_some] <;> rfl) | (simp [*, errW_none, errW_some] <;> rfl), by repeat (first | (with_reducible first | exact HB.out | apply below_alloc | apply pw_below_drewN | apply below_drew1) | exact HB.out)⟩
   · rw [if_neg c5] at H
     have c5b0 : (a1 == 0) = false := beq_eq_false_iff_ne.mpr c5
     have c5b1 : (a1 != 0) = true := bne_iff_ne.mpr c5
     replace H := Option.bind_eq_some_iff.mp H
     obtain ⟨t204, A60, H⟩ := H
     replace H : (if t204 = true then ((impl_isNumber.f a1).bind fun t205 => (if t205 = true then ((impl_PlaceValid.f k a2).bind fun t206 => (if t206 = true then ((impl_nameOf.f k (wrap64 (a0 * a1)) a2).bind fun t207 => (some (t207, true))) else (some (0, false)))) else (some (0, false)))) else (some (0, false))) = some (r1, r2) := H
     have A6 := Aside0.mk A60
     clear A60
     by_cases c7 : t204 = true
     · subst c7
       have H1 : ((impl_isNumber.f a1).bind fun t205 => (if t205 = true then ((impl_PlaceValid.f k a2).bind fun t206 => (if t206 = true then ((impl_nameOf.f k (wrap64 (a0 * a1)) a2).bind fun t207 => (some (t207, true))) else (some (0, false)))) else (some (0, false)))) = some (r1, r2) := by rw [if_pos rfl] at H; exact H
       clear H
       have H := H1
       clear H1
       replace H := Option.bind_eq_some_iff.mp H
       obtain ⟨t205, A80, H⟩ := H
       replace H : (if t205 = true then ((impl_PlaceValid.f k a2).bind fun t206 => (if t206 = true then ((impl_nameOf.f k (wrap64 (a0 * a1)) a2).bind fun t207 => (some (t207, true))) else (some (0, false)))) else (some (0, false))) = some (r1, r2) := H
       have A8 := Aside0.mk A80
       clear A80
       by_cases c9 : t205 = true
       · subst c9
         have H1 : ((impl_PlaceValid.f k a2).bind fun t206 => (if t206 = true then ((impl_nameOf.f k (wrap64 (a0 * a1)) a2).bind fun t207 => (some (t207, true))) else (some (0, false)))) = some (r1, r2) := by rw [if_pos rfl] at H; exact H
         clear H
         have H := H1
         clear H1
         replace H := Option.bind_eq_some_iff.mp H
         obtain ⟨t206, A100, H⟩ := H
         replace H : (if t206 = true then ((impl_nameOf.f k (wrap64 (a0 * a1)) a2).bind fun t207 => (some (t207, true))) else (some (0, false))) = some (r1, r2) := H
         have A10 := Aside0.mk A100
         clear A100
         by_cases c11 : t206 = true
         · subst c11
           have H1 : ((impl_nameOf.f k (wrap64 (a0 * a1)) a2).bind fun t207 => (some (t207, true))) = some (r1, r2) := by rw [if_pos rfl] at H; exact H
           clear H
           have H := H1
           clear H1
           replace H := Option.bind_eq_some_iff.mp H
           obtain ⟨t207, A120, H⟩ := H
           replace H : (some (t207, true)) = some (r1, r2) := H
           have A12 := Aside0.mk A120
           clear A120
           simp only [Option.some.injEq, Prod.mk.injEq] at H
           obtain ⟨rfl, rfl⟩ := H
           go_enter Try.func10, Try.ntmps10
           go_wp2_with (first | (go_at_call 26; (with_reducible refine (impl_isNumber.calls a0 true _ A6.out).mono ?_); rintro e w' ⟨rfl, ⟨nd, rfl⟩⟩) | (go_at_call 26; (with_reducible refine (impl_isNumber.calls a1 true _ A8.out).mono ?_); rintro e w' ⟨rfl, ⟨nd, rfl⟩⟩) | (go_at_call 27; (with_reducible refine (impl_PlaceValid.calls k a2 true _ A10.out).mono ?_); rintro e w' ⟨rfl, ⟨nd, rfl⟩⟩) | ((with_reducible refine gate_callee (f := 28) rfl ?_); refine goesL_ (some 33) rfl rfl Try.func28 (by kernel_rfl) rfl #[.int .i64 (wrap64 (a0 * a1)), .int .i64 a2] rfl (by (try simp only [List.map_toArray, List.map_cons, List.map_nil]); first | done | rfl | (simp only [List.length_drop, List.length_take]; rfl)) ?_; (with_reducible refine (impl_nameOf.calls k (wrap64 (a0 * a1)) a2 t207 _ A12.out).mono ?_); rintro e w13 ⟨rfl, hb⟩; refine ⟨_, rfl, ?_⟩; have n0_ := Aside0.mk (below_step (by repeat (first | (with_reducible first | exact HB.out | apply below_alloc | apply pw_below_drewN | apply below_drew1) | exact HB.out)) hb); clear HB; have HB := n0_; clear n0_; (try clear hb); (try clear hb2); (try clear hk); (try clear hi)))
           go_ret2
           exact ⟨by first | rfl | (simp [errW_none, errW_some] <;> rfl) | (simp [*, errW_none, errW_some] <;> rfl), by repeat (first | (with_reducible first | exact HB.out | apply below_alloc | apply pw_below_drewN | apply below_drew1) | exact HB.out)⟩
         · replace c11 := Bool.eq_false_iff.mpr c11
           subst c11
           have H1 : (some (0, false)) = some (r1, r2) := by rw [if_neg (show ¬ (false = true) by decide)] at H; exact H
           clear H
           have H := H1
           clear H1
           simp only [Option.some.injEq, Prod.mk.injEq] at H
           obtain ⟨rfl, rfl⟩ := H
           go_enter Try.func10, Try.ntmps10
           go_wp2_with (first | (go_at_call 26; (with_reducible refine (impl_isNumber.calls a0 true _ A6.out).mono ?_); rintro e w' ⟨rfl, ⟨nd, rfl⟩⟩) | (go_at_call 26; (with_reducible refine (impl_isNumber.calls a1 true _ A8.out).mono ?_); rintro e w' ⟨rfl, ⟨nd, rfl⟩⟩) | (go_at_call 27; (with_reducible refine (impl_PlaceValid.calls k a2 false _ A10.out).mono ?_); rintro e w' ⟨rfl, ⟨nd, rfl⟩⟩))
           go_ret2
           exact ⟨by first | rfl | (simp [errW_none, errW_some] <;> rfl) | (simp [*, errW_none, errW_some] <;> rfl), by repeat (first | (with_reducible first | exact HB.out | apply below_alloc | apply pw_below_drewN | apply below_drew1) | exact HB.out)⟩
       · replace c9 := Bool.eq_false_iff.mpr c9
         subst c9
         have H1 : (some (0, false)) = some (r1, r2) := by rw [if_neg (show ¬ (false = true) by decide)] at H; exact H
         clear H
         have H := H1
         clear H1
         simp only [Option.some.injEq, Prod.mk.injEq] at H
         obtain ⟨rfl, rfl⟩ := H
         go_enter Try.func10, Try.ntmps10
         go_wp2_with (first | (go_at_call 26; (with_reducible refine (impl_isNumber.calls a0 true _ A6.out).mono ?_); rintro e w' ⟨rfl, ⟨nd, rfl⟩⟩) | (go_at_call 26; (with_reducible refine (impl_isNumber.calls a1 false _ A8.out).mono ?_); rintro e w' ⟨rfl, ⟨nd, rfl⟩⟩))
         go_ret2
         exact ⟨by first | rfl | (simp [errW_none, errW_some] <;> rfl) | (simp [*, errW_none, errW_some] <;> rfl), by repeat (first | (with_reducible first | exact HB.out | apply below_alloc | apply pw_below_drewN | apply below_drew1) | exact HB.out)⟩
     · replace c7 := Bool.eq_false_iff.mpr c7
       subst c7
       have H1 : (some (0, false)) = some (r1, r2) := by rw [if_neg (show ¬ (false = true) by decide)] at H; exact H
       clear H
       have H := H1
       clear H1
       simp only [Option.some.injEq, Prod.mk.injEq] at H
       obtain ⟨rfl, rfl⟩ := H
       go_enter Try.func10, Try.ntmps10
       go_wp2_with (first | (go_at_call 26; (with_reducible refine (impl_isNumber.calls a0 false _ A6.out).mono ?_); rintro e w' ⟨rfl, ⟨nd, rfl⟩⟩))
       go_ret2
       exact ⟨by first | rfl | (simp [errW_none, errW_some] <;> rfl) | (simp [*, errW_none, errW_some] <;> rfl), by repeat (first | (with_reducible first | exact HB.out | apply below_alloc | apply pw_below_drewN | apply below_drew1) | exact HB.out)⟩

/-! ### impl_LocalName: function 11 -/
def impl_LocalName.f (k : Nat) (a0 : Int) (a1 : Int) : Option (Int × Bool) := if a0 = 0 then (some (0, false)) else ((impl_isNumber.f a0).bind fun t208 => (if t208 = true then ((impl_PlaceValid.f k a1).bind fun t209 => (if t209 = true then ((impl_nameOf.f k a0 a1).bind fun t210 => (some (t210, true))) else (some (0, false)))) else (some (0, false))))
theorem impl_LocalName.mono : ∀ a0 a1 k, LeO (impl_LocalName.f k a0 a1) (impl_LocalName.f (k + 1) a0 a1) := by
 intro a0 a1 k
 unfold impl_LocalName.f
 repeat' first
  | (with_reducible exact impl_PlaceValid.mono _ _)
  | (with_reducible exact impl_nameOf.mono _ _ _)
  | (with_reducible exact LeO.refl _)
  | (with_reducible exact LeO.none _)
  | (with_reducible refine LeO.ite ?_ ?_)
  | (with_reducible refine LeO.bind ?_ (fun _ => ?_))
  | exact impl_PlaceValid.mono _ _
  | exact impl_nameOf.mono _ _ _
  | exact LeO.none _
  | refine LeO.ite ?_ ?_
  | refine LeO.bind ?_ (fun _ => ?_)
set_option maxHeartbeats 8000000 in
set_option maxRecDepth 100000 in
theorem impl_LocalName.calls (k : Nat) (a0 : Int) (a1 : Int) (r1 : Int) (r2 : Bool) (w : World) (h : impl_LocalName.f k a0 a1 = some (r1, r2)) :
 Calls Try.prog 11 #[.int .i64 a0, .int .i64 a1] w fun e w' => e = .returned (.tuple #[.int .i64 r1, .bool r2]) ∧ Below w.heap.size w w' := by
 have HB := Aside0.mk (Below.refl w.heap.size w)
 have H : (if a0 = 0 then (some (0, false)) else ((impl_isNumber.f a0).bind fun t208 => (if t208 = true then ((impl_PlaceValid.f k a1).bind fun t209 => (if t209 = true then ((impl_nameOf.f k a0 a1).bind fun t210 => (some (t210, true))) else (some (0, false)))) else (some (0, false))))) = some (r1, r2) := h
 clear h
 by_cases c3 : a0 = 0
 · rw [if_pos c3] at H
   have c3b0 : (a0 == 0) = true := beq_iff_eq.mpr c3
   have c3b1 : (a0 != 0) = false := bne_eq_false_iff_eq.mpr c3
   clear c3
   simp only [Option.some.injEq, Prod.mk.injEq] at H
   obtain ⟨rfl, rfl⟩ := H
   go_enter Try.func11, Try.ntmps11
   go_wp2
   go_ret2
   exact ⟨by first | rfl | (simp [errW_none, errW_some] <;> rfl) | (simp [*, errW_none, errW_some] <;> rfl), by repeat (first | (with_reducible first | exact HB.out | apply below_alloc | apply pw_below_drewN | apply below_drew1) | exact HB.out)⟩
 · rw [if_neg c3] at H
   have c3b0 : (a0 == 0) = false := beq_eq_false_iff_ne.mpr c3
   have c3b1 : (a0 != 0) = true := bne_iff_ne.mpr c3
   replace H := Option.bind_eq_some_iff.mp H
   obtain ⟨t208, A40, H⟩ := H
   replace H : (if t208 = true then ((impl_PlaceValid.f k a1).bind fun t209 => (if t209 = true then ((impl_nameOf.f k a0 a1).bind fun t210 => (some (t210, true))) else (some (0, false)))) else (some (0, false))) = some (r1, r2) := H
   have A4 := Aside0.mk A40
   clear A40
   by_cases c5 : t208 = true
   · subst c5
     have H1 : ((impl_PlaceValid.f k a1).bind fun t209 => (if t209 = true then ((impl_nameOf.f k a0 a1).bind fun t210 => (some (t210, true))) else (some (0, false)))) = some (r1, r2) := by rw [if_pos rfl] at H; exact H
     clear H
     have H := H1
     clear H1
     replace H := Option.bind_eq_some_iff.mp H
     obtain ⟨t209, A60, H⟩ := H
     replace H : (if t209 = true then ((impl_nameOf.f k a0 a1).bind fun t210 => (some (t210, true))) else (some (0, false))) = some (r1, r2) := H
     have A6 := Aside0.mk A60
     clear A60
     by_cases c7 : t209 = true
     · subst c7
       have H1 : ((impl_nameOf.f k a0 a1).bind fun t210 => (some (t210, true))) = some (r1, r2) := by rw [if_pos rfl] at H; exact H
       clear H
       have H := H1
       clear H1
       replace H := Option.bind_eq_some_iff.mp H
       obtain ⟨t210, A80, H⟩ := H
       replace H : (some (t210, true)) = some (r1, r2) := H
       have A8 := Aside0.mk A80
       clear A80
       simp only [Option.some.injEq, Prod.mk.injEq] at H
       obtain ⟨rfl, rfl⟩ := H
       go_enter Try.func11, Try.ntmps11
       go_wp2_with (first | (go_at_call 26; (with_reducible refine (impl_isNumber.calls a0 true _ A4.out).mono ?_); rintro e w' ⟨rfl, ⟨nd, rfl⟩⟩) | (go_at_call 27; (with_reducible refine (impl_PlaceValid.calls k a1 true _ A6.out).mono ?_); rintro e w' ⟨rfl, ⟨nd, rfl⟩⟩) | ((with_reducible refine gate_callee (f := 28) rfl ?_); refine goesL_ (some 20) rfl rfl Try.func28 (by kernel_rfl) rfl #[.int .i64 a0, .int .i64 a1] rfl (by (try simp only [List.map_toArray, List.map_cons, List.map_nil]); first | done | rfl | (simp only [List.length_drop, List.length_take]; rfl)) ?_; (with_reducible refine (impl_nameOf.calls k a0 a1 t210 _ A8.out).mono ?_); rintro e w9 ⟨rfl, hb⟩; refine ⟨_, rfl, ?_⟩; have n0_ := Aside0.mk (below_step (by repeat (first | (with_reducible first | exact HB.out | apply below_alloc | apply pw_below_drewN | apply below_drew1) | exact HB.out)) hb); clear HB; have HB := n0_; clear n0_; (try clear hb); (try clear hb2); (try clear hk); (try clear hi)))
       go_ret2
       exact ⟨by first | rfl | (simp [errW_none, errW_some] <;> rfl) | (simp [*, errW_none, errW_some] <;> rfl), by repeat (first | (with_reducible first | exact HB.out | apply below_alloc | apply pw_below_drewN | apply below_drew1) | exact HB.out)⟩
     · replace c7 := Bool.eq_false_iff.mpr c7
       subst c7
       have H1 : (some (0, false)) = some (r1, r2) := by rw [if_neg (show ¬ (false = true) by decide)] at H; exact H
       clear H
       have H := H1
       clear H1
       simp only [Option.some.injEq, Prod.mk.injEq] at H
       obtain ⟨rfl, rfl⟩ := H
       go_enter Try.func11, Try.ntmps11
       go_wp2_with (first | (go_at_call 26; (with_reducible refine (impl_isNumber.calls a0 true _ A4.out).mono ?_); rintro e w' ⟨rfl, ⟨nd, rfl⟩⟩) | (go_at_call 27; (with_reducible refine (impl_PlaceValid.calls k a1 false _ A6.out).mono ?_); rintro e w' ⟨rfl, ⟨nd, rfl⟩⟩))
       go_ret2
       exact ⟨by first | rfl | (simp [errW_none, errW_some] <;> rfl) | (simp [*, errW_none, errW_some] <;> rfl), by repeat (first | (with_reducible first | exact HB.out | apply below_alloc | apply pw_below_drewN | apply below_drew1) | exact HB.out)⟩
   · replace c5 := Bool.eq_false_iff.mpr c5
     subst c5
     have H1 : (some (0, false)) = some (r1, r2) := by rw [if_neg (show ¬ (false = true) by decide)] at H; exact H
     clear H
     have H := H1
     clear H1
     simp only [Option.some.injEq, Prod.mk.injEq] at H
     obtain ⟨rfl, rfl⟩ := H
     go_enter Try.func11, Try.ntmps11
     go_wp2_with (first | (go_at_call 26; (with_reducible refine (impl_isNumber.calls a0 false _ A4.out).mono ?_); rintro e w' ⟨rfl, ⟨nd, rfl⟩⟩))
     go_ret2
     exact ⟨by first | rfl | (simp [errW_none, errW_some] <;> rfl) | (simp [*, errW_none, errW_some] <;> rfl), by repeat (first | (with_reducible first | exact HB.out | apply below_alloc | apply pw_below_drewN | apply below_drew1) | exact HB.out)⟩

end Go.Proofs.Ytkbklmlahnjcmaa.PFnDisc

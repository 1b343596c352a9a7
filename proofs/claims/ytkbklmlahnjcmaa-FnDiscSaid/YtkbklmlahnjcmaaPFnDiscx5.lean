-- Written by a program of this repo (wip/gen/gen.py) over the kit's print.
-- (slim)
import Derived.Test.YtkbklmlahnjcmaaPFnDiscx0
import Derived.Test.YtkbklmlahnjcmaaPFnDiscx1
import Derived.Test.YtkbklmlahnjcmaaPFnDiscx2
import Derived.Test.YtkbklmlahnjcmaaPFnDiscx3
import Derived.Test.YtkbklmlahnjcmaaPFnDiscx4
namespace Go.Proofs.Ytkbklmlahnjcmaa.PFnDisc
open Go.RowKit Go.Proofs.YtkbklmlahnjcmaaW.PrintWords Go.Proofs.YtkbklmlahnjcmaaW.PrintLast Go.Proofs.YtkbklmlahnjcmaaW.PrintMore
attribute [local go_sem] max2_int min2_int max_two min_two max_three min_three max_four min_four   -- for this text's walks alone
set_option linter.unusedVariables false
set_option linter.unusedSimpArgs false

/-! ### laws_FnDisc: function 3 -/
mutual
def laws_FnDisc.j0 : Nat → List Int → List Int → Bool → Option (Bool)
 | 0, _, _, _ => none
 | k + 1, x0, x1, x29 => if x29 = true then (some true) else ((spec_DrawFormDisc.f k x0).bind fun t211 => ((impl_FormDisc.f k t211).bind fun t214 => ((spec_FormDisc.f k t211).bind fun t215 => (if t214 = t215 then (laws_FnDisc.j1 k x1 t211 t214 t215 (t214 == 0)) else (laws_FnDisc.j1 k x1 t211 t214 t215 true)))))
def laws_FnDisc.j1 : Nat → List Int → List Int → Int → Int → Bool → Option (Bool)
 | 0, _, _, _, _, _ => none
 | k + 1, x1, x5, x6, x7, x42 => if x42 = true then (some (x6 == x7)) else ((impl_CoreOf.f k x6).bind fun bt216 => (if (x5.length : Int) = 1 then (if 0 < (x5.length : Int) then ((impl_CoreOf.f k (rd x5 0)).bind fun bt220 => (if bt216.2.2 = true then (if bt220.2.2 = true then (some (bt220.1 == x6)) else (some false)) else (some false))) else (none)) else (if (wrap64 ((x5.length : Int) - 1)) = 0 then (none) else (if 0 ≤ (wrap64 (1 + ((x1.length : Int) % (wrap64 ((x5.length : Int) - 1))))) then (if (wrap64 (1 + ((x1.length : Int) % (wrap64 ((x5.length : Int) - 1))))) ≤ (x5.length : Int) then ((impl_FormDisc.f k (x5.take ((wrap64 (1 + ((x1.length : Int) % (wrap64 ((x5.length : Int) - 1))))) : Int).toNat)).bind fun t227 => ((impl_FormDisc.f k (x5.drop ((wrap64 (1 + ((x1.length : Int) % (wrap64 ((x5.length : Int) - 1))))) : Int).toNat)).bind fun t232 => (if bt216.2.2 = true then (laws_FnDisc.j2 k x1 x6 bt216.1 bt216.2.1 t227 t232 false) else ((laws_sizeOf.f x6).bind fun t233 => (laws_FnDisc.j2 k x1 x6 bt216.1 bt216.2.1 t227 t232 (decide (t233 ≤ 5000))))))) else (none)) else (none)))))
def laws_FnDisc.j2 : Nat → List Int → Int → Int → Int → Int → Int → Bool → Option (Bool)
 | 0, _, _, _, _, _, _, _ => none
 | k + 1, x1, x6, x8, x9, x15, x16, x93 => if x93 = true then (some false) else ((some (([0, 2, 3, 5] : List Int) : List Int)).bind fun y234 => (if 0 ≤ ((x1.length : Int) % 4) then (if ((x1.length : Int) % 4) < (y234.length : Int) then ((laws_sizeOf.f x6).bind fun t238 => (if t238 > 5000 then (laws_FnDisc.j3 k x6 x8 x9 x15 x16 (rd y234 ((x1.length : Int) % 4)) true) else ((laws_sizeOf.f x15).bind fun t239 => (if t239 > 5000 then (laws_FnDisc.j3 k x6 x8 x9 x15 x16 (rd y234 ((x1.length : Int) % 4)) true) else ((laws_sizeOf.f x16).bind fun t240 => (laws_FnDisc.j3 k x6 x8 x9 x15 x16 (rd y234 ((x1.length : Int) % 4)) (decide (t240 > 5000)))))))) else (none)) else (none)))
def laws_FnDisc.j3 : Nat → Int → Int → Int → Int → Int → Int → Bool → Option (Bool)
 | 0, _, _, _, _, _, _, _ => none
 | k + 1, x6, x8, x9, x15, x16, x17, x112 => if x112 = true then (some true) else ((impl_LocalMul.f k x15 x16 x17).bind fun bt241 => ((impl_LocalName.f k x6 x17).bind fun bt243 => (if x8 = x6 then (if x9 = 1 then (if bt241.2 = true then (if bt243.2 = true then (some (bt241.1 == bt243.1)) else (some false)) else (some false)) else (some false)) else (some false))))
end
def laws_FnDisc.f (k : Nat) (l0 : List Int) (l1 : List Int) : Option (Bool) := if (l0.length : Int) > 1048576 then (laws_FnDisc.j0 k l0 l1 true) else (laws_FnDisc.j0 k l0 l1 (decide ((l1.length : Int) > 1048576)))
theorem laws_FnDisc.mono_l : ∀ k, (∀ y0 y1 y2, LeO (laws_FnDisc.j0 k y0 y1 y2) (laws_FnDisc.j0 (k + 1) y0 y1 y2)) ∧ (∀ y0 y1 y2 y3 y4, LeO (laws_FnDisc.j1 k y0 y1 y2 y3 y4) (laws_FnDisc.j1 (k + 1) y0 y1 y2 y3 y4)) ∧ (∀ y0 y1 y2 y3 y4 y5 y6, LeO (laws_FnDisc.j2 k y0 y1 y2 y3 y4 y5 y6) (laws_FnDisc.j2 (k + 1) y0 y1 y2 y3 y4 y5 y6)) ∧ (∀ y0 y1 y2 y3 y4 y5 y6, LeO (laws_FnDisc.j3 k y0 y1 y2 y3 y4 y5 y6) (laws_FnDisc.j3 (k + 1) y0 y1 y2 y3 y4 y5 y6))
 | 0 => ⟨fun _ _ _ r h => by simp [laws_FnDisc.j0] at h, fun _ _ _ _ _ r h => by simp [laws_FnDisc.j1] at h, fun _ _ _ _ _ _ _ r h => by simp [laws_FnDisc.j2] at h, fun _ _ _ _ _ _ _ r h => by simp [laws_FnDisc.j3] at h⟩
 | k + 1 => by
  obtain ⟨ih0, ih1, ih2, ih3⟩ := laws_FnDisc.mono_l k
  refine ⟨?_, ?_, ?_, ?_⟩
  · intro y0 y1 y2
    unfold laws_FnDisc.j0
    repeat' first
    | (with_reducible exact ih0 _ _ _)
    | (with_reducible exact ih1 _ _ _ _ _)
    | (with_reducible exact ih2 _ _ _ _ _ _ _)
    | (with_reducible exact ih3 _ _ _ _ _ _ _)
    | (with_reducible exact impl_CoreOf.mono _ _)
    | (with_reducible exact impl_FormDisc.mono _ _)
    | (with_reducible exact impl_LocalMul.mono _ _ _ _)
    | (with_reducible exact impl_LocalName.mono _ _ _)
    | (with_reducible exact spec_DrawFormDisc.mono _ _)
    | (with_reducible exact spec_FormDisc.mono _ _)
    | (with_reducible exact LeO.refl _)
    | (with_reducible exact LeO.none _)
    | (with_reducible refine LeO.ite ?_ ?_)
    | (with_reducible refine LeO.bind ?_ (fun _ => ?_))
    | exact ih0 _ _ _
    | exact ih1 _ _ _ _ _
    | exact ih2 _ _ _ _ _ _ _
    | exact ih3 _ _ _ _ _ _ _
    | exact impl_CoreOf.mono _ _
    | exact impl_FormDisc.mono _ _
    | exact impl_LocalMul.mono _ _ _ _
    | exact impl_LocalName.mono _ _ _
    | exact spec_DrawFormDisc.mono _ _
    | exact spec_FormDisc.mono _ _
    | exact LeO.none _
    | refine LeO.ite ?_ ?_
    | refine LeO.bind ?_ (fun _ => ?_)
  · intro y0 y1 y2 y3 y4
    unfold laws_FnDisc.j1
    repeat' first
    | (with_reducible exact ih0 _ _ _)
    | (with_reducible exact ih1 _ _ _ _ _)
    | (with_reducible exact ih2 _ _ _ _ _ _ _)
    | (with_reducible exact ih3 _ _ _ _ _ _ _)
    | (with_reducible exact impl_CoreOf.mono _ _)
    | (with_reducible exact impl_FormDisc.mono _ _)
    | (with_reducible exact impl_LocalMul.mono _ _ _ _)
    | (with_reducible exact impl_LocalName.mono _ _ _)
    | (with_reducible exact spec_DrawFormDisc.mono _ _)
    | (with_reducible exact spec_FormDisc.mono _ _)
    | (with_reducible exact LeO.refl _)
    | (with_reducible exact LeO.none _)
    | (with_reducible refine LeO.ite ?_ ?_)
    | (with_reducible refine LeO.bind ?_ (fun _ => ?_))
    | exact ih0 _ _ _
    | exact ih1 _ _ _ _ _
    | exact ih2 _ _ _ _ _ _ _
    | exact ih3 _ _ _ _ _ _ _
    | exact impl_CoreOf.mono _ _
    | exact impl_FormDisc.mono _ _
    | exact impl_LocalMul.mono _ _ _ _
    | exact impl_LocalName.mono _ _ _
    | exact spec_DrawFormDisc.mono _ _
    | exact spec_FormDisc.mono _ _
    | exact LeO.none _
    | refine LeO.ite ?_ ?_
    | refine LeO.bind ?_ (fun _ => ?_)
  · intro y0 y1 y2 y3 y4 y5 y6
    unfold laws_FnDisc.j2
    repeat' first
    | (with_reducible exact ih0 _ _ _)
    | (with_reducible exact ih1 _ _ _ _ _)
    | (with_reducible exact ih2 _ _ _ _ _ _ _)
    | (with_reducible exact ih3 _ _ _ _ _ _ _)
    | (with_reducible exact impl_CoreOf.mono _ _)
    | (with_reducible exact impl_FormDisc.mono _ _)
    | (with_reducible exact impl_LocalMul.mono _ _ _ _)
    | (with_reducible exact impl_LocalName.mono _ _ _)
    | (with_reducible exact spec_DrawFormDisc.mono _ _)
    | (with_reducible exact spec_FormDisc.mono _ _)
    | (with_reducible exact LeO.refl _)
    | (with_reducible exact LeO.none _)
    | (with_reducible refine LeO.ite ?_ ?_)
    | (with_reducible refine LeO.bind ?_ (fun _ => ?_))
    | exact ih0 _ _ _
    | exact ih1 _ _ _ _ _
    | exact ih2 _ _ _ _ _ _ _
    | exact ih3 _ _ _ _ _ _ _
    | exact impl_CoreOf.mono _ _
    | exact impl_FormDisc.mono _ _
    | exact impl_LocalMul.mono _ _ _ _
    | exact impl_LocalName.mono _ _ _
    | exact spec_DrawFormDisc.mono _ _
    | exact spec_FormDisc.mono _ _
    | exact LeO.none _
    | refine LeO.ite ?_ ?_
    | refine LeO.bind ?_ (fun _ => ?_)
  · intro y0 y1 y2 y3 y4 y5 y6
    unfold laws_FnDisc.j3
    repeat' first
    | (with_reducible exact ih0 _ _ _)
    | (with_reducible exact ih1 _ _ _ _ _)
    | (with_reducible exact ih2 _ _ _ _ _ _ _)
    | (with_reducible exact ih3 _ _ _ _ _ _ _)
    | (with_reducible exact impl_CoreOf.mono _ _)
    | (with_reducible exact impl_FormDisc.mono _ _)
    | (with_reducible exact impl_LocalMul.mono _ _ _ _)
    | (with_reducible exact impl_LocalName.mono _ _ _)
    | (with_reducible exact spec_DrawFormDisc.mono _ _)
    | (with_reducible exact spec_FormDisc.mono _ _)
    | (with_reducible exact LeO.refl _)
    | (with_reducible exact LeO.none _)
    | (with_reducible refine LeO.ite ?_ ?_)
    | (with_reducible refine LeO.bind ?_ (fun _ => ?_))
    | exact ih0 _ _ _
    | exact ih1 _ _ _ _ _
    | exact ih2 _ _ _ _ _ _ _
    | exact ih3 _ _ _ _ _ _ _
    | exact impl_CoreOf.mono _ _
    | exact impl_FormDisc.mono _ _
    | exact impl_LocalMul.mono _ _ _ _
    | exact impl_LocalName.mono _ _ _
    | exact spec_DrawFormDisc.mono _ _
    | exact spec_FormDisc.mono _ _
    | exact LeO.none _
    | refine LeO.ite ?_ ?_
    | refine LeO.bind ?_ (fun _ => ?_)
theorem laws_FnDisc.mono : ∀ a0 a1 k, LeO (laws_FnDisc.f k a0 a1) (laws_FnDisc.f (k + 1) a0 a1) := by
 intro a0 a1 k
 obtain ⟨ih0, ih1, ih2, ih3⟩ := laws_FnDisc.mono_l k
 unfold laws_FnDisc.f
 repeat' first
  | (with_reducible exact ih0 _ _ _)
  | (with_reducible exact ih1 _ _ _ _ _)
  | (with_reducible exact ih2 _ _ _ _ _ _ _)
  | (with_reducible exact ih3 _ _ _ _ _ _ _)
  | (with_reducible exact impl_CoreOf.mono _ _)
  | (with_reducible exact impl_FormDisc.mono _ _)
  | (with_reducible exact impl_LocalMul.mono _ _ _ _)
  | (with_reducible exact impl_LocalName.mono _ _ _)
  | (with_reducible exact spec_DrawFormDisc.mono _ _)
  | (with_reducible exact spec_FormDisc.mono _ _)
  | (with_reducible exact LeO.refl _)
  | (with_reducible exact LeO.none _)
  | (with_reducible refine LeO.ite ?_ ?_)
  | (with_reducible refine LeO.bind ?_ (fun _ => ?_))
  | exact ih0 _ _ _
  | exact ih1 _ _ _ _ _
  | exact ih2 _ _ _ _ _ _ _
  | exact ih3 _ _ _ _ _ _ _
  | exact impl_CoreOf.mono _ _
  | exact impl_FormDisc.mono _ _
  | exact impl_LocalMul.mono _ _ _ _
  | exact impl_LocalName.mono _ _ _
  | exact spec_DrawFormDisc.mono _ _
  | exact spec_FormDisc.mono _ _
  | exact LeO.none _
  | refine LeO.ite ?_ ?_
  | refine LeO.bind ?_ (fun _ => ?_)
set_option maxHeartbeats 8000000 in
set_option maxRecDepth 100000 in
theorem laws_FnDisc.calls (k : Nat) (A0 : Option Addr) (c0 : Nat) (l0 : List Int) (A1 : Option Addr) (c1 : Nat) (l1 : List Int) (r : Bool) (w : World) (hr0 : Kd.C (Kd.int .u8) w A0 l0.length l0) (hc0 : l0.length ≤ c0) (hr1 : Kd.C (Kd.int .u8) w A1 l1.length l1) (hc1 : l1.length ≤ c1) (h : laws_FnDisc.f k l0 l1 = some r) :
 Calls Try.prog 3 #[.slice A0 l0.length c0, .slice A1 l1.length c1] w fun e w' => e = .returned (.bool r) ∧ Below w.heap.size w w' := by
 have HR0 := Aside0.mk hr0
 have HC0 := Aside0.mk hc0
 clear hr0 hc0
 have HR1 := Aside0.mk hr1
 have HC1 := Aside0.mk hc1
 clear hr1 hc1
 have HB := Aside0.mk (Below.refl w.heap.size w)
 have H : (if (l0.length : Int) > 1048576 then (laws_FnDisc.j0 k l0 l1 true) else (laws_FnDisc.j0 k l0 l1 (decide ((l1.length : Int) > 1048576)))) = some r := h
 clear h
 have HC3 := Aside0.mk H
 clear H
 go_enter Try.func3, Try.ntmps3
 go_upto_region 1 with (fail)
 go_cut [29] (fun v29 wc => ∃ (kq : Nat) (x29_2 : Bool), v29 = .bool x29_2 ∧ Aside0 (laws_FnDisc.j0 kq l0 l1 x29_2 = some r) ∧ Aside0 (kq ≤ k) ∧ Aside0 (Below w.heap.size w wc))
 case first =>
  have H := HC3.out
  clear HC3
  by_cases c4 : (l0.length : Int) > 1048576
  · rw [if_pos c4] at H
    have c4b0 : decide (1048576 < (l0.length : Int)) = true := decide_eq_true c4
    have c4b1 : decide (1048576 < l0.length) = true := decide_eq_true (by omega)
    clear c4
    (first | rw [c4b0] | (simp only [i64_w, i32_w]; rw [c4b0]) | skip)
    have H' := Aside0.mk H
    clear H
    go_wp2
    go_meet
    case rel => exact ⟨_, (true), (by first | rfl | (simp; done) | (simp [*]; done)), H', ⟨by first | omega | exact Nat.le_refl _⟩, ⟨by repeat (first | (with_reducible first | exact HB.out | apply below_alloc | apply pw_below_drewN | apply below_drew1) | exact HB.out)⟩⟩
  · rw [if_neg c4] at H
    have c4b0 : decide (1048576 < (l0.length : Int)) = false := decide_eq_false c4
    have c4b1 : decide (1048576 < l0.length) = false := decide_eq_false (by omega)
    clear c4
    (first | rw [c4b0] | (simp only [i64_w, i32_w]; rw [c4b0]) | skip)
    have H' := Aside0.mk H
    clear H
    go_wp2
    go_meet
    case rel => exact ⟨_, (decide ((l1.length : Int) > 1048576)), (by first | rfl | (simp; done) | (simp [*]; done)), H', ⟨by first | omega | exact Nat.le_refl _⟩, ⟨by repeat (first | (with_reducible first | exact HB.out | apply below_alloc | apply pw_below_drewN | apply below_drew1) | exact HB.out)⟩⟩
 case rest =>
  clear HC3
  try clear c1
  try clear p2
  try clear c3
  try clear c4
  try clear c4b0
  try clear c4b1
  obtain ⟨kq, x29_2, rfl, HA, HJ2, HB⟩ := hcut
  cases kq with
  | zero => exact absurd HA.out (by simp [laws_FnDisc.j0])
  | succ kj2 =>
   have H := HA.out
   clear HA
   simp only [laws_FnDisc.j0] at H
   by_cases c5 : x29_2 = true
   · subst c5
     have H1 : (some true) = some r := by rw [if_pos rfl] at H; exact H
     clear H
     have H := H1
     clear H1
     obtain rfl := Option.some.inj H
     go_wp2
     go_ret
     exact ⟨by first | rfl | (simp [errW_none, errW_some] <;> rfl) | (simp [*, errW_none, errW_some] <;> rfl), by repeat (first | (with_reducible first | exact HB.out | apply below_alloc | apply pw_below_drewN | apply below_drew1) | exact HB.out)⟩
   · replace c5 := Bool.eq_false_iff.mpr c5
     subst c5
     have H1 : ((spec_DrawFormDisc.f kj2 l0).bind fun t211 => ((impl_FormDisc.f kj2 t211).bind fun t214 => ((spec_FormDisc.f kj2 t211).bind fun t215 => (if t214 = t215 then (laws_FnDisc.j1 kj2 l1 t211 t214 t215 (t214 == 0)) else (laws_FnDisc.j1 kj2 l1 t211 t214 t215 true))))) = some r := by rw [if_neg (show ¬ (false = true) by decide)] at H; exact H
     clear H
     have H := H1
     clear H1
     replace H := Option.bind_eq_some_iff.mp H
     obtain ⟨t211, A60, H⟩ := H
     replace H : ((impl_FormDisc.f kj2 t211).bind fun t214 => ((spec_FormDisc.f kj2 t211).bind fun t215 => (if t214 = t215 then (laws_FnDisc.j1 kj2 l1 t211 t214 t215 (t214 == 0)) else (laws_FnDisc.j1 kj2 l1 t211 t214 t215 true)))) = some r := H
     have A6 := Aside0.mk A60
     clear A60
     replace H := Option.bind_eq_some_iff.mp H
     obtain ⟨t214, A70, H⟩ := H
     replace H : ((spec_FormDisc.f kj2 t211).bind fun t215 => (if t214 = t215 then (laws_FnDisc.j1 kj2 l1 t211 t214 t215 (t214 == 0)) else (laws_FnDisc.j1 kj2 l1 t211 t214 t215 true))) = some r := H
     have A7 := Aside0.mk A70
     clear A70
     replace H := Option.bind_eq_some_iff.mp H
     obtain ⟨t215, A80, H⟩ := H
     replace H : (if t214 = t215 then (laws_FnDisc.j1 kj2 l1 t211 t214 t215 (t214 == 0)) else (laws_FnDisc.j1 kj2 l1 t211 t214 t215 true)) = some r := H
     have A8 := Aside0.mk A80
     clear A80
     have HC9 := Aside0.mk H
     clear H
     go_upto_region 6 with (first | ((with_reducible refine gate_callee (f := 5) rfl ?_); refine goesL_ (some 31) rfl rfl Try.func5 (by kernel_rfl) rfl #[.slice A0 l0.length c0] rfl (by (try simp only [List.map_toArray, List.map_cons, List.map_nil]); first | done | rfl | (simp only [List.length_drop, List.length_take]; rfl)) ?_; (with_reducible refine (spec_DrawFormDisc.calls kj2 _ _ l0 t211 _ ?side1 ?side2 A6.out).mono ?_); (case side1 => repeat (first | exact (Kd.C_below HR0.out HB.out) | (with_reducible refine Kd.C_alloc ?_ _) | (with_reducible refine Kd.C_drewN ?_ _) | (with_reducible refine Kd.C_drew ?_))); (case side2 => exact HC0.out); rintro e w10 ⟨v212, rfl, ho0, hb⟩; refine ⟨_, rfl, ?_⟩; have n0_ := Aside0.mk (Kd.R_lower ho0 (below_size (by repeat (first | (with_reducible first | exact HB.out | apply below_alloc | apply pw_below_drewN | apply below_drew1) | exact HB.out)))); have n1_ := Aside0.mk (below_step (by repeat (first | (with_reducible first | exact HB.out | apply below_alloc | apply pw_below_drewN | apply below_drew1) | exact HB.out)) hb); clear HB; have HO213 := n0_; have HB := n1_; clear n0_ n1_; (try clear hb); (try clear hb2); (try clear hk); (try clear hi); (try clear ho0); obtain ⟨Ao11, co11, eo11⟩ := Kd.R_slice HO213.out; subst eo11) | ((with_reducible refine gate_callee (f := 6) rfl ?_); refine goesL_ (some 33) rfl rfl Try.func6 (by kernel_rfl) rfl #[.slice Ao11 t211.length co11] rfl (by (try simp only [List.map_toArray, List.map_cons, List.map_nil]); first | done | rfl | (simp only [List.length_drop, List.length_take]; rfl)) ?_; (with_reducible refine (impl_FormDisc.calls kj2 _ _ t211 t214 _ ?side1 ?side2 A7.out).mono ?_); (case side1 => repeat (first | exact (Kd.R_reads' HO213.out).2.2 | (with_reducible refine Kd.C_alloc ?_ _) | (with_reducible refine Kd.C_drewN ?_ _) | (with_reducible refine Kd.C_drew ?_))); (case side2 => exact (Kd.R_reads' HO213.out).2.1); rintro e w12 ⟨rfl, hb⟩; refine ⟨_, rfl, ?_⟩; have n0_ := Aside0.mk (Kd.R_below (by (with_reducible repeat (first | apply Kd.R_alloc | apply Kd.R_drewN | apply Kd.R_drew)); exact HO213.out) hb); have n1_ := Aside0.mk (below_step (by repeat (first | (with_reducible first | exact HB.out | apply below_alloc | apply pw_below_drewN | apply below_drew1) | exact HB.out)) hb); clear HO213; clear HB; have HO213 := n0_; have HB := n1_; clear n0_ n1_; (try clear hb); (try clear hb2); (try clear hk); (try clear hi)) | ((with_reducible refine gate_callee (f := 7) rfl ?_); refine goesL_ (some 35) rfl rfl Try.func7 (by kernel_rfl) rfl #[.slice Ao11 t211.length co11] rfl (by (try simp only [List.map_toArray, List.map_cons, List.map_nil]); first | done | rfl | (simp only [List.length_drop, List.length_take]; rfl)) ?_; (with_reducible refine (spec_FormDisc.calls kj2 _ _ t211 t215 _ ?side1 ?side2 A8.out).mono ?_); (case side1 => repeat (first | exact (Kd.R_reads' HO213.out).2.2 | (with_reducible refine Kd.C_alloc ?_ _) | (with_reducible refine Kd.C_drewN ?_ _) | (with_reducible refine Kd.C_drew ?_))); (case side2 => exact (Kd.R_reads' HO213.out).2.1); rintro e w13 ⟨rfl, hb⟩; refine ⟨_, rfl, ?_⟩; have n0_ := Aside0.mk (Kd.R_below (by (with_reducible repeat (first | apply Kd.R_alloc | apply Kd.R_drewN | apply Kd.R_drew)); exact HO213.out) hb); have n1_ := Aside0.mk (below_step (by repeat (first | (with_reducible first | exact HB.out | apply below_alloc | apply pw_below_drewN | apply below_drew1) | exact HB.out)) hb); clear HO213; clear HB; have HO213 := n0_; have HB := n1_; clear n0_ n1_; (try clear hb); (try clear hb2); (try clear hk); (try clear hi)))
     (try simp only [Act.put, List.setIfInBounds_toArray, List.set_cons_zero, List.set_cons_succ])
     go_cut [42] (fun v42 wc => ∃ (kq : Nat) (x42_8 : Bool), v42 = .bool x42_8 ∧ Aside0 (laws_FnDisc.j1 kq l1 t211 t214 t215 x42_8 = some r) ∧ Aside0 (kq ≤ kj2) ∧ Aside0 (Kd.R (Kd.int .i64) 3 wc w.heap.size (fun _ => True) (.slice Ao11 t211.length co11) t211) ∧ Aside0 (Below w.heap.size w wc))
     case first =>
      have H := HC9.out
      clear HC9
      by_cases c14 : t214 = t215
      · rw [if_pos c14] at H
        have c14b0 : (t214 == t215) = true := beq_iff_eq.mpr c14
        have c14b1 : (t214 != t215) = false := bne_eq_false_iff_eq.mpr c14
        clear c14
        (first | rw [c14b0] | (simp only [i64_w, i32_w]; rw [c14b0]) | skip)
        have H' := Aside0.mk H
        clear H
        go_wp2
        go_meet
        case rel => exact ⟨_, ((t214 == 0)), (by first | rfl | (simp; done) | (simp [*]; done)), H', ⟨by have := HJ2.out; first | omega | exact Nat.le_refl _⟩, ⟨by (with_reducible repeat (first | apply Kd.R_alloc | apply Kd.R_drewN | apply Kd.R_drew)); exact HO213.out⟩, ⟨by repeat (first | (with_reducible first | exact HB.out | apply below_alloc | apply pw_below_drewN | apply below_drew1) | exact HB.out)⟩⟩
      · rw [if_neg c14] at H
        have c14b0 : (t214 == t215) = false := beq_eq_false_iff_ne.mpr c14
        have c14b1 : (t214 != t215) = true := bne_iff_ne.mpr c14
        (first | rw [c14b0] | (simp only [i64_w, i32_w]; rw [c14b0]) | skip)
        have H' := Aside0.mk H
        clear H
        go_wp2
        go_meet
        case rel => exact ⟨_, (true), (by first | rfl | (simp; done) | (simp [*]; done)), H', ⟨by have := HJ2.out; first | omega | exact Nat.le_refl _⟩, ⟨by (with_reducible repeat (first | apply Kd.R_alloc | apply Kd.R_drewN | apply Kd.R_drew)); exact HO213.out⟩, ⟨by repeat (first | (with_reducible first | exact HB.out | apply below_alloc | apply pw_below_drewN | apply below_drew1) | exact HB.out)⟩⟩
     case rest =>
      clear HC9
      try clear c1
      try clear p2
      try clear c3
      try clear c4
      try clear c4b0
      try clear c4b1
      try clear c5
      try clear c6
      try clear c7
      try clear c14
      try clear c14b0
      try clear c14b1
      try clear p2
      obtain ⟨kq, x42_8, rfl, HA, HJ8, HO_5, HB⟩ := hcut
      cases kq with
      | zero => exact absurd HA.out (by simp [laws_FnDisc.j1])
      | succ kj8 =>
       have H := HA.out
       clear HA
       simp only [laws_FnDisc.j1] at H
       by_cases c15 : x42_8 = true
       · subst c15
         have H1 : (some (t214 == t215)) = some r := by rw [if_pos rfl] at H; exact H
         clear H
         have H := H1
         clear H1
         obtain rfl := Option.some.inj H
         go_wp2
         go_ret
         exact ⟨by first | rfl | (simp [errW_none, errW_some] <;> rfl) | (simp [*, errW_none, errW_some] <;> rfl), by repeat (first | (with_reducible first | exact HB.out | apply below_alloc | apply pw_below_drewN | apply below_drew1) | exact HB.out)⟩
       · replace c15 := Bool.eq_false_iff.mpr c15
         subst c15
         have H1 : ((impl_CoreOf.f kj8 t214).bind fun bt216 => (if (t211.length : Int) = 1 then (if 0 < (t211.length : Int) then ((impl_CoreOf.f kj8 (rd t211 0)).bind fun bt220 => (if bt216.2.2 = true then (if bt220.2.2 = true then (some (bt220.1 == t214)) else (some false)) else (some false))) else (none)) else (if (wrap64 ((t211.length : Int) - 1)) = 0 then (none) else (if 0 ≤ (wrap64 (1 + ((l1.length : Int) % (wrap64 ((t211.length : Int) - 1))))) then (if (wrap64 (1 + ((l1.length : Int) % (wrap64 ((t211.length : Int) - 1))))) ≤ (t211.length : Int) then ((impl_FormDisc.f kj8 (t211.take ((wrap64 (1 + ((l1.length : Int) % (wrap64 ((t211.length : Int) - 1))))) : Int).toNat)).bind fun t227 => ((impl_FormDisc.f kj8 (t211.drop ((wrap64 (1 + ((l1.length : Int) % (wrap64 ((t211.length : Int) - 1))))) : Int).toNat)).bind fun t232 => (if bt216.2.2 = true then (laws_FnDisc.j2 kj8 l1 t214 bt216.1 bt216.2.1 t227 t232 false) else ((laws_sizeOf.f t214).bind fun t233 => (laws_FnDisc.j2 kj8 l1 t214 bt216.1 bt216.2.1 t227 t232 (decide (t233 ≤ 5000))))))) else (none)) else (none))))) = some r := by rw [if_neg (show ¬ (false = true) by decide)] at H; exact H
         clear H
         have H := H1
         clear H1
         replace H := Option.bind_eq_some_iff.mp H
         obtain ⟨⟨t216, t217, t218⟩, A160, H⟩ := H
         replace H : (if (t211.length : Int) = 1 then (if 0 < (t211.length : Int) then ((impl_CoreOf.f kj8 (rd t211 0)).bind fun bt220 => (if t218 = true then (if bt220.2.2 = true then (some (bt220.1 == t214)) else (some false)) else (some false))) else (none)) else (if (wrap64 ((t211.length : Int) - 1)) = 0 then (none) else (if 0 ≤ (wrap64 (1 + ((l1.length : Int) % (wrap64 ((t211.length : Int) - 1))))) then (if (wrap64 (1 + ((l1.length : Int) % (wrap64 ((t211.length : Int) - 1))))) ≤ (t211.length : Int) then ((impl_FormDisc.f kj8 (t211.take ((wrap64 (1 + ((l1.length : Int) % (wrap64 ((t211.length : Int) - 1))))) : Int).toNat)).bind fun t227 => ((impl_FormDisc.f kj8 (t211.drop ((wrap64 (1 + ((l1.length : Int) % (wrap64 ((t211.length : Int) - 1))))) : Int).toNat)).bind fun t232 => (if t218 = true then (laws_FnDisc.j2 kj8 l1 t214 t216 t217 t227 t232 false) else ((laws_sizeOf.f t214).bind fun t233 => (laws_FnDisc.j2 kj8 l1 t214 t216 t217 t227 t232 (decide (t233 ≤ 5000))))))) else (none)) else (none)))) = some r := H
         have A16 := Aside0.mk A160
         clear A160
         by_cases c17 : (t211.length : Int) = 1
         · rw [if_pos c17] at H
           have c17b0 : ((t211.length : Int) == 1) = true := beq_iff_eq.mpr c17
           have c17b1 : ((t211.length : Int) != 1) = false := bne_eq_false_iff_eq.mpr c17
           clear c17
           by_cases c18 : 0 < (t211.length : Int)
           · rw [if_pos c18] at H
             have c18b0 : decide (0 < (t211.length : Int)) = true := decide_eq_true c18
             have c18b1 : decide (0 < t211.length) = true := decide_eq_true (by omega)
             clear c18
             replace H := Option.bind_eq_some_iff.mp H
             obtain ⟨⟨t220, t221, t222⟩, A190, H⟩ := H
             replace H : (if t218 = true then (if t222 = true then (some (t220 == t214)) else (some false)) else (some false)) = some r := H
             have A19 := Aside0.mk A190
             clear A190
             by_cases c20 : t218 = true
             · subst c20
               have H1 : (if t222 = true then (some (t220 == t214)) else (some false)) = some r := by rw [if_pos rfl] at H; exact H
               clear H
               have H := H1
               clear H1
               by_cases c21 : t222 = true
               · subst c21
                 have H1 : (some (t220 == t214)) = some r := by rw [if_pos rfl] at H; exact H
                 clear H
                 have H := H1
                 clear H1
                 obtain rfl := Option.some.inj H
                 go_wp2_with (first | ((with_reducible refine gate_callee (f := 8) rfl ?_); refine goesL_ (some 48) rfl rfl Try.func8 (by kernel_rfl) rfl #[.int .i64 t214] rfl (by (try simp only [List.map_toArray, List.map_cons, List.map_nil]); first | done | rfl | (simp only [List.length_drop, List.length_take]; rfl)) ?_; (with_reducible refine (impl_CoreOf.calls kj8 t214 t216 t217 true _ A16.out).mono ?_); rintro e w22 ⟨rfl, hb⟩; refine ⟨_, rfl, ?_⟩; have n0_ := Aside0.mk (Kd.R_below (by (with_reducible repeat (first | apply Kd.R_alloc | apply Kd.R_drewN | apply Kd.R_drew)); exact HO_5.out) hb); have n1_ := Aside0.mk (below_step (by repeat (first | (with_reducible first | exact HB.out | apply below_alloc | apply pw_below_drewN | apply below_drew1) | exact HB.out)) hb); clear HO_5; clear HB; have HO_5 := n0_; have HB := n1_; clear n0_ n1_; (try clear hb); (try clear hb2); (try clear hk); (try clear hi); have p219 : 0 ≤ (0 : Int) := (by omega); have q219 : 0 < (t211.length : Int) := of_decide_eq_true (by first | (with_reducible assumption) | assumption); obtain ⟨ad219, e219, hx219_0⟩ := Kd.at_int (Kd.R_reads' HO_5.out).2.2 0 p219 q219; cases e219; have qi219 : (0 < t211.length) = True := eq_true (by omega); (try rw [show ((0 : Int)).toNat = 0 from rfl] at hx219_0); (try rw [Addr.add_zero'] at hx219_0); replace p219 := eq_true p219; replace q219 := eq_true q219) | ((with_reducible refine gate_callee (f := 8) rfl ?_); refine goesL_ (some 59) rfl rfl Try.func8 (by kernel_rfl) rfl #[.int .i64 (rd t211 0)] rfl (by (try simp only [List.map_toArray, List.map_cons, List.map_nil]); first | done | rfl | (simp only [List.length_drop, List.length_take]; rfl)) ?_; (with_reducible refine (impl_CoreOf.calls kj8 (rd t211 0) t220 t221 true _ A19.out).mono ?_); rintro e w23 ⟨rfl, hb⟩; refine ⟨_, rfl, ?_⟩; have n0_ := Aside0.mk (Kd.R_below (by (with_reducible repeat (first | apply Kd.R_alloc | apply Kd.R_drewN | apply Kd.R_drew)); exact HO_5.out) hb); have n1_ := Aside0.mk (below_step (by repeat (first | (with_reducible first | exact HB.out | apply below_alloc | apply pw_below_drewN | apply below_drew1) | exact HB.out)) hb); clear HO_5; clear HB; have HO_5 := n0_; have HB := n1_; clear n0_ n1_; (try clear hb); (try clear hb2); (try clear hk); (try clear hi)))
                 go_ret
                 exact ⟨by first | rfl | (simp [errW_none, errW_some] <;> rfl) | (simp [*, errW_none, errW_some] <;> rfl), by repeat (first | (with_reducible first | exact HB.out | apply below_alloc | apply pw_below_drewN | apply below_drew1) | exact HB.out)⟩
               · replace c21 := Bool.eq_false_iff.mpr c21
                 subst c21
                 have H1 : (some false) = some r := by rw [if_neg (show ¬ (false = true) by decide)] at H; exact H
                 clear H
                 have H := H1
                 clear H1
                 obtain rfl := Option.some.inj H
                 go_wp2_with (first | ((with_reducible refine gate_callee (f := 8) rfl ?_); refine goesL_ (some 48) rfl rfl Try.func8 (by kernel_rfl) rfl #[.int .i64 t214] rfl (by (try simp only [List.map_toArray, List.map_cons, List.map_nil]); first | done | rfl | (simp only [List.length_drop, List.length_take]; rfl)) ?_; (with_reducible refine (impl_CoreOf.calls kj8 t214 t216 t217 true _ A16.out).mono ?_); rintro e w24 ⟨rfl, hb⟩; refine ⟨_, rfl, ?_⟩; have n0_ := Aside0.mk (Kd.R_below (by (with_reducible repeat (first | apply Kd.R_alloc | apply Kd.R_drewN | apply Kd.R_drew)); exact HO_5.out) hb); have n1_ := Aside0.mk (below_step (by repeat (first | (with_reducible first | exact HB.out | apply below_alloc | apply pw_below_drewN | apply below_drew1) | exact HB.out)) hb); clear HO_5; clear HB; have HO_5 := n0_; have HB := n1_; clear n0_ n1_; (try clear hb); (try clear hb2); (try clear hk); (try clear hi); have p219 : 0 ≤ (0 : Int) := (by omega); have q219 : 0 < (t211.length : Int) := of_decide_eq_true (by first | (with_reducible assumption) | assumption); obtain ⟨ad219, e219, hx219_0⟩ := Kd.at_int (Kd.R_reads' HO_5.out).2.2 0 p219 q219; cases e219; have qi219 : (0 < t211.length) = True := eq_true (by omega); (try rw [show ((0 : Int)).toNat = 0 from rfl] at hx219_0); (try rw [Addr.add_zero'] at hx219_0); replace p219 := eq_true p219; replace q219 := eq_true q219) | ((with_reducible refine gate_callee (f := 8) rfl ?_); refine goesL_ (some 59) rfl rfl Try.func8 (by kernel_rfl) rfl #[.int .i64 (rd t211 0)] rfl (by (try simp only [List.map_toArray, List.map_cons, List.map_nil]); first | done | rfl | (simp only [List.length_drop, List.length_take]; rfl)) ?_; (with_reducible refine (impl_CoreOf.calls kj8 (rd t211 0) t220 t221 false _ A19.out).mono ?_); rintro e w25 ⟨rfl, hb⟩; refine ⟨_, rfl, ?_⟩; have n0_ := Aside0.mk (Kd.R_below (by (with_reducible repeat (first | apply Kd.R_alloc | apply Kd.R_drewN | apply Kd.R_drew)); exact HO_5.out) hb); have n1_ := Aside0.mk (below_step (by repeat (first | (with_reducible first | exact HB.out | apply below_alloc | apply pw_below_drewN | apply below_drew1) | exact HB.out)) hb); clear HO_5; clear HB; have HO_5 := n0_; have HB := n1_; clear n0_ n1_; (try clear hb); (try clear hb2); (try clear hk); (try clear hi)))
                 go_ret
                 exact ⟨by first | rfl | (simp [errW_none, errW_some] <;> rfl) | (simp [*, errW_none, errW_some] <;> rfl), by repeat (first | (with_reducible first | exact HB.out | apply below_alloc | apply pw_below_drewN | apply below_drew1) | exact HB.out)⟩
             · replace c20 := Bool.eq_false_iff.mpr c20
               subst c20
               have H1 : (some false) = some r := by rw [if_neg (show ¬ (false = true) by decide)] at H; exact H
               clear H
               have H := H1
               clear H1
               obtain rfl := Option.some.inj H
               go_wp2_with (first | ((with_reducible refine gate_callee (f := 8) rfl ?_); refine goesL_ (some 48) rfl rfl Try.func8 (by kernel_rfl) rfl #[.int .i64 t214] rfl (by (try simp only [List.map_toArray, List.map_cons, List.map_nil]); first | done | rfl | (simp only [List.length_drop, List.length_take]; rfl)) ?_; (with_reducible refine (impl_CoreOf.calls kj8 t214 t216 t217 false _ A16.out).mono ?_); rintro e w26 ⟨rfl, hb⟩; refine ⟨_, rfl, ?_⟩; have n0_ := Aside0.mk (Kd.R_below (by (with_reducible repeat (first | apply Kd.R_alloc | apply Kd.R_drewN | apply Kd.R_drew)); exact HO_5.out) hb); have n1_ := Aside0.mk (below_step (by repeat (first | (with_reducible first | exact HB.out | apply below_alloc | apply pw_below_drewN | apply below_drew1) | exact HB.out)) hb); clear HO_5; clear HB; have HO_5 := n0_; have HB := n1_; clear n0_ n1_; (try clear hb); (try clear hb2); (try clear hk); (try clear hi); have p219 : 0 ≤ (0 : Int) := (by omega); have q219 : 0 < (t211.length : Int) := of_decide_eq_true (by first | (with_reducible assumption) | assumption); obtain ⟨ad219, e219, hx219_0⟩ := Kd.at_int (Kd.R_reads' HO_5.out).2.2 0 p219 q219; cases e219; have qi219 : (0 < t211.length) = True := eq_true (by omega); (try rw [show ((0 : Int)).toNat = 0 from rfl] at hx219_0); (try rw [Addr.add_zero'] at hx219_0); replace p219 := eq_true p219; replace q219 := eq_true q219) | ((with_reducible refine gate_callee (f := 8) rfl ?_); refine goesL_ (some 59) rfl rfl Try.func8 (by kernel_rfl) rfl #[.int .i64 (rd t211 0)] rfl (by (try simp only [List.map_toArray, List.map_cons, List.map_nil]); first | done | rfl | (simp only [List.length_drop, List.length_take]; rfl)) ?_; (with_reducible refine (impl_CoreOf.calls kj8 (rd t211 0) t220 t221 t222 _ A19.out).mono ?_); rintro e w27 ⟨rfl, hb⟩; refine ⟨_, rfl, ?_⟩; have n0_ := Aside0.mk (Kd.R_below (by (with_reducible repeat (first | apply Kd.R_alloc | apply Kd.R_drewN | apply Kd.R_drew)); exact HO_5.out) hb); have n1_ := Aside0.mk (below_step (by repeat (first | (with_reducible first | exact HB.out | apply below_alloc | apply pw_below_drewN | apply below_drew1) | exact HB.out)) hb); clear HO_5; clear HB; have HO_5 := n0_; have HB := n1_; clear n0_ n1_; (try clear hb); (try clear hb2); (try clear hk); (try clear hi)))
               go_ret
               exact ⟨by first | rfl | (simp [errW_none, errW_some] <;> rfl) | (simp [*, errW_none, errW_some] <;> rfl), by repeat (first | (with_reducible first | exact HB.out | apply below_alloc | apply pw_below_drewN | apply below_drew1) | exact HB.out)⟩
           · rw [if_neg c18] at H
             exact absurd H (by simp)
         · rw [if_neg c17] at H
           have c17b0 : ((t211.length : Int) == 1) = false := beq_eq_false_iff_ne.mpr c17
           have c17b1 : ((t211.length : Int) != 1) = true := bne_iff_ne.mpr c17
           by_cases c28 : (wrap64 ((t211.length : Int) - 1)) = 0
           · rw [if_pos c28] at H
             exact absurd H (by simp)
           · rw [if_neg c28] at H
             have c28b0 : ((wrap64 ((t211.length : Int) - 1)) == 0) = false := beq_eq_false_iff_ne.mpr c28
             have c28b1 : ((wrap64 ((t211.length : Int) - 1)) != 0) = true := bne_iff_ne.mpr c28
             obtain ⟨ji29, hji29⟩ : ∃ j_ : Int, (wrap64 (1 + ((l1.length : Int) % (wrap64 ((t211.length : Int) - 1))))) = j_ := ⟨_, rfl⟩
             replace H : (if 0 ≤ (ji29) then (if (ji29) ≤ (t211.length : Int) then ((impl_FormDisc.f kj8 (t211.take ((ji29) : Int).toNat)).bind fun t227 => ((impl_FormDisc.f kj8 (t211.drop ((ji29) : Int).toNat)).bind fun t232 => (if t218 = true then (laws_FnDisc.j2 kj8 l1 t214 t216 t217 t227 t232 false) else ((laws_sizeOf.f t214).bind fun t233 => (laws_FnDisc.j2 kj8 l1 t214 t216 t217 t227 t232 (decide (t233 ≤ 5000))))))) else (none)) else (none)) = some r := by first | (rw [hji29] at H; exact H) | (simp only [hji29] at H ⊢; exact H)
             (try rw [hji29] at A16)
             have hji29w : (IntKind.i64.wrap (1 + ((l1.length : Int) % (wrap64 ((t211.length : Int) - 1))))) = ji29 := (i64_w _).trans hji29
             by_cases c30 : 0 ≤ (ji29)
             · rw [if_pos c30] at H
               have c30b0 := eq_true c30
               have c30b1 : decide (0 ≤ (ji29)) = true := decide_eq_true c30
               clear c30
               by_cases c31 : (ji29) ≤ (t211.length : Int)
               · rw [if_pos c31] at H
                 have c31b0 := eq_true c31
                 have c31b1 : decide ((ji29) ≤ (t211.length : Int)) = true := decide_eq_true c31
                 clear c31
                 obtain ⟨y223, hy223⟩ : ∃ y_ : List Int, y_ = (t211.take ((ji29) : Int).toNat) := ⟨_, rfl⟩
                 replace H : ((impl_FormDisc.f kj8 y223).bind fun t227 => ((impl_FormDisc.f kj8 (t211.drop ((ji29) : Int).toNat)).bind fun t232 => (if t218 = true then (laws_FnDisc.j2 kj8 l1 t214 t216 t217 t227 t232 false) else ((laws_sizeOf.f t214).bind fun t233 => (laws_FnDisc.j2 kj8 l1 t214 t216 t217 t227 t232 (decide (t233 ≤ 5000))))))) = some r := by first | (rw [hy223]; with_reducible exact H) | (have H2_ := (Option.bind_some _ _).symm.trans H; rw [hy223]; with_reducible exact H2_) | (have H2_ := (Option.bind_some _ _).symm.trans H; with_reducible exact H2_) | with_reducible exact H | (rw [hy223]; exact H) | exact H
                 have Ny223 := Aside0.mk hy223
                 clear hy223
                 replace H := Option.bind_eq_some_iff.mp H
                 obtain ⟨t227, A320, H⟩ := H
                 replace H : ((impl_FormDisc.f kj8 (t211.drop ((ji29) : Int).toNat)).bind fun t232 => (if t218 = true then (laws_FnDisc.j2 kj8 l1 t214 t216 t217 t227 t232 false) else ((laws_sizeOf.f t214).bind fun t233 => (laws_FnDisc.j2 kj8 l1 t214 t216 t217 t227 t232 (decide (t233 ≤ 5000)))))) = some r := H
                 have A32 := Aside0.mk A320
                 clear A320
                 have c33b0 := eq_true (of_decide_eq_true (by first | (with_reducible assumption) | assumption) : 0 ≤ (ji29))
                 have c34b0 := eq_true (of_decide_eq_true (by first | (with_reducible assumption) | assumption) : (ji29) ≤ (t211.length : Int))
                 obtain ⟨y228, hy228⟩ : ∃ y_ : List Int, y_ = (t211.drop ((ji29) : Int).toNat) := ⟨_, rfl⟩
                 replace H : ((impl_FormDisc.f kj8 y228).bind fun t232 => (if t218 = true then (laws_FnDisc.j2 kj8 l1 t214 t216 t217 t227 t232 false) else ((laws_sizeOf.f t214).bind fun t233 => (laws_FnDisc.j2 kj8 l1 t214 t216 t217 t227 t232 (decide (t233 ≤ 5000)))))) = some r := by first | (rw [hy228]; with_reducible exact H) | (have H2_ := (Option.bind_some _ _).symm.trans H; rw [hy228]; with_reducible exact H2_) | (have H2_ := (Option.bind_some _ _).symm.trans H; with_reducible exact H2_) | with_reducible exact H | (rw [hy228]; exact H) | exact H
                 have Ny228 := Aside0.mk hy228
                 clear hy228
                 replace H := Option.bind_eq_some_iff.mp H
                 obtain ⟨t232, A350, H⟩ := H
                 replace H : (if t218 = true then (laws_FnDisc.j2 kj8 l1 t214 t216 t217 t227 t232 false) else ((laws_sizeOf.f t214).bind fun t233 => (laws_FnDisc.j2 kj8 l1 t214 t216 t217 t227 t232 (decide (t233 ≤ 5000))))) = some r := H
                 have A35 := Aside0.mk A350
                 clear A350
                 have HC36 := Aside0.mk H
                 clear H
                 go_upto_region 15 with (first | ((with_reducible refine gate_callee (f := 8) rfl ?_); refine goesL_ (some 48) rfl rfl Try.func8 (by kernel_rfl) rfl #[.int .i64 t214] rfl (by (try simp only [List.map_toArray, List.map_cons, List.map_nil]); first | done | rfl | (simp only [List.length_drop, List.length_take]; rfl)) ?_; (with_reducible refine (impl_CoreOf.calls kj8 t214 t216 t217 t218 _ A16.out).mono ?_); rintro e w37 ⟨rfl, hb⟩; refine ⟨_, rfl, ?_⟩; have n0_ := Aside0.mk (Kd.R_below (by (with_reducible repeat (first | apply Kd.R_alloc | apply Kd.R_drewN | apply Kd.R_drew)); exact HO_5.out) hb); have n1_ := Aside0.mk (below_step (by repeat (first | (with_reducible first | exact HB.out | apply below_alloc | apply pw_below_drewN | apply below_drew1) | exact HB.out)) hb); clear HO_5; clear HB; have HO_5 := n0_; have HB := n1_; clear n0_ n1_; (try clear hb); (try clear hb2); (try clear hk); (try clear hi); have q38 : ((ji29) : Int) ≤ ((t211.length : Int) : Int) := of_decide_eq_true (by first | (with_reducible assumption) | assumption); obtain ⟨i038, hi038, _, hsz38, _⟩ := info_parts info3; have hroom38 : t211.length ≤ co11 := (Kd.R_reads' HO_5.out).2.1; have hC38 : Kd.C (Kd.int .i64) _ Ao11 t211.length t211 := (Kd.R_reads' HO_5.out).2.2; have hcut38 := cut_to (P := Try.prog) 23 3 .i64 Try.underlying23 hi038 Ao11 t211.length co11 (ji29) (of_decide_eq_true (by first | (with_reducible assumption) | assumption)) q38 hroom38; have hr38 := Kd.C_take (m := ((ji29) : Int).toNat) hC38 (by omega); have hy38 : y223.length = ((ji29) : Int).toNat := (by rw [Ny223.out, List.length_take]; omega); rw [← Ny223.out] at hr38; rw [← hy38] at hcut38; have HR226 := Aside0.mk hr38; have HC226 := Aside0.mk (show y223.length ≤ co11 from by omega); clear hr38 hC38 hroom38 hi038 hsz38; have KY38 := Aside0.mk hy38; clear hy38; have KL38 := Aside0.mk (show ((ji29) : Int).toNat ≤ t211.length from by omega); replace q38 := eq_true q38) | ((with_reducible refine gate_callee (f := 6) rfl ?_); refine goesL_ (some 82) rfl rfl Try.func6 (by kernel_rfl) rfl #[.slice Ao11 y223.length co11] rfl (by (try simp only [List.map_toArray, List.map_cons, List.map_nil]); first | done | rfl | (simp only [List.length_drop, List.length_take]; rfl)) ?_; (with_reducible refine (impl_FormDisc.calls kj8 _ _ y223 t227 _ ?side1 ?side2 A32.out).mono ?_); (case side1 => repeat (first | exact (by repeat (first | (with_reducible exact HR226.out) | (with_reducible refine Kd.C_alloc ?_ _) | (with_reducible refine Kd.C_drewN ?_ _) | (with_reducible refine Kd.C_drew ?_) | exact HR226.out)) | (with_reducible refine Kd.C_alloc ?_ _) | (with_reducible refine Kd.C_drewN ?_ _) | (with_reducible refine Kd.C_drew ?_))); (case side2 => exact HC226.out); rintro e w39 ⟨rfl, hb⟩; refine ⟨_, rfl, ?_⟩; have n0_ := Aside0.mk (Kd.R_below (by (with_reducible repeat (first | apply Kd.R_alloc | apply Kd.R_drewN | apply Kd.R_drew)); exact HO_5.out) hb); have n1_ := Aside0.mk (Kd.C_below (by repeat (first | (with_reducible exact HR226.out) | (with_reducible refine Kd.C_alloc ?_ _) | (with_reducible refine Kd.C_drewN ?_ _) | (with_reducible refine Kd.C_drew ?_) | exact HR226.out)) hb); have n2_ := Aside0.mk (below_step (by repeat (first | (with_reducible first | exact HB.out | apply below_alloc | apply pw_below_drewN | apply below_drew1) | exact HB.out)) hb); clear HO_5; clear HR226; clear HB; have HO_5 := n0_; have HR226 := n1_; have HB := n2_; clear n0_ n1_ n2_; (try clear hb); (try clear hb2); (try clear hk); (try clear hi); have q40 : ((ji29) : Int) ≤ ((t211.length : Int) : Int) := of_decide_eq_true (by first | (with_reducible assumption) | assumption); obtain ⟨i040, hi040, _, hsz40, _⟩ := info_parts info3; have hroom40 : t211.length ≤ co11 := (Kd.R_reads' HO_5.out).2.1; have hC40 : Kd.C (Kd.int .i64) _ Ao11 t211.length t211 := (Kd.R_reads' HO_5.out).2.2; have q040 : (0 : Int) ≤ ((ji29) : Int) := of_decide_eq_true (by first | (with_reducible assumption) | assumption); have hcut40 := cut_from (P := Try.prog) 23 3 .i64 Try.underlying23 hi040 1 hsz40 Ao11 t211.length co11 (ji29) q040 q40; have hr40 := Kd.C_drop (m := ((ji29) : Int).toNat) (c := co11) hC40 (by omega) hroom40; obtain ⟨A40, hA40⟩ : ∃ A1, A1 = (if co11 = ((ji29) : Int).toNat then Ao11 else (Ao11 : Option Addr).map (·.add (((ji29) : Int).toNat * 1))) := ⟨_, rfl⟩; obtain ⟨c40, hc40⟩ : ∃ c1, c1 = co11 - ((ji29) : Int).toNat := ⟨_, rfl⟩; have hy40 : y228.length = t211.length - ((ji29) : Int).toNat := (by rw [Ny228.out, List.length_drop] <;> omega); rw [show (t211).drop ((ji29) : Int).toNat = y228 from Ny228.out.symm] at hr40; replace hr40 : Kd.C (Kd.int .i64) _ A40 y228.length y228 := (by rw [hA40]; exact hr40); rw [← hy40, ← hA40, ← hc40] at hcut40; have HR231 := Aside0.mk hr40; have HC231 := Aside0.mk (show y228.length ≤ c40 from by rw [hy40, hc40]; exact Nat.sub_le_sub_right hroom40 _); clear hr40 hC40 hroom40 hi040 hsz40 hc40; have KY40 := Aside0.mk hy40; have KA40 := Aside0.mk hA40; clear hy40 hA40; have KL40 := Aside0.mk (show ((ji29) : Int).toNat ≤ t211.length from by omega); replace q40 := eq_true q40) | ((with_reducible refine gate_callee (f := 6) rfl ?_); refine goesL_ (some 86) rfl rfl Try.func6 (by kernel_rfl) rfl #[.slice A40 y228.length c40] rfl (by (try simp only [List.map_toArray, List.map_cons, List.map_nil]); first | done | rfl | (simp only [List.length_drop, List.length_take]; rfl)) ?_; (with_reducible refine (impl_FormDisc.calls kj8 _ _ y228 t232 _ ?side1 ?side2 A35.out).mono ?_); (case side1 => repeat (first | exact (by repeat (first | (with_reducible exact HR231.out) | (with_reducible refine Kd.C_alloc ?_ _) | (with_reducible refine Kd.C_drewN ?_ _) | (with_reducible refine Kd.C_drew ?_) | exact HR231.out)) | (with_reducible refine Kd.C_alloc ?_ _) | (with_reducible refine Kd.C_drewN ?_ _) | (with_reducible refine Kd.C_drew ?_))); (case side2 => exact HC231.out); rintro e w41 ⟨rfl, hb⟩; refine ⟨_, rfl, ?_⟩; have n0_ := Aside0.mk (Kd.R_below (by (with_reducible repeat (first | apply Kd.R_alloc | apply Kd.R_drewN | apply Kd.R_drew)); exact HO_5.out) hb); have n1_ := Aside0.mk (Kd.C_below (by repeat (first | (with_reducible exact HR226.out) | (with_reducible refine Kd.C_alloc ?_ _) | (with_reducible refine Kd.C_drewN ?_ _) | (with_reducible refine Kd.C_drew ?_) | exact HR226.out)) hb); have n2_ := Aside0.mk (Kd.C_below (by repeat (first | (with_reducible exact HR231.out) | (with_reducible refine Kd.C_alloc ?_ _) | (with_reducible refine Kd.C_drewN ?_ _) | (with_reducible refine Kd.C_drew ?_) | exact HR231.out)) hb); have n3_ := Aside0.mk (below_step (by repeat (first | (with_reducible first | exact HB.out | apply below_alloc | apply pw_below_drewN | apply below_drew1) | exact HB.out)) hb); clear HO_5; clear HR226; clear HR231; clear HB; have HO_5 := n0_; have HR226 := n1_; have HR231 := n2_; have HB := n3_; clear n0_ n1_ n2_ n3_; (try clear hb); (try clear hb2); (try clear hk); (try clear hi)))
                 (try simp only [Act.put, List.setIfInBounds_toArray, List.set_cons_zero, List.set_cons_succ])
                 go_cut [93] (fun v93 wc => ∃ (kq : Nat) (x93_35 : Bool), v93 = .bool x93_35 ∧ Aside0 (laws_FnDisc.j2 kq l1 t214 t216 t217 t227 t232 x93_35 = some r) ∧ Aside0 (kq ≤ kj8) ∧ Aside0 (Kd.C (Kd.int .i64) wc Ao11 y223.length y223) ∧ Aside0 (Kd.C (Kd.int .i64) wc A40 y228.length y228) ∧ Aside0 (Below w.heap.size w wc))
                 case first =>
                  have H := HC36.out
                  clear HC36
                  by_cases c42 : t218 = true
                  · subst c42
                    have H1 : (laws_FnDisc.j2 kj8 l1 t214 t216 t217 t227 t232 false) = some r := by rw [if_pos rfl] at H; exact H
                    clear H
                    have H := H1
                    clear H1
                    have H' := Aside0.mk H
                    clear H
                    go_wp2
                    go_meet
                    case rel => exact ⟨_, (false), (by first | rfl | (simp; done) | (simp [*]; done)), H', ⟨by have := HJ2.out; have := HJ8.out; first | omega | exact Nat.le_refl _⟩, ⟨by repeat (first | (with_reducible exact HR226.out) | (with_reducible refine Kd.C_alloc ?_ _) | (with_reducible refine Kd.C_drewN ?_ _) | (with_reducible refine Kd.C_drew ?_) | exact HR226.out)⟩, ⟨by repeat (first | (with_reducible exact HR231.out) | (with_reducible refine Kd.C_alloc ?_ _) | (with_reducible refine Kd.C_drewN ?_ _) | (with_reducible refine Kd.C_drew ?_) | exact HR231.out)⟩, ⟨by repeat (first | (with_reducible first | exact HB.out | apply below_alloc | apply pw_below_drewN | apply below_drew1) | exact HB.out)⟩⟩
                  · replace c42 := Bool.eq_false_iff.mpr c42
                    subst c42
                    have H1 : ((laws_sizeOf.f t214).bind fun t233 => (laws_FnDisc.j2 kj8 l1 t214 t216 t217 t227 t232 (decide (t233 ≤ 5000)))) = some r := by rw [if_neg (show ¬ (false = true) by decide)] at H; exact H
                    clear H
                    have H := H1
                    clear H1
                    replace H := Option.bind_eq_some_iff.mp H
                    obtain ⟨t233, A430, H⟩ := H
                    replace H : (laws_FnDisc.j2 kj8 l1 t214 t216 t217 t227 t232 (decide (t233 ≤ 5000))) = some r := H
                    have A43 := Aside0.mk A430
                    clear A430
                    have H' := Aside0.mk H
                    clear H
                    go_wp2_with (first | (go_at_call 9; (with_reducible refine (laws_sizeOf.calls t214 t233 _ A43.out).mono ?_); rintro e w44 ⟨rfl, hb⟩; have n0_ := Aside0.mk (Kd.R_below (by (with_reducible repeat (first | apply Kd.R_alloc | apply Kd.R_drewN | apply Kd.R_drew)); exact HO_5.out) hb); have n1_ := Aside0.mk (Kd.C_below (by repeat (first | (with_reducible exact HR226.out) | (with_reducible refine Kd.C_alloc ?_ _) | (with_reducible refine Kd.C_drewN ?_ _) | (with_reducible refine Kd.C_drew ?_) | exact HR226.out)) hb); have n2_ := Aside0.mk (Kd.C_below (by repeat (first | (with_reducible exact HR231.out) | (with_reducible refine Kd.C_alloc ?_ _) | (with_reducible refine Kd.C_drewN ?_ _) | (with_reducible refine Kd.C_drew ?_) | exact HR231.out)) hb); have n3_ := Aside0.mk (below_step (by repeat (first | (with_reducible first | exact HB.out | apply below_alloc | apply pw_below_drewN | apply below_drew1) | exact HB.out)) hb); clear HO_5; clear HR226; clear HR231; clear HB; have HO_5 := n0_; have HR226 := n1_; have HR231 := n2_; have HB := n3_; clear n0_ n1_ n2_ n3_; (try clear hb); (try clear hb2); (try clear hk); (try clear hi)))
                    go_meet
                    case rel => exact ⟨_, (decide (t233 ≤ 5000)), (by first | rfl | (simp; done) | (simp [*]; done)), H', ⟨by have := HJ2.out; have := HJ8.out; first | omega | exact Nat.le_refl _⟩, ⟨by repeat (first | (with_reducible exact HR226.out) | (with_reducible refine Kd.C_alloc ?_ _) | (with_reducible refine Kd.C_drewN ?_ _) | (with_reducible refine Kd.C_drew ?_) | exact HR226.out)⟩, ⟨by repeat (first | (with_reducible exact HR231.out) | (with_reducible refine Kd.C_alloc ?_ _) | (with_reducible refine Kd.C_drewN ?_ _) | (with_reducible refine Kd.C_drew ?_) | exact HR231.out)⟩, ⟨by repeat (first | (with_reducible first | exact HB.out | apply below_alloc | apply pw_below_drewN | apply below_drew1) | exact HB.out)⟩⟩
                 case rest =>
                  clear HC36
                  try clear c1
                  try clear c2
                  try clear p2
                  try clear q2
                  try clear hx2
                  try clear qi2
                  try clear c3
                  try clear q3
                  try clear c4
                  try clear c4b0
                  try clear c4b1
                  try clear q4
                  try clear c5
                  try clear c6
                  try clear p6
                  try clear c7
                  try clear c8
                  try clear c14
                  try clear c14b0
                  try clear c14b1
                  try clear c15
                  try clear c17
                  try clear c17b0
                  try clear c17b1
                  try clear c18
                  try clear c18b0
                  try clear c18b1
                  try clear c20
                  try clear c21
                  try clear p21
                  try clear q21
                  try clear hx21
                  try clear qi21
                  try clear c28
                  try clear c28b0
                  try clear c28b1
                  try clear c30
                  try clear c30b0
                  try clear c30b1
                  try clear c31
                  try clear c31b0
                  try clear c31b1
                  try clear c33
                  try clear c33b0
                  try clear c34
                  try clear c34b0
                  try clear q38
                  try clear c40
                  try clear q40
                  try clear c42
                  try clear hx219_0
                  try clear p2
                  try clear p219
                  try clear q040
                  try clear q219
                  try clear q38
                  try clear q40
                  obtain ⟨kq, x93_35, rfl, HA, HJ35, HR226, HR231, HB⟩ := hcut
                  cases kq with
                  | zero => exact absurd HA.out (by simp [laws_FnDisc.j2])
                  | succ kj35 =>
                   have H := HA.out
                   clear HA
                   simp only [laws_FnDisc.j2] at H
                   by_cases c45 : x93_35 = true
                   · subst c45
                     have H1 : (some false) = some r := by rw [if_pos rfl] at H; exact H
                     clear H
                     have H := H1
                     clear H1
                     obtain rfl := Option.some.inj H
                     go_wp2
                     go_ret
                     exact ⟨by first | rfl | (simp [errW_none, errW_some] <;> rfl) | (simp only [← hji29]; first | rfl | (simp [errW_none, errW_some] <;> rfl)) | (simp [*, errW_none, errW_some] <;> rfl), by repeat (first | (with_reducible first | exact HB.out | apply below_alloc | apply pw_below_drewN | apply below_drew1) | exact HB.out)⟩
                   · replace c45 := Bool.eq_false_iff.mpr c45
                     subst c45
                     have H1 : ((some (([0, 2, 3, 5] : List Int) : List Int)).bind fun y234 => (if 0 ≤ ((l1.length : Int) % 4) then (if ((l1.length : Int) % 4) < (y234.length : Int) then ((laws_sizeOf.f t214).bind fun t238 => (if t238 > 5000 then (laws_FnDisc.j3 kj35 t214 t216 t217 t227 t232 (rd y234 ((l1.length : Int) % 4)) true) else ((laws_sizeOf.f t227).bind fun t239 => (if t239 > 5000 then (laws_FnDisc.j3 kj35 t214 t216 t217 t227 t232 (rd y234 ((l1.length : Int) % 4)) true) else ((laws_sizeOf.f t232).bind fun t240 => (laws_FnDisc.j3 kj35 t214 t216 t217 t227 t232 (rd y234 ((l1.length : Int) % 4)) (decide (t240 > 5000)))))))) else (none)) else (none))) = some r := by rw [if_neg (show ¬ (false = true) by decide)] at H; exact H
                     clear H
                     have H := H1
                     clear H1
                     obtain ⟨y234, hy234⟩ : ∃ y_ : List Int, y_ = (([0, 2, 3, 5] : List Int)) := ⟨_, rfl⟩
                     replace H : (if 0 ≤ ((l1.length : Int) % 4) then (if ((l1.length : Int) % 4) < (y234.length : Int) then ((laws_sizeOf.f t214).bind fun t238 => (if t238 > 5000 then (laws_FnDisc.j3 kj35 t214 t216 t217 t227 t232 (rd y234 ((l1.length : Int) % 4)) true) else ((laws_sizeOf.f t227).bind fun t239 => (if t239 > 5000 then (laws_FnDisc.j3 kj35 t214 t216 t217 t227 t232 (rd y234 ((l1.length : Int) % 4)) true) else ((laws_sizeOf.f t232).bind fun t240 => (laws_FnDisc.j3 kj35 t214 t216 t217 t227 t232 (rd y234 ((l1.length : Int) % 4)) (decide (t240 > 5000)))))))) else (none)) else (none)) = some r := by first | (rw [hy234]; with_reducible exact H) | (have H2_ := (Option.bind_some _ _).symm.trans H; rw [hy234]; with_reducible exact H2_) | (have H2_ := (Option.bind_some _ _).symm.trans H; with_reducible exact H2_) | with_reducible exact H | (rw [hy234]; exact H) | exact H
                     have Ny234 := Aside0.mk hy234
                     clear hy234
                     obtain ⟨ji46, hji46⟩ : ∃ j_ : Int, ((l1.length : Int) % 4) = j_ := ⟨_, rfl⟩
                     replace H : (if 0 ≤ (ji46) then (if (ji46) < (y234.length : Int) then ((laws_sizeOf.f t214).bind fun t238 => (if t238 > 5000 then (laws_FnDisc.j3 kj35 t214 t216 t217 t227 t232 (rd y234 (ji46)) true) else ((laws_sizeOf.f t227).bind fun t239 => (if t239 > 5000 then (laws_FnDisc.j3 kj35 t214 t216 t217 t227 t232 (rd y234 (ji46)) true) else ((laws_sizeOf.f t232).bind fun t240 => (laws_FnDisc.j3 kj35 t214 t216 t217 t227 t232 (rd y234 (ji46)) (decide (t240 > 5000)))))))) else (none)) else (none)) = some r := by first | (rw [hji46] at H; exact H) | (simp only [hji46] at H ⊢; exact H)
                     by_cases c47 : 0 ≤ (ji46)
                     · rw [if_pos c47] at H
                       have c47b0 : decide (0 ≤ (ji46)) = true := decide_eq_true c47
                       clear c47
                       by_cases c48 : (ji46) < (y234.length : Int)
                       · rw [if_pos c48] at H
                         have c48b0 : decide ((ji46) < (y234.length : Int)) = true := decide_eq_true c48
                         clear c48
                         have HC49 := Aside0.mk H
                         clear H
                         go_upto_region 18 with (first | ((with_reducible refine gate_dst (N := 94) rfl ?_); (try (refine gate_guard (by rfl) ?_; dsimp only)); refine Kd.R_lit (Kd.int .i64) _ 3 ?hg (N := 94) ?hd (xs := ([0, 2, 3, 5] : List Int)) (inner := [.int .i64 0, .int .i64 2, .int .i64 3, .int .i64 5]) (ok := fun _ => True) (okp := fun _ => True) ?hr ?hp (fun _ hk => hk) trivial (Below.refl _ _) (Nat.le_refl _) (by simp) ?_; (case hd => rfl); (case hg => rfl); (case hr => first | (go_simp; done) | (go_simp; rfl)); (case hp => exact (Reps.one (show Kd.M (Kd.int .i64) _ _ _ 0 [.int .i64 0] from rfl) (Reps.one (show Kd.M (Kd.int .i64) _ _ _ 2 [.int .i64 2] from rfl) (Reps.one (show Kd.M (Kd.int .i64) _ _ _ 3 [.int .i64 3] from rfl) (Reps.one (show Kd.M (Kd.int .i64) _ _ _ 5 [.int .i64 5] from rfl) (Reps.none _ _)))))); intro v235 w50 ho51 hb hg_ hnew_; clear hg_ hnew_; (first | rw [← Ny234.out] at ho51 | (simp only [Int.reduceToNat] at ho51; rw [← Ny234.out] at ho51)); have n0_ := Aside0.mk (Kd.R_lower ho51 (below_size (by repeat (first | (with_reducible first | exact HB.out | apply below_alloc | apply pw_below_drewN | apply below_drew1) | exact HB.out)))); have n1_ := Aside0.mk (Kd.C_below (by repeat (first | (with_reducible exact HR226.out) | (with_reducible refine Kd.C_alloc ?_ _) | (with_reducible refine Kd.C_drewN ?_ _) | (with_reducible refine Kd.C_drew ?_) | exact HR226.out)) hb); have n2_ := Aside0.mk (Kd.C_below (by repeat (first | (with_reducible exact HR231.out) | (with_reducible refine Kd.C_alloc ?_ _) | (with_reducible refine Kd.C_drewN ?_ _) | (with_reducible refine Kd.C_drew ?_) | exact HR231.out)) hb); have n3_ := Aside0.mk (below_step (by repeat (first | (with_reducible first | exact HB.out | apply below_alloc | apply pw_below_drewN | apply below_drew1) | exact HB.out)) hb); clear HR226; clear HR231; clear HB; have HO236 := n0_; have HR226 := n1_; have HR231 := n2_; have HB := n3_; clear n0_ n1_ n2_ n3_; clear hb ho51; obtain ⟨Ao52, co52, eo52⟩ := Kd.R_slice HO236.out; subst eo52; have p237 : 0 ≤ ((ji46) : Int) := of_decide_eq_true (by first | (with_reducible assumption) | assumption); have q237 : (ji46) < (y234.length : Int) := of_decide_eq_true (by first | (with_reducible assumption) | assumption); obtain ⟨ad237, e237, hx237_0⟩ := Kd.at_int (Kd.R_reads' HO236.out).2.2 (ji46) p237 q237; cases e237; replace p237 := eq_true p237; replace q237 := eq_true q237))
                         (try simp only [Act.put, List.setIfInBounds_toArray, List.set_cons_zero, List.set_cons_succ])
                         go_cut [112] (fun v112 wc => ∃ (kq : Nat) (x112_48 : Bool), v112 = .bool x112_48 ∧ Aside0 (laws_FnDisc.j3 kq t214 t216 t217 t227 t232 (rd y234 (ji46)) x112_48 = some r) ∧ Aside0 (kq ≤ kj35) ∧ Aside0 (Kd.C (Kd.int .i64) wc Ao11 y223.length y223) ∧ Aside0 (Kd.C (Kd.int .i64) wc A40 y228.length y228) ∧ Aside0 (Below w.heap.size w wc))
                         case first =>
                          have H := HC49.out
                          clear HC49
                          replace H := Option.bind_eq_some_iff.mp H
                          obtain ⟨t238, A530, H⟩ := H
                          replace H : (if t238 > 5000 then (laws_FnDisc.j3 kj35 t214 t216 t217 t227 t232 (rd y234 (ji46)) true) else ((laws_sizeOf.f t227).bind fun t239 => (if t239 > 5000 then (laws_FnDisc.j3 kj35 t214 t216 t217 t227 t232 (rd y234 (ji46)) true) else ((laws_sizeOf.f t232).bind fun t240 => (laws_FnDisc.j3 kj35 t214 t216 t217 t227 t232 (rd y234 (ji46)) (decide (t240 > 5000))))))) = some r := H
                          have A53 := Aside0.mk A530
                          clear A530
                          by_cases c54 : t238 > 5000
                          · rw [if_pos c54] at H
                            have c54b0 : decide (5000 < t238) = true := decide_eq_true c54
                            clear c54
                            (first | rw [c54b0] | (simp only [i64_w, i32_w]; rw [c54b0]) | skip)
                            have H' := Aside0.mk H
                            clear H
                            go_wp2_with (first | ((with_reducible refine gate_callee (f := 9) rfl ?_); refine goesL_ (some 101) rfl rfl Try.func9 (by kernel_rfl) rfl #[.int .i64 t214] rfl (by (try simp only [List.map_toArray, List.map_cons, List.map_nil]); first | done | rfl | (simp only [List.length_drop, List.length_take]; rfl)) ?_; (with_reducible refine (laws_sizeOf.calls t214 t238 _ A53.out).mono ?_); rintro e w55 ⟨rfl, hb⟩; refine ⟨_, rfl, ?_⟩; have n0_ := Aside0.mk (Kd.R_below (by (with_reducible repeat (first | apply Kd.R_alloc | apply Kd.R_drewN | apply Kd.R_drew)); exact HO236.out) hb); have n1_ := Aside0.mk (Kd.C_below (by repeat (first | (with_reducible exact HR226.out) | (with_reducible refine Kd.C_alloc ?_ _) | (with_reducible refine Kd.C_drewN ?_ _) | (with_reducible refine Kd.C_drew ?_) | exact HR226.out)) hb); have n2_ := Aside0.mk (Kd.C_below (by repeat (first | (with_reducible exact HR231.out) | (with_reducible refine Kd.C_alloc ?_ _) | (with_reducible refine Kd.C_drewN ?_ _) | (with_reducible refine Kd.C_drew ?_) | exact HR231.out)) hb); have n3_ := Aside0.mk (below_step (by repeat (first | (with_reducible first | exact HB.out | apply below_alloc | apply pw_below_drewN | apply below_drew1) | exact HB.out)) hb); clear HO236; clear HR226; clear HR231; clear HB; have HO236 := n0_; have HR226 := n1_; have HR231 := n2_; have HB := n3_; clear n0_ n1_ n2_ n3_; (try clear hb); (try clear hb2); (try clear hk); (try clear hi)))
                            go_meet
                            case rel => exact ⟨_, (true), (by first | rfl | (simp; done) | (simp [*]; done)), H', ⟨by have := HJ2.out; have := HJ8.out; have := HJ35.out; first | omega | exact Nat.le_refl _⟩, ⟨by repeat (first | (with_reducible exact HR226.out) | (with_reducible refine Kd.C_alloc ?_ _) | (with_reducible refine Kd.C_drewN ?_ _) | (with_reducible refine Kd.C_drew ?_) | exact HR226.out)⟩, ⟨by repeat (first | (with_reducible exact HR231.out) | (with_reducible refine Kd.C_alloc ?_ _) | (with_reducible refine Kd.C_drewN ?_ _) | (with_reducible refine Kd.C_drew ?_) | exact HR231.out)⟩, ⟨by repeat (first | (with_reducible first | exact HB.out | apply below_alloc | apply pw_below_drewN | apply below_drew1) | exact HB.out)⟩⟩
                          · rw [if_neg c54] at H
                            have c54b0 : decide (5000 < t238) = false := decide_eq_false c54
                            clear c54
                            (first | rw [c54b0] | (simp only [i64_w, i32_w]; rw [c54b0]) | skip)
                            replace H := Option.bind_eq_some_iff.mp H
                            obtain ⟨t239, A560, H⟩ := H
                            replace H : (if t239 > 5000 then (laws_FnDisc.j3 kj35 t214 t216 t217 t227 t232 (rd y234 (ji46)) true) else ((laws_sizeOf.f t232).bind fun t240 => (laws_FnDisc.j3 kj35 t214 t216 t217 t227 t232 (rd y234 (ji46)) (decide (t240 > 5000))))) = some r := H
                            have A56 := Aside0.mk A560
                            clear A560
                            by_cases c57 : t239 > 5000
                            · rw [if_pos c57] at H
                              have c57b0 : decide (5000 < t239) = true := decide_eq_true c57
                              clear c57
                              have H' := Aside0.mk H
                              clear H
                              go_wp2_with (first | ((with_reducible refine gate_callee (f := 9) rfl ?_); refine goesL_ (some 101) rfl rfl Try.func9 (by kernel_rfl) rfl #[.int .i64 t214] rfl (by (try simp only [List.map_toArray, List.map_cons, List.map_nil]); first | done | rfl | (simp only [List.length_drop, List.length_take]; rfl)) ?_; (with_reducible refine (laws_sizeOf.calls t214 t238 _ A53.out).mono ?_); rintro e w58 ⟨rfl, hb⟩; refine ⟨_, rfl, ?_⟩; have n0_ := Aside0.mk (Kd.R_below (by (with_reducible repeat (first | apply Kd.R_alloc | apply Kd.R_drewN | apply Kd.R_drew)); exact HO236.out) hb); have n1_ := Aside0.mk (Kd.C_below (by repeat (first | (with_reducible exact HR226.out) | (with_reducible refine Kd.C_alloc ?_ _) | (with_reducible refine Kd.C_drewN ?_ _) | (with_reducible refine Kd.C_drew ?_) | exact HR226.out)) hb); have n2_ := Aside0.mk (Kd.C_below (by repeat (first | (with_reducible exact HR231.out) | (with_reducible refine Kd.C_alloc ?_ _) | (with_reducible refine Kd.C_drewN ?_ _) | (with_reducible refine Kd.C_drew ?_) | exact HR231.out)) hb); have n3_ := Aside0.mk (below_step (by repeat (first | (with_reducible first | exact HB.out | apply below_alloc | apply pw_below_drewN | apply below_drew1) | exact HB.out)) hb); clear HO236; clear HR226; clear HR231; clear HB; have HO236 := n0_; have HR226 := n1_; have HR231 := n2_; have HB := n3_; clear n0_ n1_ n2_ n3_; (try clear hb); (try clear hb2); (try clear hk); (try clear hi)) | (go_at_call 9; (with_reducible refine (laws_sizeOf.calls t227 t239 _ A56.out).mono ?_); rintro e w59 ⟨rfl, hb⟩; have n0_ := Aside0.mk (Kd.R_below (by (with_reducible repeat (first | apply Kd.R_alloc | apply Kd.R_drewN | apply Kd.R_drew)); exact HO236.out) hb); have n1_ := Aside0.mk (Kd.C_below (by repeat (first | (with_reducible exact HR226.out) | (with_reducible refine Kd.C_alloc ?_ _) | (with_reducible refine Kd.C_drewN ?_ _) | (with_reducible refine Kd.C_drew ?_) | exact HR226.out)) hb); have n2_ := Aside0.mk (Kd.C_below (by repeat (first | (with_reducible exact HR231.out) | (with_reducible refine Kd.C_alloc ?_ _) | (with_reducible refine Kd.C_drewN ?_ _) | (with_reducible refine Kd.C_drew ?_) | exact HR231.out)) hb); have n3_ := Aside0.mk (below_step (by repeat (first | (with_reducible first | exact HB.out | apply below_alloc | apply pw_below_drewN | apply below_drew1) | exact HB.out)) hb); clear HO236; clear HR226; clear HR231; clear HB; have HO236 := n0_; have HR226 := n1_; have HR231 := n2_; have HB := n3_; clear n0_ n1_ n2_ n3_; (try clear hb); (try clear hb2); (try clear hk); (try clear hi)))
                              go_meet
                              case rel => exact ⟨_, (true), (by first | rfl | (simp; done) | (simp [*]; done)), H', ⟨by have := HJ2.out; have := HJ8.out; have := HJ35.out; first | omega | exact Nat.le_refl _⟩, ⟨by repeat (first | (with_reducible exact HR226.out) | (with_reducible refine Kd.C_alloc ?_ _) | (with_reducible refine Kd.C_drewN ?_ _) | (with_reducible refine Kd.C_drew ?_) | exact HR226.out)⟩, ⟨by repeat (first | (with_reducible exact HR231.out) | (with_reducible refine Kd.C_alloc ?_ _) | (with_reducible refine Kd.C_drewN ?_ _) | (with_reducible refine Kd.C_drew ?_) | exact HR231.out)⟩, ⟨by repeat (first | (with_reducible first | exact HB.out | apply below_alloc | apply pw_below_drewN | apply below_drew1) | exact HB.out)⟩⟩
                            · rw [if_neg c57] at H
                              have c57b0 : decide (5000 < t239) = false := decide_eq_false c57
                              clear c57
                              replace H := Option.bind_eq_some_iff.mp H
                              obtain ⟨t240, A600, H⟩ := H
                              replace H : (laws_FnDisc.j3 kj35 t214 t216 t217 t227 t232 (rd y234 (ji46)) (decide (t240 > 5000))) = some r := H
                              have A60 := Aside0.mk A600
                              clear A600
                              have H' := Aside0.mk H
                              clear H
                              go_wp2_with (first | ((with_reducible refine gate_callee (f := 9) rfl ?_); refine goesL_ (some 101) rfl rfl Try.func9 (by kernel_rfl) rfl #[.int .i64 t214] rfl (by (try simp only [List.map_toArray, List.map_cons, List.map_nil]); first | done | rfl | (simp only [List.length_drop, List.length_take]; rfl)) ?_; (with_reducible refine (laws_sizeOf.calls t214 t238 _ A53.out).mono ?_); rintro e w61 ⟨rfl, hb⟩; refine ⟨_, rfl, ?_⟩; have n0_ := Aside0.mk (Kd.R_below (by (with_reducible repeat (first | apply Kd.R_alloc | apply Kd.R_drewN | apply Kd.R_drew)); exact HO236.out) hb); have n1_ := Aside0.mk (Kd.C_below (by repeat (first | (with_reducible exact HR226.out) | (with_reducible refine Kd.C_alloc ?_ _) | (with_reducible refine Kd.C_drewN ?_ _) | (with_reducible refine Kd.C_drew ?_) | exact HR226.out)) hb); have n2_ := Aside0.mk (Kd.C_below (by repeat (first | (with_reducible exact HR231.out) | (with_reducible refine Kd.C_alloc ?_ _) | (with_reducible refine Kd.C_drewN ?_ _) | (with_reducible refine Kd.C_drew ?_) | exact HR231.out)) hb); have n3_ := Aside0.mk (below_step (by repeat (first | (with_reducible first | exact HB.out | apply below_alloc | apply pw_below_drewN | apply below_drew1) | exact HB.out)) hb); clear HO236; clear HR226; clear HR231; clear HB; have HO236 := n0_; have HR226 := n1_; have HR231 := n2_; have HB := n3_; clear n0_ n1_ n2_ n3_; (try clear hb); (try clear hb2); (try clear hk); (try clear hi)) | (go_at_call 9; (with_reducible refine (laws_sizeOf.calls t227 t239 _ A56.out).mono ?_); rintro e w62 ⟨rfl, hb⟩; have n0_ := Aside0.mk (Kd.R_below (by (with_reducible repeat (first | apply Kd.R_alloc | apply Kd.R_drewN | apply Kd.R_drew)); exact HO236.out) hb); have n1_ := Aside0.mk (Kd.C_below (by repeat (first | (with_reducible exact HR226.out) | (with_reducible refine Kd.C_alloc ?_ _) | (with_reducible refine Kd.C_drewN ?_ _) | (with_reducible refine Kd.C_drew ?_) | exact HR226.out)) hb); have n2_ := Aside0.mk (Kd.C_below (by repeat (first | (with_reducible exact HR231.out) | (with_reducible refine Kd.C_alloc ?_ _) | (with_reducible refine Kd.C_drewN ?_ _) | (with_reducible refine Kd.C_drew ?_) | exact HR231.out)) hb); have n3_ := Aside0.mk (below_step (by repeat (first | (with_reducible first | exact HB.out | apply below_alloc | apply pw_below_drewN | apply below_drew1) | exact HB.out)) hb); clear HO236; clear HR226; clear HR231; clear HB; have HO236 := n0_; have HR226 := n1_; have HR231 := n2_; have HB := n3_; clear n0_ n1_ n2_ n3_; (try clear hb); (try clear hb2); (try clear hk); (try clear hi)) | (go_at_call 9; (with_reducible refine (laws_sizeOf.calls t232 t240 _ A60.out).mono ?_); rintro e w63 ⟨rfl, hb⟩; have n0_ := Aside0.mk (Kd.R_below (by (with_reducible repeat (first | apply Kd.R_alloc | apply Kd.R_drewN | apply Kd.R_drew)); exact HO236.out) hb); have n1_ := Aside0.mk (Kd.C_below (by repeat (first | (with_reducible exact HR226.out) | (with_reducible refine Kd.C_alloc ?_ _) | (with_reducible refine Kd.C_drewN ?_ _) | (with_reducible refine Kd.C_drew ?_) | exact HR226.out)) hb); have n2_ := Aside0.mk (Kd.C_below (by repeat (first | (with_reducible exact HR231.out) | (with_reducible refine Kd.C_alloc ?_ _) | (with_reducible refine Kd.C_drewN ?_ _) | (with_reducible refine Kd.C_drew ?_) | exact HR231.out)) hb); have n3_ := Aside0.mk (below_step (by repeat (first | (with_reducible first | exact HB.out | apply below_alloc | apply pw_below_drewN | apply below_drew1) | exact HB.out)) hb); clear HO236; clear HR226; clear HR231; clear HB; have HO236 := n0_; have HR226 := n1_; have HR231 := n2_; have HB := n3_; clear n0_ n1_ n2_ n3_; (try clear hb); (try clear hb2); (try clear hk); (try clear hi)))
                              go_meet
                              case rel => exact ⟨_, (decide (t240 > 5000)), (by first | rfl | (simp; done) | (simp [*]; done)), H', ⟨by have := HJ2.out; have := HJ8.out; have := HJ35.out; first | omega | exact Nat.le_refl _⟩, ⟨by repeat (first | (with_reducible exact HR226.out) | (with_reducible refine Kd.C_alloc ?_ _) | (with_reducible refine Kd.C_drewN ?_ _) | (with_reducible refine Kd.C_drew ?_) | exact HR226.out)⟩, ⟨by repeat (first | (with_reducible exact HR231.out) | (with_reducible refine Kd.C_alloc ?_ _) | (with_reducible refine Kd.C_drewN ?_ _) | (with_reducible refine Kd.C_drew ?_) | exact HR231.out)⟩, ⟨by repeat (first | (with_reducible first | exact HB.out | apply below_alloc | apply pw_below_drewN | apply below_drew1) | exact HB.out)⟩⟩
                         case rest =>
                          clear HC49
                          try clear c1
                          try clear c2
                          try clear p2
                          try clear q2
                          try clear hx2
                          try clear qi2
                          try clear c3
                          try clear q3
                          try clear c4
                          try clear c4b0
                          try clear c4b1
                          try clear q4
                          try clear c5
                          try clear c6
                          try clear p6
                          try clear c7
                          try clear c8
                          try clear c9
                          try clear c14
                          try clear c14b0
                          try clear c14b1
                          try clear c15
                          try clear c17
                          try clear c17b0
                          try clear c17b1
                          try clear c18
                          try clear c18b0
                          try clear c18b1
                          try clear c20
                          try clear c21
                          try clear p21
                          try clear q21
                          try clear hx21
                          try clear qi21
                          try clear p23
                          try clear q23
                          try clear hx23
                          try clear c28
                          try clear c28b0
                          try clear c28b1
                          try clear c30
                          try clear c30b0
                          try clear c30b1
                          try clear c31
                          try clear c31b0
                          try clear c31b1
                          try clear c33
                          try clear c33b0
                          try clear c34
                          try clear c34b0
                          try clear q38
                          try clear c40
                          try clear q40
                          try clear c42
                          try clear c45
                          try clear c47
                          try clear c47b0
                          try clear c48
                          try clear c48b0
                          try clear c54
                          try clear c54b0
                          try clear c57
                          try clear c57b0
                          try clear hx219_0
                          try clear hx237_0
                          try clear p2
                          try clear p21
                          try clear p219
                          try clear p237
                          try clear p6
                          try clear q040
                          try clear q2
                          try clear q21
                          try clear q219
                          try clear q237
                          try clear q3
                          try clear q38
                          try clear q4
                          try clear q40
                          obtain ⟨kq, x112_48, rfl, HA, HJ48, HR226, HR231, HB⟩ := hcut
                          cases kq with
                          | zero => exact absurd HA.out (by simp [laws_FnDisc.j3])
                          | succ kj48 =>
                           have H := HA.out
                           clear HA
                           simp only [laws_FnDisc.j3] at H
                           by_cases c64 : x112_48 = true
                           · subst c64
                             have H1 : (some true) = some r := by rw [if_pos rfl] at H; exact H
                             clear H
                             have H := H1
                             clear H1
                             obtain rfl := Option.some.inj H
                             go_wp2
                             go_ret
                             exact ⟨by first | rfl | (simp [errW_none, errW_some] <;> rfl) | (simp only [← hji29, ← hji46]; first | rfl | (simp [errW_none, errW_some] <;> rfl)) | (simp [*, errW_none, errW_some] <;> rfl), by repeat (first | (with_reducible first | exact HB.out | apply below_alloc | apply pw_below_drewN | apply below_drew1) | exact HB.out)⟩
                           · replace c64 := Bool.eq_false_iff.mpr c64
                             subst c64
                             have H1 : ((impl_LocalMul.f kj48 t227 t232 (rd y234 (ji46))).bind fun bt241 => ((impl_LocalName.f kj48 t214 (rd y234 (ji46))).bind fun bt243 => (if t216 = t214 then (if t217 = 1 then (if bt241.2 = true then (if bt243.2 = true then (some (bt241.1 == bt243.1)) else (some false)) else (some false)) else (some false)) else (some false)))) = some r := by rw [if_neg (show ¬ (false = true) by decide)] at H; exact H
                             clear H
                             have H := H1
                             clear H1
                             replace H := Option.bind_eq_some_iff.mp H
                             obtain ⟨⟨t241, t242⟩, A650, H⟩ := H
                             replace H : ((impl_LocalName.f kj48 t214 (rd y234 (ji46))).bind fun bt243 => (if t216 = t214 then (if t217 = 1 then (if t242 = true then (if bt243.2 = true then (some (t241 == bt243.1)) else (some false)) else (some false)) else (some false)) else (some false))) = some r := H
                             have A65 := Aside0.mk A650
                             clear A650
                             replace H := Option.bind_eq_some_iff.mp H
                             obtain ⟨⟨t243, t244⟩, A660, H⟩ := H
                             replace H : (if t216 = t214 then (if t217 = 1 then (if t242 = true then (if t244 = true then (some (t241 == t243)) else (some false)) else (some false)) else (some false)) else (some false)) = some r := H
                             have A66 := Aside0.mk A660
                             clear A660
                             by_cases c67 : t216 = t214
                             · rw [if_pos c67] at H
                               have c67b0 : (t216 == t214) = true := beq_iff_eq.mpr c67
                               have c67b1 : (t216 != t214) = false := bne_eq_false_iff_eq.mpr c67
                               clear c67
                               by_cases c68 : t217 = 1
                               · rw [if_pos c68] at H
                                 have c68b0 : (t217 == 1) = true := beq_iff_eq.mpr c68
                                 have c68b1 : (t217 != 1) = false := bne_eq_false_iff_eq.mpr c68
                                 clear c68
                                 by_cases c69 : t242 = true
                                 · subst c69
                                   have H1 : (if t244 = true then (some (t241 == t243)) else (some false)) = some r := by rw [if_pos rfl] at H; exact H
                                   clear H
                                   have H := H1
                                   clear H1
                                   by_cases c70 : t244 = true
                                   · subst c70
                                     have H1 : (some (t241 == t243)) = some r := by rw [if_pos rfl] at H; exact H
                                     clear H
                                     have H := H1
                                     clear H1
                                     obtain rfl := Option.some.inj H
                                     go_wp2_with (first | ((with_reducible refine gate_callee (f := 10) rfl ?_); refine goesL_ (some 117) rfl rfl Try.func10 (by kernel_rfl) rfl #[.int .i64 t227, .int .i64 t232, .int .i64 (rd y234 (ji46))] rfl (by (try simp only [List.map_toArray, List.map_cons, List.map_nil]); first | done | (simp only [hji46]; rfl) | rfl | (simp only [List.length_drop, List.length_take]; rfl)) ?_; (with_reducible refine (impl_LocalMul.calls kj48 t227 t232 (rd y234 (ji46)) t241 true _ A65.out).mono ?_); rintro e w71 ⟨rfl, hb⟩; refine ⟨_, rfl, ?_⟩; have n0_ := Aside0.mk (Kd.C_below (by repeat (first | (with_reducible exact HR226.out) | (with_reducible refine Kd.C_alloc ?_ _) | (with_reducible refine Kd.C_drewN ?_ _) | (with_reducible refine Kd.C_drew ?_) | exact HR226.out)) hb); have n1_ := Aside0.mk (Kd.C_below (by repeat (first | (with_reducible exact HR231.out) | (with_reducible refine Kd.C_alloc ?_ _) | (with_reducible refine Kd.C_drewN ?_ _) | (with_reducible refine Kd.C_drew ?_) | exact HR231.out)) hb); have n2_ := Aside0.mk (below_step (by repeat (first | (with_reducible first | exact HB.out | apply below_alloc | apply pw_below_drewN | apply below_drew1) | exact HB.out)) hb); clear HR226; clear HR231; clear HB; have HR226 := n0_; have HR231 := n1_; have HB := n2_; clear n0_ n1_ n2_; (try clear hb); (try clear hb2); (try clear hk); (try clear hi)) | ((with_reducible refine gate_callee (f := 11) rfl ?_); refine goesL_ (some 123) rfl rfl Try.func11 (by kernel_rfl) rfl #[.int .i64 t214, .int .i64 (rd y234 (ji46))] rfl (by (try simp only [List.map_toArray, List.map_cons, List.map_nil]); first | done | (simp only [hji46]; rfl) | rfl | (simp only [List.length_drop, List.length_take]; rfl)) ?_; (with_reducible refine (impl_LocalName.calls kj48 t214 (rd y234 (ji46)) t243 true _ A66.out).mono ?_); rintro e w72 ⟨rfl, hb⟩; refine ⟨_, rfl, ?_⟩; have n0_ := Aside0.mk (Kd.C_below (by repeat (first | (with_reducible exact HR226.out) | (with_reducible refine Kd.C_alloc ?_ _) | (with_reducible refine Kd.C_drewN ?_ _) | (with_reducible refine Kd.C_drew ?_) | exact HR226.out)) hb); have n1_ := Aside0.mk (Kd.C_below (by repeat (first | (with_reducible exact HR231.out) | (with_reducible refine Kd.C_alloc ?_ _) | (with_reducible refine Kd.C_drewN ?_ _) | (with_reducible refine Kd.C_drew ?_) | exact HR231.out)) hb); have n2_ := Aside0.mk (below_step (by repeat (first | (with_reducible first | exact HB.out | apply below_alloc | apply pw_below_drewN | apply below_drew1) | exact HB.out)) hb); clear HR226; clear HR231; clear HB; have HR226 := n0_; have HR231 := n1_; have HB := n2_; clear n0_ n1_ n2_; (try clear hb); (try clear hb2); (try clear hk); (try clear hi)))
                                     go_ret
                                     exact ⟨by first | rfl | (simp [errW_none, errW_some] <;> rfl) | (simp only [← hji29, ← hji46]; first | rfl | (simp [errW_none, errW_some] <;> rfl)) | (simp [*, errW_none, errW_some] <;> rfl), by repeat (first | (with_reducible first | exact HB.out | apply below_alloc | apply pw_below_drewN | apply below_drew1) | exact HB.out)⟩
                                   · replace c70 := Bool.eq_false_iff.mpr c70
                                     subst c70
                                     have H1 : (some false) = some r := by rw [if_neg (show ¬ (false = true) by decide)] at H; exact H
                                     clear H
                                     have H := H1
                                     clear H1
                                     obtain rfl := Option.some.inj H
                                     go_wp2_with (first | ((with_reducible refine gate_callee (f := 10) rfl ?_); refine goesL_ (some 117) rfl rfl Try.func10 (by kernel_rfl) rfl #[.int .i64 t227, .int .i64 t232, .int .i64 (rd y234 (ji46))] rfl (by (try simp only [List.map_toArray, List.map_cons, List.map_nil]); first | done | (simp only [hji46]; rfl) | rfl | (simp only [List.length_drop, List.length_take]; rfl)) ?_; (with_reducible refine (impl_LocalMul.calls kj48 t227 t232 (rd y234 (ji46)) t241 true _ A65.out).mono ?_); rintro e w73 ⟨rfl, hb⟩; refine ⟨_, rfl, ?_⟩; have n0_ := Aside0.mk (Kd.C_below (by repeat (first | (with_reducible exact HR226.out) | (with_reducible refine Kd.C_alloc ?_ _) | (with_reducible refine Kd.C_drewN ?_ _) | (with_reducible refine Kd.C_drew ?_) | exact HR226.out)) hb); have n1_ := Aside0.mk (Kd.C_below (by repeat (first | (with_reducible exact HR231.out) | (with_reducible refine Kd.C_alloc ?_ _) | (with_reducible refine Kd.C_drewN ?_ _) | (with_reducible refine Kd.C_drew ?_) | exact HR231.out)) hb); have n2_ := Aside0.mk (below_step (by repeat (first | (with_reducible first | exact HB.out | apply below_alloc | apply pw_below_drewN | apply below_drew1) | exact HB.out)) hb); clear HR226; clear HR231; clear HB; have HR226 := n0_; have HR231 := n1_; have HB := n2_; clear n0_ n1_ n2_; (try clear hb); (try clear hb2); (try clear hk); (try clear hi)) | ((with_reducible refine gate_callee (f := 11) rfl ?_); refine goesL_ (some 123) rfl rfl Try.func11 (by kernel_rfl) rfl #[.int .i64 t214, .int .i64 (rd y234 (ji46))] rfl (by (try simp only [List.map_toArray, List.map_cons, List.map_nil]); first | done | (simp only [hji46]; rfl) | rfl | (simp only [List.length_drop, List.length_take]; rfl)) ?_; (with_reducible refine (impl_LocalName.calls kj48 t214 (rd y234 (ji46)) t243 false _ A66.out).mono ?_); rintro e w74 ⟨rfl, hb⟩; refine ⟨_, rfl, ?_⟩; have n0_ := Aside0.mk (Kd.C_below (by repeat (first | (with_reducible exact HR226.out) | (with_reducible refine Kd.C_alloc ?_ _) | (with_reducible refine Kd.C_drewN ?_ _) | (with_reducible refine Kd.C_drew ?_) | exact HR226.out)) hb); have n1_ := Aside0.mk (Kd.C_below (by repeat (first | (with_reducible exact HR231.out) | (with_reducible refine Kd.C_alloc ?_ _) | (with_reducible refine Kd.C_drewN ?_ _) | (with_reducible refine Kd.C_drew ?_) | exact HR231.out)) hb); have n2_ := Aside0.mk (below_step (by repeat (first | (with_reducible first | exact HB.out | apply below_alloc | apply pw_below_drewN | apply below_drew1) | exact HB.out)) hb); clear HR226; clear HR231; clear HB; have HR226 := n0_; have HR231 := n1_; have HB := n2_; clear n0_ n1_ n2_; (try clear hb); (try clear hb2); (try clear hk); (try clear hi)))
                                     go_ret
                                     exact ⟨by first | rfl | (simp [errW_none, errW_some] <;> rfl) | (simp only [← hji29, ← hji46]; first | rfl | (simp [errW_none, errW_some] <;> rfl)) | (simp [*, errW_none, errW_some] <;> rfl), by repeat (first | (with_reducible first | exact HB.out | apply below_alloc | apply pw_below_drewN | apply below_drew1) | exact HB.out)⟩
                                 · replace c69 := Bool.eq_false_iff.mpr c69
                                   subst c69
                                   have H1 : (some false) = some r := by rw [if_neg (show ¬ (false = true) by decide)] at H; exact H
                                   clear H
                                   have H := H1
                                   clear H1
                                   obtain rfl := Option.some.inj H
                                   go_wp2_with (first | ((with_reducible refine gate_callee (f := 10) rfl ?_); refine goesL_ (some 117) rfl rfl Try.func10 (by kernel_rfl) rfl #[.int .i64 t227, .int .i64 t232, .int .i64 (rd y234 (ji46))] rfl (by (try simp only [List.map_toArray, List.map_cons, List.map_nil]); first | done | (simp only [hji46]; rfl) | rfl | (simp only [List.length_drop, List.length_take]; rfl)) ?_; (with_reducible refine (impl_LocalMul.calls kj48 t227 t232 (rd y234 (ji46)) t241 false _ A65.out).mono ?_); rintro e w75 ⟨rfl, hb⟩; refine ⟨_, rfl, ?_⟩; have n0_ := Aside0.mk (Kd.C_below (by repeat (first | (with_reducible exact HR226.out) | (with_reducible refine Kd.C_alloc ?_ _) | (with_reducible refine Kd.C_drewN ?_ _) | (with_reducible refine Kd.C_drew ?_) | exact HR226.out)) hb); have n1_ := Aside0.mk (Kd.C_below (by repeat (first | (with_reducible exact HR231.out) | (with_reducible refine Kd.C_alloc ?_ _) | (with_reducible refine Kd.C_drewN ?_ _) | (with_reducible refine Kd.C_drew ?_) | exact HR231.out)) hb); have n2_ := Aside0.mk (below_step (by repeat (first | (with_reducible first | exact HB.out | apply below_alloc | apply pw_below_drewN | apply below_drew1) | exact HB.out)) hb); clear HR226; clear HR231; clear HB; have HR226 := n0_; have HR231 := n1_; have HB := n2_; clear n0_ n1_ n2_; (try clear hb); (try clear hb2); (try clear hk); (try clear hi)) | ((with_reducible refine gate_callee (f := 11) rfl ?_); refine goesL_ (some 123) rfl rfl Try.func11 (by kernel_rfl) rfl #[.int .i64 t214, .int .i64 (rd y234 (ji46))] rfl (by (try simp only [List.map_toArray, List.map_cons, List.map_nil]); first | done | (simp only [hji46]; rfl) | rfl | (simp only [List.length_drop, List.length_take]; rfl)) ?_; (with_reducible refine (impl_LocalName.calls kj48 t214 (rd y234 (ji46)) t243 t244 _ A66.out).mono ?_); rintro e w76 ⟨rfl, hb⟩; refine ⟨_, rfl, ?_⟩; have n0_ := Aside0.mk (Kd.C_below (by repeat (first | (with_reducible exact HR226.out) | (with_reducible refine Kd.C_alloc ?_ _) | (with_reducible refine Kd.C_drewN ?_ _) | (with_reducible refine Kd.C_drew ?_) | exact HR226.out)) hb); have n1_ := Aside0.mk (Kd.C_below (by repeat (first | (with_reducible exact HR231.out) | (with_reducible refine Kd.C_alloc ?_ _) | (with_reducible refine Kd.C_drewN ?_ _) | (with_reducible refine Kd.C_drew ?_) | exact HR231.out)) hb); have n2_ := Aside0.mk (below_step (by repeat (first | (with_reducible first | exact HB.out | apply below_alloc | apply pw_below_drewN | apply below_drew1) | exact HB.out)) hb); clear HR226; clear HR231; clear HB; have HR226 := n0_; have HR231 := n1_; have HB := n2_; clear n0_ n1_ n2_; (try clear hb); (try clear hb2); (try clear hk); (try clear hi)))
                                   go_ret
                                   exact ⟨by first | rfl | (simp [errW_none, errW_some] <;> rfl) | (simp only [← hji29, ← hji46]; first | rfl | (simp [errW_none, errW_some] <;> rfl)) | (simp [*, errW_none, errW_some] <;> rfl), by repeat (first | (with_reducible first | exact HB.out | apply below_alloc | apply pw_below_drewN | apply below_drew1) | exact HB.out)⟩
                               · rw [if_neg c68] at H
                                 have c68b0 : (t217 == 1) = false := beq_eq_false_iff_ne.mpr c68
                                 have c68b1 : (t217 != 1) = true := bne_iff_ne.mpr c68
                                 obtain rfl := Option.some.inj H
                                 go_wp2_with (first | ((with_reducible refine gate_callee (f := 10) rfl ?_); refine goesL_ (some 117) rfl rfl Try.func10 (by kernel_rfl) rfl #[.int .i64 t227, .int .i64 t232, .int .i64 (rd y234 (ji46))] rfl (by (try simp only [List.map_toArray, List.map_cons, List.map_nil]); first | done | (simp only [hji46]; rfl) | rfl | (simp only [List.length_drop, List.length_take]; rfl)) ?_; (with_reducible refine (impl_LocalMul.calls kj48 t227 t232 (rd y234 (ji46)) t241 t242 _ A65.out).mono ?_); rintro e w77 ⟨rfl, hb⟩; refine ⟨_, rfl, ?_⟩; have n0_ := Aside0.mk (Kd.C_below (by repeat (first | (with_reducible exact HR226.out) | (with_reducible refine Kd.C_alloc ?_ _) | (with_reducible refine Kd.C_drewN ?_ _) | (with_reducible refine Kd.C_drew ?_) | exact HR226.out)) hb); have n1_ := Aside0.mk (Kd.C_below (by repeat (first | (with_reducible exact HR231.out) | (with_reducible refine Kd.C_alloc ?_ _) | (with_reducible refine Kd.C_drewN ?_ _) | (with_reducible refine Kd.C_drew ?_) | exact HR231.out)) hb); have n2_ := Aside0.mk (below_step (by repeat (first | (with_reducible first | exact HB.out | apply below_alloc | apply pw_below_drewN | apply below_drew1) | exact HB.out)) hb); clear HR226; clear HR231; clear HB; have HR226 := n0_; have HR231 := n1_; have HB := n2_; clear n0_ n1_ n2_; (try clear hb); (try clear hb2); (try clear hk); (try clear hi)) | ((with_reducible refine gate_callee (f := 11) rfl ?_); refine goesL_ (some 123) rfl rfl Try.func11 (by kernel_rfl) rfl #[.int .i64 t214, .int .i64 (rd y234 (ji46))] rfl (by (try simp only [List.map_toArray, List.map_cons, List.map_nil]); first | done | (simp only [hji46]; rfl) | rfl | (simp only [List.length_drop, List.length_take]; rfl)) ?_; (with_reducible refine (impl_LocalName.calls kj48 t214 (rd y234 (ji46)) t243 t244 _ A66.out).mono ?_); rintro e w78 ⟨rfl, hb⟩; refine ⟨_, rfl, ?_⟩; have n0_ := Aside0.mk (Kd.C_below (by repeat (first | (with_reducible exact HR226.out) | (with_reducible refine Kd.C_alloc ?_ _) | (with_reducible refine Kd.C_drewN ?_ _) | (with_reducible refine Kd.C_drew ?_) | exact HR226.out)) hb); have n1_ := Aside0.mk (Kd.C_below (by repeat (first | (with_reducible exact HR231.out) | (with_reducible refine Kd.C_alloc ?_ _) | (with_reducible refine Kd.C_drewN ?_ _) | (with_reducible refine Kd.C_drew ?_) | exact HR231.out)) hb); have n2_ := Aside0.mk (below_step (by repeat (first | (with_reducible first | exact HB.out | apply below_alloc | apply pw_below_drewN | apply below_drew1) | exact HB.out)) hb); clear HR226; clear HR231; clear HB; have HR226 := n0_; have HR231 := n1_; have HB := n2_; clear n0_ n1_ n2_; (try clear hb); (try clear hb2); (try clear hk); (try clear hi)))
                                 go_ret
                                 exact ⟨by first | rfl | (simp [errW_none, errW_some] <;> rfl) | (simp only [← hji29, ← hji46]; first | rfl | (simp [errW_none, errW_some] <;> rfl)) | (simp [*, errW_none, errW_some] <;> rfl), by repeat (first | (with_reducible first | exact HB.out | apply below_alloc | apply pw_below_drewN | apply below_drew1) | exact HB.out)⟩
                             · rw [if_neg c67] at H
                               have c67b0 : (t216 == t214) = false := beq_eq_false_iff_ne.mpr c67
                               have c67b1 : (t216 != t214) = true := bne_iff_ne.mpr c67
                               obtain rfl := Option.some.inj H
                               go_wp2_with (first | ((with_reducible refine gate_callee (f := 10) rfl ?_); refine goesL_ (some 117) rfl rfl Try.func10 (by kernel_rfl) rfl #[.int .i64 t227, .int .i64 t232, .int .i64 (rd y234 (ji46))] rfl (by (try simp only [List.map_toArray, List.map_cons, List.map_nil]); first | done | (simp only [hji46]; rfl) | rfl | (simp only [List.length_drop, List.length_take]; rfl)) ?_; (with_reducible refine (impl_LocalMul.calls kj48 t227 t232 (rd y234 (ji46)) t241 t242 _ A65.out).mono ?_); rintro e w79 ⟨rfl, hb⟩; refine ⟨_, rfl, ?_⟩; have n0_ := Aside0.mk (Kd.C_below (by repeat (first | (with_reducible exact HR226.out) | (with_reducible refine Kd.C_alloc ?_ _) | (with_reducible refine Kd.C_drewN ?_ _) | (with_reducible refine Kd.C_drew ?_) | exact HR226.out)) hb); have n1_ := Aside0.mk (Kd.C_below (by repeat (first | (with_reducible exact HR231.out) | (with_reducible refine Kd.C_alloc ?_ _) | (with_reducible refine Kd.C_drewN ?_ _) | (with_reducible refine Kd.C_drew ?_) | exact HR231.out)) hb); have n2_ := Aside0.mk (below_step (by repeat (first | (with_reducible first | exact HB.out | apply below_alloc | apply pw_below_drewN | apply below_drew1) | exact HB.out)) hb); clear HR226; clear HR231; clear HB; have HR226 := n0_; have HR231 := n1_; have HB := n2_; clear n0_ n1_ n2_; (try clear hb); (try clear hb2); (try clear hk); (try clear hi)) | ((with_reducible refine gate_callee (f := 11) rfl ?_); refine goesL_ (some 123) rfl rfl Try.func11 (by kernel_rfl) rfl #[.int .i64 t214, .int .i64 (rd y234 (ji46))] rfl (by (try simp only [List.map_toArray, List.map_cons, List.map_nil]); first | done | (simp only [hji46]; rfl) | rfl | (simp only [List.length_drop, List.length_take]; rfl)) ?_; (with_reducible refine (impl_LocalName.calls kj48 t214 (rd y234 (ji46)) t243 t244 _ A66.out).mono ?_); rintro e w80 ⟨rfl, hb⟩; refine ⟨_, rfl, ?_⟩; have n0_ := Aside0.mk (Kd.C_below (by repeat (first | (with_reducible exact HR226.out) | (with_reducible refine Kd.C_alloc ?_ _) | (with_reducible refine Kd.C_drewN ?_ _) | (with_reducible refine Kd.C_drew ?_) | exact HR226.out)) hb); have n1_ := Aside0.mk (Kd.C_below (by repeat (first | (with_reducible exact HR231.out) | (with_reducible refine Kd.C_alloc ?_ _) | (with_reducible refine Kd.C_drewN ?_ _) | (with_reducible refine Kd.C_drew ?_) | exact HR231.out)) hb); have n2_ := Aside0.mk (below_step (by repeat (first | (with_reducible first | exact HB.out | apply below_alloc | apply pw_below_drewN | apply below_drew1) | exact HB.out)) hb); clear HR226; clear HR231; clear HB; have HR226 := n0_; have HR231 := n1_; have HB := n2_; clear n0_ n1_ n2_; (try clear hb); (try clear hb2); (try clear hk); (try clear hi)))
                               go_ret
                               exact ⟨by first | rfl | (simp [errW_none, errW_some] <;> rfl) | (simp only [← hji29, ← hji46]; first | rfl | (simp [errW_none, errW_some] <;> rfl)) | (simp [*, errW_none, errW_some] <;> rfl), by repeat (first | (with_reducible first | exact HB.out | apply below_alloc | apply pw_below_drewN | apply below_drew1) | exact HB.out)⟩
                       · rw [if_neg c48] at H
                         exact absurd H (by simp)
                     · rw [if_neg c47] at H
                       exact absurd H (by simp)
               · rw [if_neg c31] at H
                 exact absurd H (by simp)
             · rw [if_neg c30] at H
               exact absurd H (by simp)

/-- THE ONE PURE STATEMENT of laws_FnDisc: yours. -/
def laws_FnDisc.Pure : Prop := ∀ (l0 : List Int) (l1 : List Int), l0.length ≤ maxLen → l0.length * 1 ≤ 140737488351232 → (∀ x ∈ l0, (Lit.int .u8 x).wf = true) → l1.length ≤ maxLen → l1.length * 1 ≤ 140737488351232 → (∀ x ∈ l1, (Lit.int .u8 x).wf = true) → ∃ k, laws_FnDisc.f k l0 l1 = some true
theorem laws_FnDisc.walk (P : laws_FnDisc.Pure) (a0 : Option Addr) (len0 cap0 : Nat) (z0 : List Int) (a1 : Option Addr) (len1 cap1 : Nat) (z1 : List Int) (w : World) (w0 : (a0 = none ∧ len0 = 0 ∧ cap0 = 0 ∧ z0 = []) ∨ ∃ x, a0 = some x ∧ len0 ≤ cap0 ∧ cap0 ≤ maxLen ∧ z0.length = cap0 ∧ (∀ i, i < z0.length → w.cell? (x.add i) = some (.int .u8 (z0.getD i 0))) ∧ ∀ n ∈ z0, (Lit.int .u8 n).wf = true) (y0 : len0 * 1 ≤ 140737488351232) (w1 : (a1 = none ∧ len1 = 0 ∧ cap1 = 0 ∧ z1 = []) ∨ ∃ x, a1 = some x ∧ len1 ≤ cap1 ∧ cap1 ≤ maxLen ∧ z1.length = cap1 ∧ (∀ i, i < z1.length → w.cell? (x.add i) = some (.int .u8 (z1.getD i 0))) ∧ ∀ n ∈ z1, (Lit.int .u8 n).wf = true) (y1 : len1 * 1 ≤ 140737488351232) :
 Calls Try.prog 3 #[.slice a0 len0 cap0, .slice a1 len1 cap1] w fun e w' => e = .returned (.bool true) ∧ Below w.heap.size w w' := by
 obtain ⟨l0, rfl, hr0, hm0, hw0, hc0⟩ := ReadsInt.ofRowC w0
 obtain ⟨l1, rfl, hr1, hm1, hw1, hc1⟩ := ReadsInt.ofRowC w1
 obtain ⟨k, h⟩ := P l0 l1 hm0 y0 hw0 hm1 y1 hw1
 refine (laws_FnDisc.calls k _ _ l0 _ _ l1 true w (Kd.C_of_reads (d := (0 : Int)) (h1 := fun _ => rfl) hr0) hc0 (Kd.C_of_reads (d := (0 : Int)) (h1 := fun _ => rfl) hr1) hc1 h).mono ?_
 rintro e w' ⟨rfl, hd⟩
 exact ⟨rfl, hd⟩

end Go.Proofs.Ytkbklmlahnjcmaa.PFnDisc

-- Written by a program of this repo (wip/gen/gen.py) over the kit's print.
-- (slim)
import Derived.Test.YtdeahlommlgceaaPFnLevelx0
import Derived.Test.YtdeahlommlgceaaPFnLevelx1
import Derived.Test.YtdeahlommlgceaaPFnLevelx2
import Derived.Test.YtdeahlommlgceaaPFnLevelx4
import Derived.Test.YtdeahlommlgceaaPFnLevelx5
import Derived.Test.YtdeahlommlgceaaPFnLevelx6
namespace Go.Proofs.Ytdeahlommlgceaa.PFnLevel
open Go.RowKit Go.Proofs.YtdeahlommlgceaaW.PrintWords Go.Proofs.YtdeahlommlgceaaW.PrintLast Go.Proofs.YtdeahlommlgceaaW.PrintMore
attribute [local go_sem] max2_int min2_int max_two min_two max_three min_three max_four min_four   -- for this text's walks alone
set_option linter.unusedVariables false
set_option linter.unusedSimpArgs false

/-! ### laws_FnLevel: function 6 -/
mutual
def laws_FnLevel.j0 : Nat → Int → Int → Int → Bool → Option (Bool)
 | 0, _, _, _, _ => none
 | k + 1, x3, x4, x5, x24 => if x24 = true then (some (x4 == x5)) else (laws_FnLevel.l0 k x3 x4 (([] : List Int)) 0)
def laws_FnLevel.l0 : Nat → Int → Int → List Int → Int → Option (Bool)
 | 0, _, _, _, _ => none
 | k + 1, x3, x4, x6, x7 => if x7 ≤ x4 then (if x7 < 4 then (if x6.length < 17592186044416 then (laws_FnLevel.l0 k x3 x4 (x6 ++ [1]) (wrap64 (x7 + 1))) else (none)) else ((impl_LocalSquare.f k (-1) x3).bind fun t213 => (if ((x4 == 4) == (x3 == 2)) = true then (if ((x4 == 1) == t213) = true then (if x3 = 2 then (if x4 = 4 then (some true) else ((impl_FormVanishes.f k x6 x3).bind fun t214 => (some t214))) else (if x4 = 1 then (if x4 = 4 then (some true) else ((impl_FormVanishes.f k x6 x3).bind fun t215 => (some t215))) else (if x4 = 2 then (if x4 = 4 then (some true) else ((impl_FormVanishes.f k x6 x3).bind fun t216 => (some t216))) else (some false)))) else (some false)) else (some false)))) else ((impl_LocalSquare.f k (-1) x3).bind fun t217 => (if ((x4 == 4) == (x3 == 2)) = true then (if ((x4 == 1) == t217) = true then (if x3 = 2 then (if x4 = 4 then (some true) else ((impl_FormVanishes.f k x6 x3).bind fun t218 => (some t218))) else (if x4 = 1 then (if x4 = 4 then (some true) else ((impl_FormVanishes.f k x6 x3).bind fun t219 => (some t219))) else (if x4 = 2 then (if x4 = 4 then (some true) else ((impl_FormVanishes.f k x6 x3).bind fun t220 => (some t220))) else (some false)))) else (some false)) else (some false)))
end
def laws_FnLevel.f (k : Nat) (l0 : List Int) : Option (Bool) := if (l0.length : Int) > 1048576 then (some true) else ((spec_DrawLocalLevel.f k l0).bind fun t204 => ((impl_LocalLevel.f k t204).bind fun t205 => ((spec_LocalLevel.f k t204).bind fun t206 => (if t205 = t206 then (laws_FnLevel.j0 k t204 t205 t206 (decide (t205 < 0))) else (laws_FnLevel.j0 k t204 t205 t206 true)))))
theorem laws_FnLevel.mono_l : ∀ k, (∀ y0 y1 y2 y3, LeO (laws_FnLevel.j0 k y0 y1 y2 y3) (laws_FnLevel.j0 (k + 1) y0 y1 y2 y3)) ∧ (∀ y0 y1 y2 y3, LeO (laws_FnLevel.l0 k y0 y1 y2 y3) (laws_FnLevel.l0 (k + 1) y0 y1 y2 y3))
 | 0 => ⟨fun _ _ _ _ r h => by simp [laws_FnLevel.j0] at h, fun _ _ _ _ r h => by simp [laws_FnLevel.l0] at h⟩
 | k + 1 => by
  obtain ⟨ih0, ih1⟩ := laws_FnLevel.mono_l k
  refine ⟨?_, ?_⟩
  · intro y0 y1 y2 y3
    unfold laws_FnLevel.j0
    repeat' first
    | (with_reducible exact ih0 _ _ _ _)
    | (with_reducible exact ih1 _ _ _ _)
    | (with_reducible exact impl_FormVanishes.mono _ _ _)
    | (with_reducible exact impl_LocalLevel.mono _ _)
    | (with_reducible exact impl_LocalSquare.mono _ _ _)
    | (with_reducible exact spec_DrawLocalLevel.mono _ _)
    | (with_reducible exact spec_LocalLevel.mono _ _)
    | (with_reducible exact LeO.refl _)
    | (with_reducible exact LeO.none _)
    | (with_reducible refine LeO.ite ?_ ?_)
    | (with_reducible refine LeO.bind ?_ (fun _ => ?_))
    | exact ih0 _ _ _ _
    | exact ih1 _ _ _ _
    | exact impl_FormVanishes.mono _ _ _
    | exact impl_LocalLevel.mono _ _
    | exact impl_LocalSquare.mono _ _ _
    | exact spec_DrawLocalLevel.mono _ _
    | exact spec_LocalLevel.mono _ _
    | exact LeO.none _
    | refine LeO.ite ?_ ?_
    | refine LeO.bind ?_ (fun _ => ?_)
  · intro y0 y1 y2 y3
    unfold laws_FnLevel.l0
    repeat' first
    | (with_reducible exact ih0 _ _ _ _)
    | (with_reducible exact ih1 _ _ _ _)
    | (with_reducible exact impl_FormVanishes.mono _ _ _)
    | (with_reducible exact impl_LocalLevel.mono _ _)
    | (with_reducible exact impl_LocalSquare.mono _ _ _)
    | (with_reducible exact spec_DrawLocalLevel.mono _ _)
    | (with_reducible exact spec_LocalLevel.mono _ _)
    | (with_reducible exact LeO.refl _)
    | (with_reducible exact LeO.none _)
    | (with_reducible refine LeO.ite ?_ ?_)
    | (with_reducible refine LeO.bind ?_ (fun _ => ?_))
    | exact ih0 _ _ _ _
    | exact ih1 _ _ _ _
    | exact impl_FormVanishes.mono _ _ _
    | exact impl_LocalLevel.mono _ _
    | exact impl_LocalSquare.mono _ _ _
    | exact spec_DrawLocalLevel.mono _ _
    | exact spec_LocalLevel.mono _ _
    | exact LeO.none _
    | refine LeO.ite ?_ ?_
    | refine LeO.bind ?_ (fun _ => ?_)
theorem laws_FnLevel.mono : ∀ a0 k, LeO (laws_FnLevel.f k a0) (laws_FnLevel.f (k + 1) a0) := by
 intro a0 k
 obtain ⟨ih0, ih1⟩ := laws_FnLevel.mono_l k
 unfold laws_FnLevel.f
 repeat' first
  | (with_reducible exact ih0 _ _ _ _)
  | (with_reducible exact ih1 _ _ _ _)
  | (with_reducible exact impl_FormVanishes.mono _ _ _)
  | (with_reducible exact impl_LocalLevel.mono _ _)
  | (with_reducible exact impl_LocalSquare.mono _ _ _)
  | (with_reducible exact spec_DrawLocalLevel.mono _ _)
  | (with_reducible exact spec_LocalLevel.mono _ _)
  | (with_reducible exact LeO.refl _)
  | (with_reducible exact LeO.none _)
  | (with_reducible refine LeO.ite ?_ ?_)
  | (with_reducible refine LeO.bind ?_ (fun _ => ?_))
  | exact ih0 _ _ _ _
  | exact ih1 _ _ _ _
  | exact impl_FormVanishes.mono _ _ _
  | exact impl_LocalLevel.mono _ _
  | exact impl_LocalSquare.mono _ _ _
  | exact spec_DrawLocalLevel.mono _ _
  | exact spec_LocalLevel.mono _ _
  | exact LeO.none _
  | refine LeO.ite ?_ ?_
  | refine LeO.bind ?_ (fun _ => ?_)
set_option maxHeartbeats 8000000 in
set_option maxRecDepth 100000 in
theorem laws_FnLevel.calls (k : Nat) (A0 : Option Addr) (c0 : Nat) (l0 : List Int) (r : Bool) (w : World) (hr0 : Kd.C (Kd.int .u8) w A0 l0.length l0) (hc0 : l0.length ≤ c0) (h : laws_FnLevel.f k l0 = some r) :
 Calls Try.prog 6 #[.slice A0 l0.length c0] w fun e w' => e = .returned (.bool r) ∧ Below w.heap.size w w' := by
 have HR0 := Aside0.mk hr0
 have HC0 := Aside0.mk hc0
 clear hr0 hc0
 have HB := Aside0.mk (Below.refl w.heap.size w)
 have H : (if (l0.length : Int) > 1048576 then (some true) else ((spec_DrawLocalLevel.f k l0).bind fun t204 => ((impl_LocalLevel.f k t204).bind fun t205 => ((spec_LocalLevel.f k t204).bind fun t206 => (if t205 = t206 then (laws_FnLevel.j0 k t204 t205 t206 (decide (t205 < 0))) else (laws_FnLevel.j0 k t204 t205 t206 true)))))) = some r := h
 clear h
 by_cases c2 : (l0.length : Int) > 1048576
 · rw [if_pos c2] at H
   have c2b0 : decide (1048576 < (l0.length : Int)) = true := decide_eq_true c2
   have c2b1 : decide (1048576 < l0.length) = true := decide_eq_true (by omega)
   clear c2
   obtain rfl := Option.some.inj H
   go_enter Try.func6, Try.ntmps6
   go_wp2
   go_ret
   exact ⟨by first | rfl | (simp [errW_none, errW_some] <;> rfl) | (simp [*, errW_none, errW_some] <;> rfl), by repeat (first | (with_reducible first | exact HB.out | apply below_alloc | apply pw_below_drewN | apply below_drew1) | exact HB.out)⟩
 · rw [if_neg c2] at H
   have c2b0 : decide (1048576 < (l0.length : Int)) = false := decide_eq_false c2
   have c2b1 : decide (1048576 < l0.length) = false := decide_eq_false (by omega)
   clear c2
   replace H := Option.bind_eq_some_iff.mp H
   obtain ⟨t204, A30, H⟩ := H
   replace H : ((impl_LocalLevel.f k t204).bind fun t205 => ((spec_LocalLevel.f k t204).bind fun t206 => (if t205 = t206 then (laws_FnLevel.j0 k t204 t205 t206 (decide (t205 < 0))) else (laws_FnLevel.j0 k t204 t205 t206 true)))) = some r := H
   have A3 := Aside0.mk A30
   clear A30
   replace H := Option.bind_eq_some_iff.mp H
   obtain ⟨t205, A40, H⟩ := H
   replace H : ((spec_LocalLevel.f k t204).bind fun t206 => (if t205 = t206 then (laws_FnLevel.j0 k t204 t205 t206 (decide (t205 < 0))) else (laws_FnLevel.j0 k t204 t205 t206 true))) = some r := H
   have A4 := Aside0.mk A40
   clear A40
   replace H := Option.bind_eq_some_iff.mp H
   obtain ⟨t206, A50, H⟩ := H
   replace H : (if t205 = t206 then (laws_FnLevel.j0 k t204 t205 t206 (decide (t205 < 0))) else (laws_FnLevel.j0 k t204 t205 t206 true)) = some r := H
   have A5 := Aside0.mk A50
   clear A50
   have HC6 := Aside0.mk H
   clear H
   go_enter Try.func6, Try.ntmps6
   go_upto_region 6 with (first | ((with_reducible refine gate_callee (f := 29) rfl ?_); refine goesL_ (some 13) rfl rfl Try.func29 (by kernel_rfl) rfl #[.slice A0 l0.length c0] rfl (by (try simp only [List.map_toArray, List.map_cons, List.map_nil]); first | done | rfl | (simp only [List.length_drop, List.length_take]; rfl)) ?_; (with_reducible refine (spec_DrawLocalLevel.calls k _ _ l0 t204 _ ?side1 ?side2 A3.out).mono ?_); (case side1 => repeat (first | exact HR0.out | (with_reducible refine Kd.C_alloc ?_ _) | (with_reducible refine Kd.C_drewN ?_ _) | (with_reducible refine Kd.C_drew ?_))); (case side2 => exact HC0.out); rintro e w7 ⟨rfl, hb⟩; refine ⟨_, rfl, ?_⟩; have n0_ := Aside0.mk (below_step (by repeat (first | (with_reducible first | exact HB.out | apply below_alloc | apply pw_below_drewN | apply below_drew1) | exact HB.out)) hb); clear HB; have HB := n0_; clear n0_; (try clear hb); (try clear hb2); (try clear hk); (try clear hi)) | ((with_reducible refine gate_callee (f := 30) rfl ?_); refine goesL_ (some 15) rfl rfl Try.func30 (by kernel_rfl) rfl #[.int .i64 t204] rfl (by (try simp only [List.map_toArray, List.map_cons, List.map_nil]); first | done | rfl | (simp only [List.length_drop, List.length_take]; rfl)) ?_; (with_reducible refine (impl_LocalLevel.calls k t204 t205 _ A4.out).mono ?_); rintro e w8 ⟨rfl, hb⟩; refine ⟨_, rfl, ?_⟩; have n0_ := Aside0.mk (below_step (by repeat (first | (with_reducible first | exact HB.out | apply below_alloc | apply pw_below_drewN | apply below_drew1) | exact HB.out)) hb); clear HB; have HB := n0_; clear n0_; (try clear hb); (try clear hb2); (try clear hk); (try clear hi)) | ((with_reducible refine gate_callee (f := 31) rfl ?_); refine goesL_ (some 17) rfl rfl Try.func31 (by kernel_rfl) rfl #[.int .i64 t204] rfl (by (try simp only [List.map_toArray, List.map_cons, List.map_nil]); first | done | rfl | (simp only [List.length_drop, List.length_take]; rfl)) ?_; (with_reducible refine (spec_LocalLevel.calls k t204 t206 _ A5.out).mono ?_); rintro e w9 ⟨rfl, hb⟩; refine ⟨_, rfl, ?_⟩; have n0_ := Aside0.mk (below_step (by repeat (first | (with_reducible first | exact HB.out | apply below_alloc | apply pw_below_drewN | apply below_drew1) | exact HB.out)) hb); clear HB; have HB := n0_; clear n0_; (try clear hb); (try clear hb2); (try clear hk); (try clear hi)))
   (try simp only [Act.put, List.setIfInBounds_toArray, List.set_cons_zero, List.set_cons_succ])
   go_cut [24] (fun v24 wc => ∃ (kq : Nat) (x24_5 : Bool), v24 = .bool x24_5 ∧ Aside0 (laws_FnLevel.j0 kq t204 t205 t206 x24_5 = some r) ∧ Aside0 (kq ≤ k) ∧ Aside0 (Below w.heap.size w wc))
   case first =>
    have H := HC6.out
    clear HC6
    by_cases c10 : t205 = t206
    · rw [if_pos c10] at H
      have c10b0 : (t205 == t206) = true := beq_iff_eq.mpr c10
      have c10b1 : (t205 != t206) = false := bne_eq_false_iff_eq.mpr c10
      clear c10
      (first | rw [c10b0] | (simp only [i64_w, i32_w]; rw [c10b0]) | skip)
      have H' := Aside0.mk H
      clear H
      go_wp2
      go_meet
      case rel => exact ⟨_, (decide (t205 < 0)), (by first | rfl | (simp; done) | (simp [*]; done)), H', ⟨by first | omega | exact Nat.le_refl _⟩, ⟨by repeat (first | (with_reducible first | exact HB.out | apply below_alloc | apply pw_below_drewN | apply below_drew1) | exact HB.out)⟩⟩
    · rw [if_neg c10] at H
      have c10b0 : (t205 == t206) = false := beq_eq_false_iff_ne.mpr c10
      have c10b1 : (t205 != t206) = true := bne_iff_ne.mpr c10
      (first | rw [c10b0] | (simp only [i64_w, i32_w]; rw [c10b0]) | skip)
      have H' := Aside0.mk H
      clear H
      go_wp2
      go_meet
      case rel => exact ⟨_, (true), (by first | rfl | (simp; done) | (simp [*]; done)), H', ⟨by first | omega | exact Nat.le_refl _⟩, ⟨by repeat (first | (with_reducible first | exact HB.out | apply below_alloc | apply pw_below_drewN | apply below_drew1) | exact HB.out)⟩⟩
   case rest =>
    clear HC6
    try clear c1
    try clear c2
    try clear c2b0
    try clear c2b1
    try clear p2
    try clear c3
    try clear c6
    try clear c10
    try clear c10b0
    try clear c10b1
    obtain ⟨kq, x24_5, rfl, HA, HJ5, HB⟩ := hcut
    cases kq with
    | zero => exact absurd HA.out (by simp [laws_FnLevel.j0])
    | succ kj5 =>
     have H := HA.out
     clear HA
     simp only [laws_FnLevel.j0] at H
     by_cases c11 : x24_5 = true
     · subst c11
       have H1 : (some (t205 == t206)) = some r := by rw [if_pos rfl] at H; exact H
       clear H
       have H := H1
       clear H1
       obtain rfl := Option.some.inj H
       go_wp2
       go_ret
       exact ⟨by first | rfl | (simp [errW_none, errW_some] <;> rfl) | (simp [*, errW_none, errW_some] <;> rfl), by repeat (first | (with_reducible first | exact HB.out | apply below_alloc | apply pw_below_drewN | apply below_drew1) | exact HB.out)⟩
     · replace c11 := Bool.eq_false_iff.mpr c11
       subst c11
       have H1 : (laws_FnLevel.l0 kj5 t204 t205 (([] : List Int)) 0) = some r := by rw [if_neg (show ¬ (false = true) by decide)] at H; exact H
       clear H
       have H := H1
       clear H1
       obtain ⟨y207, hy207⟩ : ∃ y_ : List Int, y_ = (([] : List Int)) := ⟨_, rfl⟩
       replace H : (laws_FnLevel.l0 kj5 t204 t205 y207 0) = some r := by first | (rw [hy207]; with_reducible exact H) | (have H2_ := (Option.bind_some _ _).symm.trans H; rw [hy207]; with_reducible exact H2_) | (have H2_ := (Option.bind_some _ _).symm.trans H; with_reducible exact H2_) | with_reducible exact H | (rw [hy207]; exact H) | exact H
       have Ny207 := Aside0.mk hy207
       clear hy207
       have H' := Aside0.mk H
       clear H
       go_wp2_with (first | ((with_reducible refine gate_dst (N := 28) rfl ?_); refine Kd.R_lit (Kd.int .i64) _ 3 ?hg (N := 28) ?hd (xs := ([] : List Int)) (inner := []) (ok := fun _ => True) (okp := fun _ => True) ?hr ?hp (fun _ hk => hk) trivial (Below.refl _ _) (Nat.le_refl _) (by simp) ?_; (case hd => rfl); (case hg => rfl); (case hr => first | (go_simp; done) | (go_simp; rfl)); (case hp => exact (Reps.none _ _)); intro v208 w12 ho13 hb hg_ hnew_; clear hg_ hnew_; (first | rw [← Ny207.out] at ho13 | (simp only [Int.reduceToNat] at ho13; rw [← Ny207.out] at ho13)); have n0_ := Aside0.mk (Kd.R_lower ho13 (below_size (by repeat (first | (with_reducible first | exact HB.out | apply below_alloc | apply pw_below_drewN | apply below_drew1) | exact HB.out)))); have n1_ := Aside0.mk (below_step (by repeat (first | (with_reducible first | exact HB.out | apply below_alloc | apply pw_below_drewN | apply below_drew1) | exact HB.out)) hb); clear HB; have HO209 := n0_; have HB := n1_; clear n0_ n1_; clear hb ho13))
       go_loopg [6, 7] kj5 (fun kq v6 v7 w' => ∃ (x6_2 : List Int) (x7_2 : Int), v7 = .int .i64 x7_2 ∧ Aside0 (laws_FnLevel.l0 kq t204 t205 x6_2 x7_2 = some r) ∧ Aside0 (kq ≤ kj5) ∧ Aside0 (Kd.R (Kd.int .i64) 3 w' w.heap.size (fun _ => True) v6 x6_2) ∧ Aside0 (Below w.heap.size w w'))
       case atStart => exact ⟨(y207), (0), (by first | rfl | (simp; done) | (simp [*]; done)), H', ⟨Nat.le_refl _⟩, ⟨by (with_reducible repeat (first | apply Kd.R_alloc | apply Kd.R_drewN | apply Kd.R_drew)); exact HO209.out⟩, ⟨by repeat (first | (with_reducible first | exact HB.out | apply below_alloc | apply pw_below_drewN | apply below_drew1) | exact HB.out)⟩⟩
       case round =>
        clear H'
        try clear c1
        try clear c2
        try clear c2b0
        try clear c2b1
        try clear p2
        try clear c3
        try clear c6
        try clear c10
        try clear c10b0
        try clear c10b1
        try clear c11
        try clear p2
        obtain ⟨x6_2, x7_2, rfl, HA, HK2, HO_6, HB⟩ := hrel
        cases gk with
        | zero => exact absurd HA.out (by simp [laws_FnLevel.l0])
        | succ k2 =>
         have H := HA.out
         clear HA
         simp only [laws_FnLevel.l0] at H
         by_cases c14 : x7_2 ≤ t205
         · rw [if_pos c14] at H
           have c14b0 : decide (x7_2 ≤ t205) = true := decide_eq_true c14
           clear c14
           by_cases c15 : x7_2 < 4
           · rw [if_pos c15] at H
             have c15b0 : decide (x7_2 < 4) = true := decide_eq_true c15
             clear c15
             by_cases c16 : x6_2.length < 17592186044416
             · rw [if_pos c16] at H
               have LMc16 := Aside0.mk c16
               clear c16
               obtain ⟨y210, hy210⟩ : ∃ y_ : List Int, y_ = (x6_2 ++ [1]) := ⟨_, rfl⟩
               replace H : (laws_FnLevel.l0 k2 t204 t205 y210 (wrap64 (x7_2 + 1))) = some r := by first | (rw [hy210]; with_reducible exact H) | (have H2_ := (Option.bind_some _ _).symm.trans H; rw [hy210]; with_reducible exact H2_) | (have H2_ := (Option.bind_some _ _).symm.trans H; with_reducible exact H2_) | with_reducible exact H | (rw [hy210]; exact H) | exact H
               have Ny210 := Aside0.mk hy210
               clear hy210
               have H' := Aside0.mk H
               clear H
               go_wp2_with (first | ((with_reducible refine gate_builtin (b := .append) (xs := #[.tmp 38, .tmp 39]) rfl ?_); at_builtin; refine Kd.R_append (Kd.int .i64) (w0 := w) w.heap.size rfl (.tmp 38) (.tmp 39) 23 3 (.int .i64 0) 8 rfl Try.underlying23 info3 rfl (by decide) (by omega) u6 x6_2 1 [.int .i64 1] (fun _ => True) (fun _ => False) rfl rfl ?aP (fun _ hk => hk.elim) ?aF ?aO ?aB ?aS ?aL ?_; (case aP => exact rfl); (case aB => exact (by repeat (first | (with_reducible first | exact HB.out | apply below_alloc | apply pw_below_drewN | apply below_drew1) | exact HB.out))); (case aF => exact (fun _ _ => trivial)); (case aO => exact (by (with_reducible repeat (first | apply Kd.R_alloc | apply Kd.R_drewN | apply Kd.R_drew)); exact HO_6.out)); (case aS => exact (below_size (by repeat (first | (with_reducible first | exact HB.out | apply below_alloc | apply pw_below_drewN | apply below_drew1) | exact HB.out)))); (case aL => have := LMc16.out; omega); intro v211 w17 ho hb hg hat; rw [← Ny210.out] at ho; have n0_ := Aside0.mk (hb); have n1_ := Aside0.mk (ho); clear HB; clear HO_6; have HB := n0_; have HO212 := n1_; clear n0_ n1_; clear ho hb hg hat))
               go_roundg k2
               case measure => have := HJ5.out; have := HK2.out; omega
               case rel => exact ⟨(y210), (wrap64 (x7_2 + 1)), (by first | rfl | (simp; done) | (simp [*]; done)), H', ⟨by have := HJ5.out; have := HK2.out; omega⟩, ⟨by (with_reducible repeat (first | apply Kd.R_alloc | apply Kd.R_drewN | apply Kd.R_drew)); exact HO212.out⟩, ⟨by repeat (first | (with_reducible first | exact HB.out | apply below_alloc | apply pw_below_drewN | apply below_drew1) | exact HB.out)⟩⟩
             · rw [if_neg c16] at H
               exact absurd H (by simp)
           · rw [if_neg c15] at H
             have c15b0 : decide (x7_2 < 4) = false := decide_eq_false c15
             clear c15
             replace H := Option.bind_eq_some_iff.mp H
             obtain ⟨t213, A180, H⟩ := H
             replace H : (if ((t205 == 4) == (t204 == 2)) = true then (if ((t205 == 1) == t213) = true then (if t204 = 2 then (if t205 = 4 then (some true) else ((impl_FormVanishes.f k2 x6_2 t204).bind fun t214 => (some t214))) else (if t205 = 1 then (if t205 = 4 then (some true) else ((impl_FormVanishes.f k2 x6_2 t204).bind fun t215 => (some t215))) else (if t205 = 2 then (if t205 = 4 then (some true) else ((impl_FormVanishes.f k2 x6_2 t204).bind fun t216 => (some t216))) else (some false)))) else (some false)) else (some false)) = some r := H
             have A18 := Aside0.mk A180
             clear A180
             by_cases c19 : ((t205 == 4) == (t204 == 2)) = true
             · rw [if_pos c19] at H
               have c19b0 : ((t205 == 4) == (t204 == 2)) = true := c19
               (try (have c19b1 : decide ((t205 == 4) = (t204 == 2)) = true := by simpa using c19))
               (try (have c19b2 : ((t205 == 4) == (t204 == 2)) = true := by simpa using c19))
               clear c19
               by_cases c20 : ((t205 == 1) == t213) = true
               · rw [if_pos c20] at H
                 have c20b0 : ((t205 == 1) == t213) = true := c20
                 (try (have c20b1 : decide ((t205 == 1) = t213) = true := by simpa using c20))
                 (try (have c20b2 : ((t205 == 1) == t213) = true := by simpa using c20))
                 clear c20
                 by_cases c21 : t204 = 2
                 · rw [if_pos c21] at H
                   have c21b0 : (t204 == 2) = true := beq_iff_eq.mpr c21
                   have c21b1 : (t204 != 2) = false := bne_eq_false_iff_eq.mpr c21
                   clear c21
                   by_cases c22 : t205 = 4
                   · rw [if_pos c22] at H
                     have c22b0 : (t205 == 4) = true := beq_iff_eq.mpr c22
                     have c22b1 : (t205 != 4) = false := bne_eq_false_iff_eq.mpr c22
                     clear c22
                     obtain rfl := Option.some.inj H
                     go_wp2_with (first | ((with_reducible refine gate_callee (f := 32) rfl ?_); refine goesL_ (some 42) rfl rfl Try.func32 (by kernel_rfl) rfl #[.int .i64 (-1), .int .i64 t204] rfl (by (try simp only [List.map_toArray, List.map_cons, List.map_nil]); first | done | rfl | (simp only [List.length_drop, List.length_take]; rfl)) ?_; (with_reducible refine (impl_LocalSquare.calls k2 (-1) t204 t213 _ A18.out).mono ?_); rintro e w' ⟨rfl, ⟨nd, rfl⟩⟩; refine ⟨_, rfl, ?_⟩))
                     go_ret
                     exact ⟨by first | rfl | (simp [errW_none, errW_some] <;> rfl) | (simp [*, errW_none, errW_some] <;> rfl), by repeat (first | (with_reducible first | exact HB.out | apply below_alloc | apply pw_below_drewN | apply below_drew1) | exact HB.out)⟩
                   · rw [if_neg c22] at H
                     have c22b0 : (t205 == 4) = false := beq_eq_false_iff_ne.mpr c22
                     have c22b1 : (t205 != 4) = true := bne_iff_ne.mpr c22
                     exact absurd c19b0 (by rw [c22b0, c21b0]; decide) -- absurd_level
                 · rw [if_neg c21] at H
                   have c21b0 : (t204 == 2) = false := beq_eq_false_iff_ne.mpr c21
                   have c21b1 : (t204 != 2) = true := bne_iff_ne.mpr c21
                   have c21x : (t205 == 4) = false := by have h_ := c19b0; rw [c21b0] at h_; revert h_; cases (t205 == 4) <;> decide
                   by_cases c26 : t205 = 1
                   · rw [if_pos c26] at H
                     have c26b0 : (t205 == 1) = true := beq_iff_eq.mpr c26
                     have c26b1 : (t205 != 1) = false := bne_eq_false_iff_eq.mpr c26
                     have c26x : t213 = true := by have h_ := c20b0; rw [c26b0] at h_; revert h_; cases t213 <;> decide
                     clear c26
                     by_cases c27 : t205 = 4
                     · rw [if_pos c27] at H
                       have c27b0 : (t205 == 4) = true := beq_iff_eq.mpr c27
                       have c27b1 : (t205 != 4) = false := bne_eq_false_iff_eq.mpr c27
                       exact absurd (beq_iff_eq.mp c27b0) (by rw [beq_iff_eq.mp c26b0]; decide) -- absurd_level
                     · rw [if_neg c27] at H
                       have c27b0 : (t205 == 4) = false := beq_eq_false_iff_ne.mpr c27
                       have c27b1 : (t205 != 4) = true := bne_iff_ne.mpr c27
                       replace H := Option.bind_eq_some_iff.mp H
                       obtain ⟨t215, A280, H⟩ := H
                       replace H : (some t215) = some r := H
                       have A28 := Aside0.mk A280
                       clear A280
                       obtain rfl := Option.some.inj H
                       go_wp2_with (first | ((with_reducible refine gate_callee (f := 32) rfl ?_); refine goesL_ (some 42) rfl rfl Try.func32 (by kernel_rfl) rfl #[.int .i64 (-1), .int .i64 t204] rfl (by (try simp only [List.map_toArray, List.map_cons, List.map_nil]); first | done | rfl | (simp only [List.length_drop, List.length_take]; rfl)) ?_; (with_reducible refine (impl_LocalSquare.calls k2 (-1) t204 t213 _ A18.out).mono ?_); rintro e w' ⟨rfl, ⟨nd, rfl⟩⟩; refine ⟨_, rfl, ?_⟩; obtain ⟨Ao29, co29, eo29⟩ := Kd.R_slice HO_6.out; subst eo29) | (go_at_call 33; (with_reducible refine (impl_FormVanishes.calls k2 _ _ x6_2 t204 t215 _ ?side1 ?side2 A28.out).mono ?_); (case side1 => repeat (first | exact (Kd.R_reads' HO_6.out).2.2 | (with_reducible refine Kd.C_alloc ?_ _) | (with_reducible refine Kd.C_drewN ?_ _) | (with_reducible refine Kd.C_drew ?_))); (case side2 => exact (Kd.R_reads' HO_6.out).2.1); rintro e w30 ⟨rfl, hb⟩; have n0_ := Aside0.mk (Kd.R_below (by (with_reducible repeat (first | apply Kd.R_alloc | apply Kd.R_drewN | apply Kd.R_drew)); exact HO_6.out) hb); have n1_ := Aside0.mk (below_step (by repeat (first | (with_reducible first | exact HB.out | apply below_alloc | apply pw_below_drewN | apply below_drew1) | exact HB.out)) hb); clear HO_6; clear HB; have HO_6 := n0_; have HB := n1_; clear n0_ n1_; (try clear hb); (try clear hb2); (try clear hk); (try clear hi)))
                       go_ret
                       exact ⟨by first | rfl | (simp [errW_none, errW_some] <;> rfl) | (simp [*, errW_none, errW_some] <;> rfl), by repeat (first | (with_reducible first | exact HB.out | apply below_alloc | apply pw_below_drewN | apply below_drew1) | exact HB.out)⟩
                   · rw [if_neg c26] at H
                     have c26b0 : (t205 == 1) = false := beq_eq_false_iff_ne.mpr c26
                     have c26b1 : (t205 != 1) = true := bne_iff_ne.mpr c26
                     have c26x : t213 = false := by have h_ := c20b0; rw [c26b0] at h_; revert h_; cases t213 <;> decide
                     by_cases c31 : t205 = 2
                     · rw [if_pos c31] at H
                       have c31b0 : (t205 == 2) = true := beq_iff_eq.mpr c31
                       have c31b1 : (t205 != 2) = false := bne_eq_false_iff_eq.mpr c31
                       clear c31
                       by_cases c32 : t205 = 4
                       · rw [if_pos c32] at H
                         have c32b0 : (t205 == 4) = true := beq_iff_eq.mpr c32
                         have c32b1 : (t205 != 4) = false := bne_eq_false_iff_eq.mpr c32
                         exact absurd (beq_iff_eq.mp c32b0) (by rw [beq_iff_eq.mp c31b0]; decide) -- absurd_level
                       · rw [if_neg c32] at H
                         have c32b0 : (t205 == 4) = false := beq_eq_false_iff_ne.mpr c32
                         have c32b1 : (t205 != 4) = true := bne_iff_ne.mpr c32
                         replace H := Option.bind_eq_some_iff.mp H
                         obtain ⟨t216, A330, H⟩ := H
                         replace H : (some t216) = some r := H
                         have A33 := Aside0.mk A330
                         clear A330
                         obtain rfl := Option.some.inj H
                         go_wp2_with (first | ((with_reducible refine gate_callee (f := 32) rfl ?_); refine goesL_ (some 42) rfl rfl Try.func32 (by kernel_rfl) rfl #[.int .i64 (-1), .int .i64 t204] rfl (by (try simp only [List.map_toArray, List.map_cons, List.map_nil]); first | done | rfl | (simp only [List.length_drop, List.length_take]; rfl)) ?_; (with_reducible refine (impl_LocalSquare.calls k2 (-1) t204 t213 _ A18.out).mono ?_); rintro e w' ⟨rfl, ⟨nd, rfl⟩⟩; refine ⟨_, rfl, ?_⟩; obtain ⟨Ao34, co34, eo34⟩ := Kd.R_slice HO_6.out; subst eo34) | (go_at_call 33; (with_reducible refine (impl_FormVanishes.calls k2 _ _ x6_2 t204 t216 _ ?side1 ?side2 A33.out).mono ?_); (case side1 => repeat (first | exact (Kd.R_reads' HO_6.out).2.2 | (with_reducible refine Kd.C_alloc ?_ _) | (with_reducible refine Kd.C_drewN ?_ _) | (with_reducible refine Kd.C_drew ?_))); (case side2 => exact (Kd.R_reads' HO_6.out).2.1); rintro e w35 ⟨rfl, hb⟩; have n0_ := Aside0.mk (Kd.R_below (by (with_reducible repeat (first | apply Kd.R_alloc | apply Kd.R_drewN | apply Kd.R_drew)); exact HO_6.out) hb); have n1_ := Aside0.mk (below_step (by repeat (first | (with_reducible first | exact HB.out | apply below_alloc | apply pw_below_drewN | apply below_drew1) | exact HB.out)) hb); clear HO_6; clear HB; have HO_6 := n0_; have HB := n1_; clear n0_ n1_; (try clear hb); (try clear hb2); (try clear hk); (try clear hi)))
                         go_ret
                         exact ⟨by first | rfl | (simp [errW_none, errW_some] <;> rfl) | (simp [*, errW_none, errW_some] <;> rfl), by repeat (first | (with_reducible first | exact HB.out | apply below_alloc | apply pw_below_drewN | apply below_drew1) | exact HB.out)⟩
                     · rw [if_neg c31] at H
                       have c31b0 : (t205 == 2) = false := beq_eq_false_iff_ne.mpr c31
                       have c31b1 : (t205 != 2) = true := bne_iff_ne.mpr c31
                       obtain rfl := Option.some.inj H
                       go_wp2_with (first | ((with_reducible refine gate_callee (f := 32) rfl ?_); refine goesL_ (some 42) rfl rfl Try.func32 (by kernel_rfl) rfl #[.int .i64 (-1), .int .i64 t204] rfl (by (try simp only [List.map_toArray, List.map_cons, List.map_nil]); first | done | rfl | (simp only [List.length_drop, List.length_take]; rfl)) ?_; (with_reducible refine (impl_LocalSquare.calls k2 (-1) t204 t213 _ A18.out).mono ?_); rintro e w' ⟨rfl, ⟨nd, rfl⟩⟩; refine ⟨_, rfl, ?_⟩))
                       go_ret
                       exact ⟨by first | rfl | (simp [errW_none, errW_some] <;> rfl) | (simp [*, errW_none, errW_some] <;> rfl), by repeat (first | (with_reducible first | exact HB.out | apply below_alloc | apply pw_below_drewN | apply below_drew1) | exact HB.out)⟩
               · rw [if_neg c20] at H
                 have c20b0 : ((t205 == 1) == t213) = false := by simpa using c20
                 (try (have c20b1 : decide ((t205 == 1) = t213) = false := by simpa using c20))
                 (try (have c20b2 : ((t205 == 1) == t213) = false := by simpa using c20))
                 (try (have c20b3 : ¬ ((t205 == 1) = t213) := by simpa using c20))
                 clear c20
                 obtain rfl := Option.some.inj H
                 go_wp2_with (first | ((with_reducible refine gate_callee (f := 32) rfl ?_); refine goesL_ (some 42) rfl rfl Try.func32 (by kernel_rfl) rfl #[.int .i64 (-1), .int .i64 t204] rfl (by (try simp only [List.map_toArray, List.map_cons, List.map_nil]); first | done | rfl | (simp only [List.length_drop, List.length_take]; rfl)) ?_; (with_reducible refine (impl_LocalSquare.calls k2 (-1) t204 t213 _ A18.out).mono ?_); rintro e w' ⟨rfl, ⟨nd, rfl⟩⟩; refine ⟨_, rfl, ?_⟩))
                 go_ret
                 exact ⟨by first | rfl | (simp [errW_none, errW_some] <;> rfl) | (simp [*, errW_none, errW_some] <;> rfl), by repeat (first | (with_reducible first | exact HB.out | apply below_alloc | apply pw_below_drewN | apply below_drew1) | exact HB.out)⟩
             · rw [if_neg c19] at H
               have c19b0 : ((t205 == 4) == (t204 == 2)) = false := by simpa using c19
               (try (have c19b1 : decide ((t205 == 4) = (t204 == 2)) = false := by simpa using c19))
               (try (have c19b2 : ((t205 == 4) == (t204 == 2)) = false := by simpa using c19))
               (try (have c19b3 : ¬ ((t205 == 4) = (t204 == 2)) := by simpa using c19))
               clear c19
               obtain rfl := Option.some.inj H
               go_wp2_with (first | ((with_reducible refine gate_callee (f := 32) rfl ?_); refine goesL_ (some 42) rfl rfl Try.func32 (by kernel_rfl) rfl #[.int .i64 (-1), .int .i64 t204] rfl (by (try simp only [List.map_toArray, List.map_cons, List.map_nil]); first | done | rfl | (simp only [List.length_drop, List.length_take]; rfl)) ?_; (with_reducible refine (impl_LocalSquare.calls k2 (-1) t204 t213 _ A18.out).mono ?_); rintro e w' ⟨rfl, ⟨nd, rfl⟩⟩; refine ⟨_, rfl, ?_⟩))
               go_ret
               exact ⟨by first | rfl | (simp [errW_none, errW_some] <;> rfl) | (simp [*, errW_none, errW_some] <;> rfl), by repeat (first | (with_reducible first | exact HB.out | apply below_alloc | apply pw_below_drewN | apply below_drew1) | exact HB.out)⟩
         · rw [if_neg c14] at H
           have c14b0 : decide (x7_2 ≤ t205) = false := decide_eq_false c14
           clear c14
           replace H := Option.bind_eq_some_iff.mp H
           obtain ⟨t217, A360, H⟩ := H
           replace H : (if ((t205 == 4) == (t204 == 2)) = true then (if ((t205 == 1) == t217) = true then (if t204 = 2 then (if t205 = 4 then (some true) else ((impl_FormVanishes.f k2 x6_2 t204).bind fun t218 => (some t218))) else (if t205 = 1 then (if t205 = 4 then (some true) else ((impl_FormVanishes.f k2 x6_2 t204).bind fun t219 => (some t219))) else (if t205 = 2 then (if t205 = 4 then (some true) else ((impl_FormVanishes.f k2 x6_2 t204).bind fun t220 => (some t220))) else (some false)))) else (some false)) else (some false)) = some r := H
           have A36 := Aside0.mk A360
           clear A360
           by_cases c37 : ((t205 == 4) == (t204 == 2)) = true
           · rw [if_pos c37] at H
             have c37b0 : ((t205 == 4) == (t204 == 2)) = true := c37
             (try (have c37b1 : decide ((t205 == 4) = (t204 == 2)) = true := by simpa using c37))
             (try (have c37b2 : ((t205 == 4) == (t204 == 2)) = true := by simpa using c37))
             clear c37
             by_cases c38 : ((t205 == 1) == t217) = true
             · rw [if_pos c38] at H
               have c38b0 : ((t205 == 1) == t217) = true := c38
               (try (have c38b1 : decide ((t205 == 1) = t217) = true := by simpa using c38))
               (try (have c38b2 : ((t205 == 1) == t217) = true := by simpa using c38))
               clear c38
               by_cases c39 : t204 = 2
               · rw [if_pos c39] at H
                 have c39b0 : (t204 == 2) = true := beq_iff_eq.mpr c39
                 have c39b1 : (t204 != 2) = false := bne_eq_false_iff_eq.mpr c39
                 clear c39
                 by_cases c40 : t205 = 4
                 · rw [if_pos c40] at H
                   have c40b0 : (t205 == 4) = true := beq_iff_eq.mpr c40
                   have c40b1 : (t205 != 4) = false := bne_eq_false_iff_eq.mpr c40
                   clear c40
                   obtain rfl := Option.some.inj H
                   go_wp2_with (first | ((with_reducible refine gate_callee (f := 32) rfl ?_); refine goesL_ (some 42) rfl rfl Try.func32 (by kernel_rfl) rfl #[.int .i64 (-1), .int .i64 t204] rfl (by (try simp only [List.map_toArray, List.map_cons, List.map_nil]); first | done | rfl | (simp only [List.length_drop, List.length_take]; rfl)) ?_; (with_reducible refine (impl_LocalSquare.calls k2 (-1) t204 t217 _ A36.out).mono ?_); rintro e w' ⟨rfl, ⟨nd, rfl⟩⟩; refine ⟨_, rfl, ?_⟩))
                   go_ret
                   exact ⟨by first | rfl | (simp [errW_none, errW_some] <;> rfl) | (simp [*, errW_none, errW_some] <;> rfl), by repeat (first | (with_reducible first | exact HB.out | apply below_alloc | apply pw_below_drewN | apply below_drew1) | exact HB.out)⟩
                 · rw [if_neg c40] at H
                   have c40b0 : (t205 == 4) = false := beq_eq_false_iff_ne.mpr c40
                   have c40b1 : (t205 != 4) = true := bne_iff_ne.mpr c40
                   exact absurd c37b0 (by rw [c40b0, c39b0]; decide) -- absurd_level
               · rw [if_neg c39] at H
                 have c39b0 : (t204 == 2) = false := beq_eq_false_iff_ne.mpr c39
                 have c39b1 : (t204 != 2) = true := bne_iff_ne.mpr c39
                 have c39x : (t205 == 4) = false := by have h_ := c37b0; rw [c39b0] at h_; revert h_; cases (t205 == 4) <;> decide
                 by_cases c44 : t205 = 1
                 · rw [if_pos c44] at H
                   have c44b0 : (t205 == 1) = true := beq_iff_eq.mpr c44
                   have c44b1 : (t205 != 1) = false := bne_eq_false_iff_eq.mpr c44
                   have c44x : t217 = true := by have h_ := c38b0; rw [c44b0] at h_; revert h_; cases t217 <;> decide
                   clear c44
                   by_cases c45 : t205 = 4
                   · rw [if_pos c45] at H
                     have c45b0 : (t205 == 4) = true := beq_iff_eq.mpr c45
                     have c45b1 : (t205 != 4) = false := bne_eq_false_iff_eq.mpr c45
                     exact absurd (beq_iff_eq.mp c45b0) (by rw [beq_iff_eq.mp c44b0]; decide) -- absurd_level
                   · rw [if_neg c45] at H
                     have c45b0 : (t205 == 4) = false := beq_eq_false_iff_ne.mpr c45
                     have c45b1 : (t205 != 4) = true := bne_iff_ne.mpr c45
                     replace H := Option.bind_eq_some_iff.mp H
                     obtain ⟨t219, A460, H⟩ := H
                     replace H : (some t219) = some r := H
                     have A46 := Aside0.mk A460
                     clear A460
                     obtain rfl := Option.some.inj H
                     go_wp2_with (first | ((with_reducible refine gate_callee (f := 32) rfl ?_); refine goesL_ (some 42) rfl rfl Try.func32 (by kernel_rfl) rfl #[.int .i64 (-1), .int .i64 t204] rfl (by (try simp only [List.map_toArray, List.map_cons, List.map_nil]); first | done | rfl | (simp only [List.length_drop, List.length_take]; rfl)) ?_; (with_reducible refine (impl_LocalSquare.calls k2 (-1) t204 t217 _ A36.out).mono ?_); rintro e w' ⟨rfl, ⟨nd, rfl⟩⟩; refine ⟨_, rfl, ?_⟩; obtain ⟨Ao47, co47, eo47⟩ := Kd.R_slice HO_6.out; subst eo47) | (go_at_call 33; (with_reducible refine (impl_FormVanishes.calls k2 _ _ x6_2 t204 t219 _ ?side1 ?side2 A46.out).mono ?_); (case side1 => repeat (first | exact (Kd.R_reads' HO_6.out).2.2 | (with_reducible refine Kd.C_alloc ?_ _) | (with_reducible refine Kd.C_drewN ?_ _) | (with_reducible refine Kd.C_drew ?_))); (case side2 => exact (Kd.R_reads' HO_6.out).2.1); rintro e w48 ⟨rfl, hb⟩; have n0_ := Aside0.mk (Kd.R_below (by (with_reducible repeat (first | apply Kd.R_alloc | apply Kd.R_drewN | apply Kd.R_drew)); exact HO_6.out) hb); have n1_ := Aside0.mk (below_step (by repeat (first | (with_reducible first | exact HB.out | apply below_alloc | apply pw_below_drewN | apply below_drew1) | exact HB.out)) hb); clear HO_6; clear HB; have HO_6 := n0_; have HB := n1_; clear n0_ n1_; (try clear hb); (try clear hb2); (try clear hk); (try clear hi)))
                     go_ret
                     exact ⟨by first | rfl | (simp [errW_none, errW_some] <;> rfl) | (simp [*, errW_none, errW_some] <;> rfl), by repeat (first | (with_reducible first | exact HB.out | apply below_alloc | apply pw_below_drewN | apply below_drew1) | exact HB.out)⟩
                 · rw [if_neg c44] at H
                   have c44b0 : (t205 == 1) = false := beq_eq_false_iff_ne.mpr c44
                   have c44b1 : (t205 != 1) = true := bne_iff_ne.mpr c44
                   have c44x : t217 = false := by have h_ := c38b0; rw [c44b0] at h_; revert h_; cases t217 <;> decide
                   by_cases c49 : t205 = 2
                   · rw [if_pos c49] at H
                     have c49b0 : (t205 == 2) = true := beq_iff_eq.mpr c49
                     have c49b1 : (t205 != 2) = false := bne_eq_false_iff_eq.mpr c49
                     clear c49
                     by_cases c50 : t205 = 4
                     · rw [if_pos c50] at H
                       have c50b0 : (t205 == 4) = true := beq_iff_eq.mpr c50
                       have c50b1 : (t205 != 4) = false := bne_eq_false_iff_eq.mpr c50
                       exact absurd (beq_iff_eq.mp c50b0) (by rw [beq_iff_eq.mp c49b0]; decide) -- absurd_level
                     · rw [if_neg c50] at H
                       have c50b0 : (t205 == 4) = false := beq_eq_false_iff_ne.mpr c50
                       have c50b1 : (t205 != 4) = true := bne_iff_ne.mpr c50
                       replace H := Option.bind_eq_some_iff.mp H
                       obtain ⟨t220, A510, H⟩ := H
                       replace H : (some t220) = some r := H
                       have A51 := Aside0.mk A510
                       clear A510
                       obtain rfl := Option.some.inj H
                       go_wp2_with (first | ((with_reducible refine gate_callee (f := 32) rfl ?_); refine goesL_ (some 42) rfl rfl Try.func32 (by kernel_rfl) rfl #[.int .i64 (-1), .int .i64 t204] rfl (by (try simp only [List.map_toArray, List.map_cons, List.map_nil]); first | done | rfl | (simp only [List.length_drop, List.length_take]; rfl)) ?_; (with_reducible refine (impl_LocalSquare.calls k2 (-1) t204 t217 _ A36.out).mono ?_); rintro e w' ⟨rfl, ⟨nd, rfl⟩⟩; refine ⟨_, rfl, ?_⟩; obtain ⟨Ao52, co52, eo52⟩ := Kd.R_slice HO_6.out; subst eo52) | (go_at_call 33; (with_reducible refine (impl_FormVanishes.calls k2 _ _ x6_2 t204 t220 _ ?side1 ?side2 A51.out).mono ?_); (case side1 => repeat (first | exact (Kd.R_reads' HO_6.out).2.2 | (with_reducible refine Kd.C_alloc ?_ _) | (with_reducible refine Kd.C_drewN ?_ _) | (with_reducible refine Kd.C_drew ?_))); (case side2 => exact (Kd.R_reads' HO_6.out).2.1); rintro e w53 ⟨rfl, hb⟩; have n0_ := Aside0.mk (Kd.R_below (by (with_reducible repeat (first | apply Kd.R_alloc | apply Kd.R_drewN | apply Kd.R_drew)); exact HO_6.out) hb); have n1_ := Aside0.mk (below_step (by repeat (first | (with_reducible first | exact HB.out | apply below_alloc | apply pw_below_drewN | apply below_drew1) | exact HB.out)) hb); clear HO_6; clear HB; have HO_6 := n0_; have HB := n1_; clear n0_ n1_; (try clear hb); (try clear hb2); (try clear hk); (try clear hi)))
                       go_ret
                       exact ⟨by first | rfl | (simp [errW_none, errW_some] <;> rfl) | (simp [*, errW_none, errW_some] <;> rfl), by repeat (first | (with_reducible first | exact HB.out | apply below_alloc | apply pw_below_drewN | apply below_drew1) | exact HB.out)⟩
                   · rw [if_neg c49] at H
                     have c49b0 : (t205 == 2) = false := beq_eq_false_iff_ne.mpr c49
                     have c49b1 : (t205 != 2) = true := bne_iff_ne.mpr c49
                     obtain rfl := Option.some.inj H
                     go_wp2_with (first | ((with_reducible refine gate_callee (f := 32) rfl ?_); refine goesL_ (some 42) rfl rfl Try.func32 (by kernel_rfl) rfl #[.int .i64 (-1), .int .i64 t204] rfl (by (try simp only [List.map_toArray, List.map_cons, List.map_nil]); first | done | rfl | (simp only [List.length_drop, List.length_take]; rfl)) ?_; (with_reducible refine (impl_LocalSquare.calls k2 (-1) t204 t217 _ A36.out).mono ?_); rintro e w' ⟨rfl, ⟨nd, rfl⟩⟩; refine ⟨_, rfl, ?_⟩))
                     go_ret
                     exact ⟨by first | rfl | (simp [errW_none, errW_some] <;> rfl) | (simp [*, errW_none, errW_some] <;> rfl), by repeat (first | (with_reducible first | exact HB.out | apply below_alloc | apply pw_below_drewN | apply below_drew1) | exact HB.out)⟩
             · rw [if_neg c38] at H
               have c38b0 : ((t205 == 1) == t217) = false := by simpa using c38
               (try (have c38b1 : decide ((t205 == 1) = t217) = false := by simpa using c38))
               (try (have c38b2 : ((t205 == 1) == t217) = false := by simpa using c38))
               (try (have c38b3 : ¬ ((t205 == 1) = t217) := by simpa using c38))
               clear c38
               obtain rfl := Option.some.inj H
               go_wp2_with (first | ((with_reducible refine gate_callee (f := 32) rfl ?_); refine goesL_ (some 42) rfl rfl Try.func32 (by kernel_rfl) rfl #[.int .i64 (-1), .int .i64 t204] rfl (by (try simp only [List.map_toArray, List.map_cons, List.map_nil]); first | done | rfl | (simp only [List.length_drop, List.length_take]; rfl)) ?_; (with_reducible refine (impl_LocalSquare.calls k2 (-1) t204 t217 _ A36.out).mono ?_); rintro e w' ⟨rfl, ⟨nd, rfl⟩⟩; refine ⟨_, rfl, ?_⟩))
               go_ret
               exact ⟨by first | rfl | (simp [errW_none, errW_some] <;> rfl) | (simp [*, errW_none, errW_some] <;> rfl), by repeat (first | (with_reducible first | exact HB.out | apply below_alloc | apply pw_below_drewN | apply below_drew1) | exact HB.out)⟩
           · rw [if_neg c37] at H
             have c37b0 : ((t205 == 4) == (t204 == 2)) = false := by simpa using c37
             (try (have c37b1 : decide ((t205 == 4) = (t204 == 2)) = false := by simpa using c37))
             (try (have c37b2 : ((t205 == 4) == (t204 == 2)) = false := by simpa using c37))
             (try (have c37b3 : ¬ ((t205 == 4) = (t204 == 2)) := by simpa using c37))
             clear c37
             obtain rfl := Option.some.inj H
             go_wp2_with (first | ((with_reducible refine gate_callee (f := 32) rfl ?_); refine goesL_ (some 42) rfl rfl Try.func32 (by kernel_rfl) rfl #[.int .i64 (-1), .int .i64 t204] rfl (by (try simp only [List.map_toArray, List.map_cons, List.map_nil]); first | done | rfl | (simp only [List.length_drop, List.length_take]; rfl)) ?_; (with_reducible refine (impl_LocalSquare.calls k2 (-1) t204 t217 _ A36.out).mono ?_); rintro e w' ⟨rfl, ⟨nd, rfl⟩⟩; refine ⟨_, rfl, ?_⟩))
             go_ret
             exact ⟨by first | rfl | (simp [errW_none, errW_some] <;> rfl) | (simp [*, errW_none, errW_some] <;> rfl), by repeat (first | (with_reducible first | exact HB.out | apply below_alloc | apply pw_below_drewN | apply below_drew1) | exact HB.out)⟩

/-- THE ONE PURE STATEMENT of laws_FnLevel: yours. -/
def laws_FnLevel.Pure : Prop := ∀ (l0 : List Int), l0.length ≤ maxLen → l0.length * 1 ≤ 140737488351232 → (∀ x ∈ l0, (Lit.int .u8 x).wf = true) → ∃ k, laws_FnLevel.f k l0 = some true
theorem laws_FnLevel.walk (P : laws_FnLevel.Pure) (a0 : Option Addr) (len0 cap0 : Nat) (z0 : List Int) (w : World) (w0 : (a0 = none ∧ len0 = 0 ∧ cap0 = 0 ∧ z0 = []) ∨ ∃ x, a0 = some x ∧ len0 ≤ cap0 ∧ cap0 ≤ maxLen ∧ z0.length = cap0 ∧ (∀ i, i < z0.length → w.cell? (x.add i) = some (.int .u8 (z0.getD i 0))) ∧ ∀ n ∈ z0, (Lit.int .u8 n).wf = true) (y0 : len0 * 1 ≤ 140737488351232) :
 Calls Try.prog 6 #[.slice a0 len0 cap0] w fun e w' => e = .returned (.bool true) ∧ Below w.heap.size w w' := by
 obtain ⟨l0, rfl, hr0, hm0, hw0, hc0⟩ := ReadsInt.ofRowC w0
 obtain ⟨k, h⟩ := P l0 hm0 y0 hw0
 refine (laws_FnLevel.calls k _ _ l0 true w (Kd.C_of_reads (d := (0 : Int)) (h1 := fun _ => rfl) hr0) hc0 h).mono ?_
 rintro e w' ⟨rfl, hd⟩
 exact ⟨rfl, hd⟩

end Go.Proofs.Ytdeahlommlgceaa.PFnLevel

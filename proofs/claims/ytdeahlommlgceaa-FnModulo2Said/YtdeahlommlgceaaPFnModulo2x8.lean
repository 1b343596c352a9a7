-- Written by a program of this repo (wip/gen/gen.py) over the kit's print.
-- (slim)
import Derived.Test.YtdeahlommlgceaaPFnModulo2x0
import Derived.Test.YtdeahlommlgceaaPFnModulo2x1
namespace Go.Proofs.Ytdeahlommlgceaa.PFnModulo2
open Go.RowKit Go.Proofs.YtdeahlommlgceaaW.PrintWords Go.Proofs.YtdeahlommlgceaaW.PrintLast Go.Proofs.YtdeahlommlgceaaW.PrintMore
attribute [local go_sem] max2_int min2_int max_two min_two max_three min_three max_four min_four   -- for this text's walks alone
set_option linter.unusedVariables false
set_option linter.unusedSimpArgs false

/-! ### impl_primesOf: function 110 -/
def impl_primesOf.l0 : Nat → Int → List Int → Int → Option (List Int)
 | 0, _, _, _ => none
 | k + 1, x0, x3, x4 => if (wrap64 (x4 * x4)) ≤ x0 then (if x4 = 0 then (none) else (if (Int.tmod x0 x4) = 0 then (if x3.length < 17592186044416 then ((impl_split.f k x0 x4).bind fun bt273 => (impl_primesOf.l0 k bt273.2 (x3 ++ [x4]) (wrap64 (x4 + 1)))) else (none)) else (impl_primesOf.l0 k x0 x3 (wrap64 (x4 + 1))))) else (if x0 > 1 then (if x3.length < 17592186044416 then (some (x3 ++ [x0])) else (none)) else (some x3))
def impl_primesOf.f (k : Nat) (a0 : Int) : Option (List Int) := (impl_size.f a0).bind fun t269 => (impl_primesOf.l0 k t269 (([] : List Int)) 2)
theorem impl_primesOf.mono_l : ∀ k, (∀ y0 y1 y2, LeO (impl_primesOf.l0 k y0 y1 y2) (impl_primesOf.l0 (k + 1) y0 y1 y2))
 | 0 => fun _ _ _ r h => by simp [impl_primesOf.l0] at h
 | k + 1 => by
  have ih0 := impl_primesOf.mono_l k
  · intro y0 y1 y2
    unfold impl_primesOf.l0
    repeat' first
    | (with_reducible exact ih0 _ _ _)
    | (with_reducible exact impl_split.mono _ _ _)
    | (with_reducible exact LeO.refl _)
    | (with_reducible exact LeO.none _)
    | (with_reducible refine LeO.ite ?_ ?_)
    | (with_reducible refine LeO.bind ?_ (fun _ => ?_))
    | exact ih0 _ _ _
    | exact impl_split.mono _ _ _
    | exact LeO.none _
    | refine LeO.ite ?_ ?_
    | refine LeO.bind ?_ (fun _ => ?_)
theorem impl_primesOf.mono : ∀ a0 k, LeO (impl_primesOf.f k a0) (impl_primesOf.f (k + 1) a0) := by
 intro a0 k
 have ih0 := impl_primesOf.mono_l k
 unfold impl_primesOf.f
 repeat' first
  | (with_reducible exact ih0 _ _ _)
  | (with_reducible exact impl_split.mono _ _ _)
  | (with_reducible exact LeO.refl _)
  | (with_reducible exact LeO.none _)
  | (with_reducible refine LeO.ite ?_ ?_)
  | (with_reducible refine LeO.bind ?_ (fun _ => ?_))
  | exact ih0 _ _ _
  | exact impl_split.mono _ _ _
  | exact LeO.none _
  | refine LeO.ite ?_ ?_
  | refine LeO.bind ?_ (fun _ => ?_)
set_option maxHeartbeats 8000000 in
set_option maxRecDepth 100000 in
theorem impl_primesOf.calls (k : Nat) (a0 : Int) (r : List Int) (w : World) (h : impl_primesOf.f k a0 = some r) :
 Calls Try.prog 110 #[.int .i64 a0] w fun e w' => ∃ v0_ : Value, e = .returned (v0_) ∧ Kd.R (Kd.int .i64) 3 w' w.heap.size (fun _ => True) v0_ r ∧ Below w.heap.size w w' := by
 have HB := Aside0.mk (Below.refl w.heap.size w)
 have H : ((impl_size.f a0).bind fun t269 => (impl_primesOf.l0 k t269 (([] : List Int)) 2)) = some r := h
 clear h
 obtain ⟨y266, hy266⟩ : ∃ y_ : List Int, y_ = (([] : List Int)) := ⟨_, rfl⟩
 replace H : ((impl_size.f a0).bind fun t269 => (impl_primesOf.l0 k t269 y266 2)) = some r := by first | (rw [hy266]; with_reducible exact H) | (have H2_ := (Option.bind_some _ _).symm.trans H; rw [hy266]; with_reducible exact H2_) | (have H2_ := (Option.bind_some _ _).symm.trans H; with_reducible exact H2_) | with_reducible exact H | (rw [hy266]; exact H) | exact H
 have Ny266 := Aside0.mk hy266
 clear hy266
 replace H := Option.bind_eq_some_iff.mp H
 obtain ⟨t269, A20, H⟩ := H
 replace H : (impl_primesOf.l0 k t269 y266 2) = some r := H
 have A2 := Aside0.mk A20
 clear A20
 have H' := Aside0.mk H
 clear H
 go_enter Try.func110, Try.ntmps110
 go_wp2_with (first | ((with_reducible refine gate_dst (N := 5) rfl ?_); refine Kd.R_lit (Kd.int .i64) _ 3 ?hg (N := 5) ?hd (xs := ([] : List Int)) (inner := []) (ok := fun _ => True) (okp := fun _ => True) ?hr ?hp (fun _ hk => hk) trivial (Below.refl _ _) (Nat.le_refl _) (by simp) ?_; (case hd => rfl); (case hg => rfl); (case hr => first | (go_simp; done) | (go_simp; rfl)); (case hp => exact (Reps.none _ _)); intro v267 w3 ho4 hb hg_ hnew_; clear hg_ hnew_; (first | rw [← Ny266.out] at ho4 | (simp only [Int.reduceToNat] at ho4; rw [← Ny266.out] at ho4)); have n0_ := Aside0.mk (Kd.R_lower ho4 (below_size (by repeat (first | (with_reducible first | exact HB.out | apply below_alloc | apply pw_below_drewN | apply below_drew1) | exact HB.out)))); have n1_ := Aside0.mk (below_step (by repeat (first | (with_reducible first | exact HB.out | apply below_alloc | apply pw_below_drewN | apply below_drew1) | exact HB.out)) hb); clear HB; have HO268 := n0_; have HB := n1_; clear n0_ n1_; clear hb ho4) | ((with_reducible refine gate_callee (f := 75) rfl ?_); refine goesL_ (some 7) rfl rfl Try.func75 (by kernel_rfl) rfl #[.int .i64 a0] rfl (by (try simp only [List.map_toArray, List.map_cons, List.map_nil]); first | done | rfl | (simp only [List.length_drop, List.length_take]; rfl)) ?_; (with_reducible refine (impl_size.calls a0 t269 _ A2.out).mono ?_); rintro e w5 ⟨rfl, hb⟩; refine ⟨_, rfl, ?_⟩; have n0_ := Aside0.mk (Kd.R_below (by (with_reducible repeat (first | apply Kd.R_alloc | apply Kd.R_drewN | apply Kd.R_drew)); exact HO268.out) hb); have n1_ := Aside0.mk (below_step (by repeat (first | (with_reducible first | exact HB.out | apply below_alloc | apply pw_below_drewN | apply below_drew1) | exact HB.out)) hb); clear HO268; clear HB; have HO268 := n0_; have HB := n1_; clear n0_ n1_; (try clear hb); (try clear hb2); (try clear hk); (try clear hi)))
 go_loopg [0, 3, 4] k (fun kq v0 v3 v4 w' => ∃ (x0_1 : Int) (x3_1 : List Int) (x4_1 : Int), v0 = .int .i64 x0_1 ∧ v4 = .int .i64 x4_1 ∧ Aside0 (impl_primesOf.l0 kq x0_1 x3_1 x4_1 = some r) ∧ Aside0 (kq ≤ k) ∧ Aside0 (Kd.R (Kd.int .i64) 3 w' w.heap.size (fun _ => True) v3 x3_1) ∧ Aside0 (Below w.heap.size w w'))
 case atStart => exact ⟨(t269), (y266), (2), (by first | rfl | (simp; done) | (simp [*]; done)), (by first | rfl | (simp; done) | (simp [*]; done)), H', ⟨Nat.le_refl _⟩, ⟨by (with_reducible repeat (first | apply Kd.R_alloc | apply Kd.R_drewN | apply Kd.R_drew)); exact HO268.out⟩, ⟨by repeat (first | (with_reducible first | exact HB.out | apply below_alloc | apply pw_below_drewN | apply below_drew1) | exact HB.out)⟩⟩
 case round =>
  clear H'
  try clear c1
  try clear p2
  obtain ⟨x0_1, x3_1, x4_1, rfl, rfl, HA, HK1, HO_3, HB⟩ := hrel
  cases gk with
  | zero => exact absurd HA.out (by simp [impl_primesOf.l0])
  | succ k1 =>
   have H := HA.out
   clear HA
   simp only [impl_primesOf.l0] at H
   by_cases c6 : (wrap64 (x4_1 * x4_1)) ≤ x0_1
   · rw [if_pos c6] at H
     have c6b0 : decide ((wrap64 (x4_1 * x4_1)) ≤ x0_1) = true := decide_eq_true c6
     clear c6
     by_cases c7 : x4_1 = 0
     · rw [if_pos c7] at H
       exact absurd H (by simp)
     · rw [if_neg c7] at H
       have c7b0 : (x4_1 == 0) = false := beq_eq_false_iff_ne.mpr c7
       have c7b1 : (x4_1 != 0) = true := bne_iff_ne.mpr c7
       by_cases c8 : (Int.tmod x0_1 x4_1) = 0
       · rw [if_pos c8] at H
         have c8b0 : ((Int.tmod x0_1 x4_1) == 0) = true := beq_iff_eq.mpr c8
         have c8b1 : ((Int.tmod x0_1 x4_1) != 0) = false := bne_eq_false_iff_eq.mpr c8
         clear c8
         by_cases c9 : x3_1.length < 17592186044416
         · rw [if_pos c9] at H
           have LMc9 := Aside0.mk c9
           clear c9
           obtain ⟨y270, hy270⟩ : ∃ y_ : List Int, y_ = (x3_1 ++ [x4_1]) := ⟨_, rfl⟩
           replace H : ((impl_split.f k1 x0_1 x4_1).bind fun bt273 => (impl_primesOf.l0 k1 bt273.2 y270 (wrap64 (x4_1 + 1)))) = some r := by first | (rw [hy270]; with_reducible exact H) | (have H2_ := (Option.bind_some _ _).symm.trans H; rw [hy270]; with_reducible exact H2_) | (have H2_ := (Option.bind_some _ _).symm.trans H; with_reducible exact H2_) | with_reducible exact H | (rw [hy270]; exact H) | exact H
           have Ny270 := Aside0.mk hy270
           clear hy270
           replace H := Option.bind_eq_some_iff.mp H
           obtain ⟨⟨t273, t274⟩, A100, H⟩ := H
           replace H : (impl_primesOf.l0 k1 t274 y270 (wrap64 (x4_1 + 1))) = some r := H
           have A10 := Aside0.mk A100
           clear A100
           have H' := Aside0.mk H
           clear H
           go_wp2_with (first | ((with_reducible refine gate_builtin (b := .append) (xs := #[.tmp 19, .tmp 21]) rfl ?_); at_builtin; refine Kd.R_append (Kd.int .i64) (w0 := w) w.heap.size rfl (.tmp 19) (.tmp 21) 23 3 (.int .i64 0) 8 rfl Try.underlying23 info3 rfl (by decide) (by omega) u3 x3_1 x4_1 [.int .i64 x4_1] (fun _ => True) (fun _ => False) rfl rfl ?aP (fun _ hk => hk.elim) ?aF ?aO ?aB ?aS ?aL ?_; (case aP => exact rfl); (case aB => exact (by repeat (first | (with_reducible first | exact HB.out | apply below_alloc | apply pw_below_drewN | apply below_drew1) | exact HB.out))); (case aF => exact (fun _ _ => trivial)); (case aO => exact (by (with_reducible repeat (first | apply Kd.R_alloc | apply Kd.R_drewN | apply Kd.R_drew)); exact HO_3.out)); (case aS => exact (below_size (by repeat (first | (with_reducible first | exact HB.out | apply below_alloc | apply pw_below_drewN | apply below_drew1) | exact HB.out)))); (case aL => have := LMc9.out; omega); intro v271 w11 ho hb hg hat; rw [← Ny270.out] at ho; have n0_ := Aside0.mk (hb); have n1_ := Aside0.mk (ho); clear HB; clear HO_3; have HB := n0_; have HO272 := n1_; clear n0_ n1_; clear ho hb hg hat) | ((with_reducible refine gate_callee (f := 118) rfl ?_); refine goesL_ (some 26) rfl rfl Try.func118 (by kernel_rfl) rfl #[.int .i64 x0_1, .int .i64 x4_1] rfl (by (try simp only [List.map_toArray, List.map_cons, List.map_nil]); first | done | rfl | (simp only [List.length_drop, List.length_take]; rfl)) ?_; (with_reducible refine (impl_split.calls k1 x0_1 x4_1 t273 t274 _ A10.out).mono ?_); rintro e w' ⟨rfl, ⟨nd, rfl⟩⟩; refine ⟨_, rfl, ?_⟩))
           go_roundg k1
           case measure => have := HK1.out; omega
           case rel => exact ⟨(t274), (y270), (wrap64 (x4_1 + 1)), (by first | rfl | (simp; done) | (simp [*]; done)), (by first | rfl | (simp; done) | (simp [*]; done)), H', ⟨by have := HK1.out; omega⟩, ⟨by (with_reducible repeat (first | apply Kd.R_alloc | apply Kd.R_drewN | apply Kd.R_drew)); exact HO272.out⟩, ⟨by repeat (first | (with_reducible first | exact HB.out | apply below_alloc | apply pw_below_drewN | apply below_drew1) | exact HB.out)⟩⟩
         · rw [if_neg c9] at H
           exact absurd H (by simp)
       · rw [if_neg c8] at H
         have c8b0 : ((Int.tmod x0_1 x4_1) == 0) = false := beq_eq_false_iff_ne.mpr c8
         have c8b1 : ((Int.tmod x0_1 x4_1) != 0) = true := bne_iff_ne.mpr c8
         have H' := Aside0.mk H
         clear H
         go_wp2
         go_roundg k1
         case measure => have := HK1.out; omega
         case rel => exact ⟨(x0_1), (x3_1), (wrap64 (x4_1 + 1)), (by first | rfl | (simp; done) | (simp [*]; done)), (by first | rfl | (simp; done) | (simp [*]; done)), H', ⟨by have := HK1.out; omega⟩, ⟨by (with_reducible repeat (first | apply Kd.R_alloc | apply Kd.R_drewN | apply Kd.R_drew)); exact HO_3.out⟩, ⟨by repeat (first | (with_reducible first | exact HB.out | apply below_alloc | apply pw_below_drewN | apply below_drew1) | exact HB.out)⟩⟩
   · rw [if_neg c6] at H
     have c6b0 : decide ((wrap64 (x4_1 * x4_1)) ≤ x0_1) = false := decide_eq_false c6
     clear c6
     by_cases c12 : x0_1 > 1
     · rw [if_pos c12] at H
       have c12b0 : decide (1 < x0_1) = true := decide_eq_true c12
       clear c12
       by_cases c13 : x3_1.length < 17592186044416
       · rw [if_pos c13] at H
         have LMc13 := Aside0.mk c13
         clear c13
         obtain ⟨y275, hy275⟩ : ∃ y_ : List Int, y_ = (x3_1 ++ [x0_1]) := ⟨_, rfl⟩
         replace H : (some y275) = some r := by first | (rw [hy275]; with_reducible exact H) | (have H2_ := (Option.bind_some _ _).symm.trans H; rw [hy275]; with_reducible exact H2_) | (have H2_ := (Option.bind_some _ _).symm.trans H; with_reducible exact H2_) | with_reducible exact H | (rw [hy275]; exact H) | exact H
         have Ny275 := Aside0.mk hy275
         clear hy275
         obtain rfl := Option.some.inj H
         go_wp2_with (first | ((with_reducible refine gate_builtin (b := .append) (xs := #[.tmp 31, .tmp 33]) rfl ?_); at_builtin; refine Kd.R_append (Kd.int .i64) (w0 := w) w.heap.size rfl (.tmp 31) (.tmp 33) 23 3 (.int .i64 0) 8 rfl Try.underlying23 info3 rfl (by decide) (by omega) u3 x3_1 x0_1 [.int .i64 x0_1] (fun _ => True) (fun _ => False) rfl rfl ?aP (fun _ hk => hk.elim) ?aF ?aO ?aB ?aS ?aL ?_; (case aP => exact rfl); (case aB => exact (by repeat (first | (with_reducible first | exact HB.out | apply below_alloc | apply pw_below_drewN | apply below_drew1) | exact HB.out))); (case aF => exact (fun _ _ => trivial)); (case aO => exact (by (with_reducible repeat (first | apply Kd.R_alloc | apply Kd.R_drewN | apply Kd.R_drew)); exact HO_3.out)); (case aS => exact (below_size (by repeat (first | (with_reducible first | exact HB.out | apply below_alloc | apply pw_below_drewN | apply below_drew1) | exact HB.out)))); (case aL => have := LMc13.out; omega); intro v276 w14 ho hb hg hat; rw [← Ny275.out] at ho; have n0_ := Aside0.mk (hb); have n1_ := Aside0.mk (ho); clear HB; clear HO_3; have HB := n0_; have HO277 := n1_; clear n0_ n1_; clear ho hb hg hat))
         go_ret
         exact ⟨_, by first | rfl | (simp [errW_none, errW_some] <;> rfl) | (simp [*, errW_none, errW_some] <;> rfl), by (with_reducible repeat (first | apply Kd.R_alloc | apply Kd.R_drewN | apply Kd.R_drew)); exact HO277.out, by repeat (first | (with_reducible first | exact HB.out | apply below_alloc | apply pw_below_drewN | apply below_drew1) | exact HB.out)⟩
       · rw [if_neg c13] at H
         exact absurd H (by simp)
     · rw [if_neg c12] at H
       have c12b0 : decide (1 < x0_1) = false := decide_eq_false c12
       clear c12
       obtain rfl := Option.some.inj H
       go_wp2
       go_ret
       exact ⟨_, by first | rfl | (simp [errW_none, errW_some] <;> rfl) | (simp [*, errW_none, errW_some] <;> rfl), by (with_reducible repeat (first | apply Kd.R_alloc | apply Kd.R_drewN | apply Kd.R_drew)); exact HO_3.out, by repeat (first | (with_reducible first | exact HB.out | apply below_alloc | apply pw_below_drewN | apply below_drew1) | exact HB.out)⟩

/-! ### impl_coreOf: function 71 -/
mutual
def impl_coreOf.l0 : Nat → Int → Int → List Int → Int → Int → Option (Int × Int)
 | 0, _, _, _, _, _ => none
 | k + 1, x0, x4, x8, x9, x10 => if x10 < x9 then (if 0 ≤ x10 then (if x10 < (x8.length : Int) then (impl_coreOf.l1 k x0 x4 (rd x8 x10) x8 x9 x10) else (none)) else (none)) else (some (x0, x4))
def impl_coreOf.l1 : Nat → Int → Int → Int → List Int → Int → Int → Option (Int × Int)
 | 0, _, _, _, _, _, _ => none
 | k + 1, x0, x4, x6, x8, x9, x10 => if (wrap64 (x6 * x6)) = 0 then (none) else (if (Int.tmod x0 (wrap64 (x6 * x6))) = 0 then (impl_coreOf.l1 k (wrap64 (Int.tdiv x0 (wrap64 (x6 * x6)))) (wrap64 (x4 * x6)) x6 x8 x9 x10) else (impl_coreOf.l0 k x0 x4 x8 x9 (wrap64 (x10 + 1))))
end
def impl_coreOf.f (k : Nat) (a0 : Int) : Option (Int × Int) := (impl_primesOf.f k a0).bind fun t278 => (impl_coreOf.l0 k a0 1 t278 (t278.length : Int) 0)
theorem impl_coreOf.mono_l : ∀ k, (∀ y0 y1 y2 y3 y4, LeO (impl_coreOf.l0 k y0 y1 y2 y3 y4) (impl_coreOf.l0 (k + 1) y0 y1 y2 y3 y4)) ∧ (∀ y0 y1 y2 y3 y4 y5, LeO (impl_coreOf.l1 k y0 y1 y2 y3 y4 y5) (impl_coreOf.l1 (k + 1) y0 y1 y2 y3 y4 y5))
 | 0 => ⟨fun _ _ _ _ _ r h => by simp [impl_coreOf.l0] at h, fun _ _ _ _ _ _ r h => by simp [impl_coreOf.l1] at h⟩
 | k + 1 => by
  obtain ⟨ih0, ih1⟩ := impl_coreOf.mono_l k
  refine ⟨?_, ?_⟩
  · intro y0 y1 y2 y3 y4
    unfold impl_coreOf.l0
    repeat' first
    | (with_reducible exact ih0 _ _ _ _ _)
    | (with_reducible exact ih1 _ _ _ _ _ _)
    | (with_reducible exact impl_primesOf.mono _ _)
    | (with_reducible exact LeO.refl _)
    | (with_reducible exact LeO.none _)
    | (with_reducible refine LeO.ite ?_ ?_)
    | (with_reducible refine LeO.bind ?_ (fun _ => ?_))
    | exact ih0 _ _ _ _ _
    | exact ih1 _ _ _ _ _ _
    | exact impl_primesOf.mono _ _
    | exact LeO.none _
    | refine LeO.ite ?_ ?_
    | refine LeO.bind ?_ (fun _ => ?_)
  · intro y0 y1 y2 y3 y4 y5
    unfold impl_coreOf.l1
    repeat' first
    | (with_reducible exact ih0 _ _ _ _ _)
    | (with_reducible exact ih1 _ _ _ _ _ _)
    | (with_reducible exact impl_primesOf.mono _ _)
    | (with_reducible exact LeO.refl _)
    | (with_reducible exact LeO.none _)
    | (with_reducible refine LeO.ite ?_ ?_)
    | (with_reducible refine LeO.bind ?_ (fun _ => ?_))
    | exact ih0 _ _ _ _ _
    | exact ih1 _ _ _ _ _ _
    | exact impl_primesOf.mono _ _
    | exact LeO.none _
    | refine LeO.ite ?_ ?_
    | refine LeO.bind ?_ (fun _ => ?_)
theorem impl_coreOf.mono : ∀ a0 k, LeO (impl_coreOf.f k a0) (impl_coreOf.f (k + 1) a0) := by
 intro a0 k
 obtain ⟨ih0, ih1⟩ := impl_coreOf.mono_l k
 unfold impl_coreOf.f
 repeat' first
  | (with_reducible exact ih0 _ _ _ _ _)
  | (with_reducible exact ih1 _ _ _ _ _ _)
  | (with_reducible exact impl_primesOf.mono _ _)
  | (with_reducible exact LeO.refl _)
  | (with_reducible exact LeO.none _)
  | (with_reducible refine LeO.ite ?_ ?_)
  | (with_reducible refine LeO.bind ?_ (fun _ => ?_))
  | exact ih0 _ _ _ _ _
  | exact ih1 _ _ _ _ _ _
  | exact impl_primesOf.mono _ _
  | exact LeO.none _
  | refine LeO.ite ?_ ?_
  | refine LeO.bind ?_ (fun _ => ?_)
set_option maxHeartbeats 8000000 in
set_option maxRecDepth 100000 in
theorem impl_coreOf.calls (k : Nat) (a0 : Int) (r1 : Int) (r2 : Int) (w : World) (h : impl_coreOf.f k a0 = some (r1, r2)) :
 Calls Try.prog 71 #[.int .i64 a0] w fun e w' => e = .returned (.tuple #[.int .i64 r1, .int .i64 r2]) ∧ Below w.heap.size w w' := by
 have HB := Aside0.mk (Below.refl w.heap.size w)
 have H : ((impl_primesOf.f k a0).bind fun t278 => (impl_coreOf.l0 k a0 1 t278 (t278.length : Int) 0)) = some (r1, r2) := h
 clear h
 replace H := Option.bind_eq_some_iff.mp H
 obtain ⟨t278, A20, H⟩ := H
 replace H : (impl_coreOf.l0 k a0 1 t278 (t278.length : Int) 0) = some (r1, r2) := H
 have A2 := Aside0.mk A20
 clear A20
 have H' := Aside0.mk H
 clear H
 go_enter Try.func71, Try.ntmps71
 go_wp2_with (first | ((with_reducible refine gate_callee (f := 110) rfl ?_); refine goesL_ (some 8) rfl rfl Try.func110 (by kernel_rfl) rfl #[.int .i64 a0] rfl (by (try simp only [List.map_toArray, List.map_cons, List.map_nil]); first | done | rfl | (simp only [List.length_drop, List.length_take]; rfl)) ?_; (with_reducible refine (impl_primesOf.calls k a0 t278 _ A2.out).mono ?_); rintro e w3 ⟨v279, rfl, ho0, hb⟩; refine ⟨_, rfl, ?_⟩; have n0_ := Aside0.mk (Kd.R_lower ho0 (below_size (by repeat (first | (with_reducible first | exact HB.out | apply below_alloc | apply pw_below_drewN | apply below_drew1) | exact HB.out)))); have n1_ := Aside0.mk (below_step (by repeat (first | (with_reducible first | exact HB.out | apply below_alloc | apply pw_below_drewN | apply below_drew1) | exact HB.out)) hb); clear HB; have HO280 := n0_; have HB := n1_; clear n0_ n1_; (try clear hb); (try clear hb2); (try clear hk); (try clear hi); (try clear ho0); obtain ⟨Ao4, co4, eo4⟩ := Kd.R_slice HO280.out; subst eo4))
 go_loopg [0, 4, 10] k (fun kq v0 v4 v10 w' => ∃ (x0_1 : Int) (x4_1 : Int) (x10_1 : Int), v0 = .int .i64 x0_1 ∧ v4 = .int .i64 x4_1 ∧ v10 = .int .i64 x10_1 ∧ Aside0 (impl_coreOf.l0 kq x0_1 x4_1 t278 (t278.length : Int) x10_1 = some (r1, r2)) ∧ Aside0 (kq ≤ k) ∧ Aside0 (Kd.R (Kd.int .i64) 3 w' w.heap.size (fun _ => True) (.slice Ao4 t278.length co4) t278) ∧ Aside0 (Below w.heap.size w w'))
 case atStart => exact ⟨(a0), (1), (0), (by first | rfl | (simp; done) | (simp [*]; done)), (by first | rfl | (simp; done) | (simp [*]; done)), (by first | rfl | (simp; done) | (simp [*]; done)), H', ⟨Nat.le_refl _⟩, ⟨by (with_reducible repeat (first | apply Kd.R_alloc | apply Kd.R_drewN | apply Kd.R_drew)); exact HO280.out⟩, ⟨by repeat (first | (with_reducible first | exact HB.out | apply below_alloc | apply pw_below_drewN | apply below_drew1) | exact HB.out)⟩⟩
 case round =>
  clear H'
  try clear c1
  try clear p2
  obtain ⟨x0_1, x4_1, x10_1, rfl, rfl, rfl, HA, HK1, HO_8, HB⟩ := hrel
  cases gk with
  | zero => exact absurd HA.out (by simp [impl_coreOf.l0])
  | succ k1 =>
   have H := HA.out
   clear HA
   simp only [impl_coreOf.l0] at H
   by_cases c5 : x10_1 < (t278.length : Int)
   · rw [if_pos c5] at H
     have c5b0 : decide (x10_1 < (t278.length : Int)) = true := decide_eq_true c5
     clear c5
     by_cases c6 : 0 ≤ x10_1
     · rw [if_pos c6] at H
       have c6b0 : decide (0 ≤ x10_1) = true := decide_eq_true c6
       clear c6
       by_cases c7 : x10_1 < (t278.length : Int)
       · rw [if_pos c7] at H
         have c7b0 : decide (x10_1 < (t278.length : Int)) = true := decide_eq_true c7
         clear c7
         have H' := Aside0.mk H
         clear H
         have p281 : 0 ≤ (x10_1 : Int) := of_decide_eq_true (by first | (with_reducible assumption) | assumption)
         have q281 : x10_1 < (t278.length : Int) := of_decide_eq_true (by first | (with_reducible assumption) | assumption)
         obtain ⟨ad281, e281, hx281_0⟩ := Kd.at_int (Kd.R_reads' HO_8.out).2.2 x10_1 p281 q281
         cases e281
         replace p281 := eq_true p281
         replace q281 := eq_true q281
         go_wp2
         go_loopg [0, 4] k1 (fun kq v0 v4 w' => ∃ (x0_2 : Int) (x4_2 : Int), v0 = .int .i64 x0_2 ∧ v4 = .int .i64 x4_2 ∧ Aside0 (impl_coreOf.l1 kq x0_2 x4_2 (rd t278 x10_1) t278 (t278.length : Int) x10_1 = some (r1, r2)) ∧ Aside0 (kq ≤ k1) ∧ Aside0 (Kd.R (Kd.int .i64) 3 w' w.heap.size (fun _ => True) (.slice (some ad281) t278.length co4) t278) ∧ Aside0 (Below w.heap.size w w'))
         case atStart => exact ⟨(x0_1), (x4_1), (by first | rfl | (simp; done) | (simp [*]; done)), (by first | rfl | (simp; done) | (simp [*]; done)), H', ⟨Nat.le_refl _⟩, ⟨by (with_reducible repeat (first | apply Kd.R_alloc | apply Kd.R_drewN | apply Kd.R_drew)); exact HO_8.out⟩, ⟨by repeat (first | (with_reducible first | exact HB.out | apply below_alloc | apply pw_below_drewN | apply below_drew1) | exact HB.out)⟩⟩
         case round =>
          clear H'
          try clear c1
          try clear p2
          try clear q2
          try clear hx2
          try clear c5
          try clear c5b0
          try clear c6
          try clear c6b0
          try clear c7
          try clear c7b0
          try clear hx281_0
          try clear p2
          try clear p281
          try clear q281
          obtain ⟨x0_2, x4_2, rfl, rfl, HA, HK2, HO_8, HB⟩ := hrel
          cases gk with
          | zero => exact absurd HA.out (by simp [impl_coreOf.l1])
          | succ k2 =>
           have H := HA.out
           clear HA
           simp only [impl_coreOf.l1] at H
           by_cases c8 : (wrap64 ((rd t278 x10_1) * (rd t278 x10_1))) = 0
           · rw [if_pos c8] at H
             exact absurd H (by simp)
           · rw [if_neg c8] at H
             have c8b0 : ((wrap64 ((rd t278 x10_1) * (rd t278 x10_1))) == 0) = false := beq_eq_false_iff_ne.mpr c8
             have c8b1 : ((wrap64 ((rd t278 x10_1) * (rd t278 x10_1))) != 0) = true := bne_iff_ne.mpr c8
             by_cases c9 : (Int.tmod x0_2 (wrap64 ((rd t278 x10_1) * (rd t278 x10_1)))) = 0
             · rw [if_pos c9] at H
               have c9b0 : ((Int.tmod x0_2 (wrap64 ((rd t278 x10_1) * (rd t278 x10_1)))) == 0) = true := beq_iff_eq.mpr c9
               have c9b1 : ((Int.tmod x0_2 (wrap64 ((rd t278 x10_1) * (rd t278 x10_1)))) != 0) = false := bne_eq_false_iff_eq.mpr c9
               clear c9
               have H' := Aside0.mk H
               clear H
               go_wp2
               go_roundg k2
               case measure => have := HK1.out; have := HK2.out; omega
               case rel => exact ⟨(wrap64 (Int.tdiv x0_2 (wrap64 ((rd t278 x10_1) * (rd t278 x10_1))))), (wrap64 (x4_2 * (rd t278 x10_1))), (by first | rfl | (simp; done) | (simp [*]; done)), (by first | rfl | (simp; done) | (simp [*]; done)), H', ⟨by have := HK1.out; have := HK2.out; omega⟩, ⟨by (with_reducible repeat (first | apply Kd.R_alloc | apply Kd.R_drewN | apply Kd.R_drew)); exact HO_8.out⟩, ⟨by repeat (first | (with_reducible first | exact HB.out | apply below_alloc | apply pw_below_drewN | apply below_drew1) | exact HB.out)⟩⟩
             · rw [if_neg c9] at H
               have c9b0 : ((Int.tmod x0_2 (wrap64 ((rd t278 x10_1) * (rd t278 x10_1)))) == 0) = false := beq_eq_false_iff_ne.mpr c9
               have c9b1 : ((Int.tmod x0_2 (wrap64 ((rd t278 x10_1) * (rd t278 x10_1)))) != 0) = true := bne_iff_ne.mpr c9
               have H' := Aside0.mk H
               clear H
               go_wp2
               go_roundg k2
               case measure => have := HK1.out; have := HK2.out; omega
               case rel => exact ⟨(x0_2), (x4_2), (wrap64 (x10_1 + 1)), (by first | rfl | (simp; done) | (simp [*]; done)), (by first | rfl | (simp; done) | (simp [*]; done)), (by first | rfl | (simp; done) | (simp [*]; done)), H', ⟨by have := HK1.out; have := HK2.out; omega⟩, ⟨by (with_reducible repeat (first | apply Kd.R_alloc | apply Kd.R_drewN | apply Kd.R_drew)); exact HO_8.out⟩, ⟨by repeat (first | (with_reducible first | exact HB.out | apply below_alloc | apply pw_below_drewN | apply below_drew1) | exact HB.out)⟩⟩
       · rw [if_neg c7] at H
         exact absurd H (by simp)
     · rw [if_neg c6] at H
       exact absurd H (by simp)
   · rw [if_neg c5] at H
     have c5b0 : decide (x10_1 < (t278.length : Int)) = false := decide_eq_false c5
     clear c5
     simp only [Option.some.injEq, Prod.mk.injEq] at H
     obtain ⟨rfl, rfl⟩ := H
     go_wp2
     go_ret2
     exact ⟨by first | rfl | (simp [errW_none, errW_some] <;> rfl) | (simp [*, errW_none, errW_some] <;> rfl), by repeat (first | (with_reducible first | exact HB.out | apply below_alloc | apply pw_below_drewN | apply below_drew1) | exact HB.out)⟩

/-! ### impl_isNumber: function 78 -/
def impl_isNumber.f (a0 : Int) : Option (Bool) := if a0 ≥ (-5000) then (some (decide (a0 ≤ 5000))) else (some false)
set_option maxHeartbeats 8000000 in
set_option maxRecDepth 100000 in
theorem impl_isNumber.calls (a0 : Int) (r : Bool) (w : World) (h : impl_isNumber.f a0 = some r) :
 Calls Try.prog 78 #[.int .i64 a0] w fun e w' => e = .returned (.bool r) ∧ Drawn0 w w' := by
 have H : (if a0 ≥ (-5000) then (some (decide (a0 ≤ 5000))) else (some false)) = some r := h
 clear h
 by_cases c2 : a0 ≥ (-5000)
 · rw [if_pos c2] at H
   have c2b0 : decide ((-5000) ≤ a0) = true := decide_eq_true c2
   clear c2
   obtain rfl := Option.some.inj H
   go_enter Try.func78, Try.ntmps78
   go_wp2
   go_ret
   exact ⟨by first | rfl | (simp; done) | (simp [*]; done), by repeat (first | exact Drawn0.refl _ | apply Drawn0.step)⟩
 · rw [if_neg c2] at H
   have c2b0 : decide ((-5000) ≤ a0) = false := decide_eq_false c2
   clear c2
   obtain rfl := Option.some.inj H
   go_enter Try.func78, Try.ntmps78
   go_wp2
   go_ret
   exact ⟨by first | rfl | (simp; done) | (simp [*]; done), by repeat (first | exact Drawn0.refl _ | apply Drawn0.step)⟩

/-! ### impl_FormTimes: function 96 -/
mutual
def impl_FormTimes.j0 : Nat → List Int → Int → Bool → Option (List Int × Bool)
 | 0, _, _, _ => none
 | k + 1, x0, x1, x22 => if x22 = true then (some (([] : List Int), false)) else (impl_FormTimes.l0 k x1 (([] : List Int)) x0 (x0.length : Int) 0)
def impl_FormTimes.l0 : Nat → Int → List Int → List Int → Int → Int → Option (List Int × Bool)
 | 0, _, _, _, _, _ => none
 | k + 1, x1, x6, x24, x25, x26 => if x26 < x25 then (if 0 ≤ x26 then (if x26 < (x24.length : Int) then ((impl_coreOf.f k (wrap64 ((rd x24 x26) * x1))).bind fun bt288 => (if x6.length < 17592186044416 then (impl_FormTimes.l0 k x1 (x6 ++ [bt288.1]) x24 x25 (wrap64 (x26 + 1))) else (none))) else (none)) else (none)) else ((impl_FormValid.f k x6).bind fun t293 => (if t293 = true then (some (x6, true)) else (some (([] : List Int), false))))
end
def impl_FormTimes.f (k : Nat) (l0 : List Int) (a1 : Int) : Option (List Int × Bool) := (impl_FormValid.f k l0).bind fun t282 => (if t282 = true then (if a1 = 0 then (impl_FormTimes.j0 k l0 a1 true) else ((impl_isNumber.f a1).bind fun t283 => (impl_FormTimes.j0 k l0 a1 (!t283)))) else (impl_FormTimes.j0 k l0 a1 true))
theorem impl_FormTimes.mono_l : ∀ k, (∀ y0 y1 y2, LeO (impl_FormTimes.j0 k y0 y1 y2) (impl_FormTimes.j0 (k + 1) y0 y1 y2)) ∧ (∀ y0 y1 y2 y3 y4, LeO (impl_FormTimes.l0 k y0 y1 y2 y3 y4) (impl_FormTimes.l0 (k + 1) y0 y1 y2 y3 y4))
 | 0 => ⟨fun _ _ _ r h => by simp [impl_FormTimes.j0] at h, fun _ _ _ _ _ r h => by simp [impl_FormTimes.l0] at h⟩
 | k + 1 => by
  obtain ⟨ih0, ih1⟩ := impl_FormTimes.mono_l k
  refine ⟨?_, ?_⟩
  · intro y0 y1 y2
    unfold impl_FormTimes.j0
    repeat' first
    | (with_reducible exact ih0 _ _ _)
    | (with_reducible exact ih1 _ _ _ _ _)
    | (with_reducible exact impl_FormValid.mono _ _)
    | (with_reducible exact impl_coreOf.mono _ _)
    | (with_reducible exact LeO.refl _)
    | (with_reducible exact LeO.none _)
    | (with_reducible refine LeO.ite ?_ ?_)
    | (with_reducible refine LeO.bind ?_ (fun _ => ?_))
    | exact ih0 _ _ _
    | exact ih1 _ _ _ _ _
    | exact impl_FormValid.mono _ _
    | exact impl_coreOf.mono _ _
    | exact LeO.none _
    | refine LeO.ite ?_ ?_
    | refine LeO.bind ?_ (fun _ => ?_)
  · intro y0 y1 y2 y3 y4
    unfold impl_FormTimes.l0
    repeat' first
    | (with_reducible exact ih0 _ _ _)
    | (with_reducible exact ih1 _ _ _ _ _)
    | (with_reducible exact impl_FormValid.mono _ _)
    | (with_reducible exact impl_coreOf.mono _ _)
    | (with_reducible exact LeO.refl _)
    | (with_reducible exact LeO.none _)
    | (with_reducible refine LeO.ite ?_ ?_)
    | (with_reducible refine LeO.bind ?_ (fun _ => ?_))
    | exact ih0 _ _ _
    | exact ih1 _ _ _ _ _
    | exact impl_FormValid.mono _ _
    | exact impl_coreOf.mono _ _
    | exact LeO.none _
    | refine LeO.ite ?_ ?_
    | refine LeO.bind ?_ (fun _ => ?_)
theorem impl_FormTimes.mono : ∀ a0 a1 k, LeO (impl_FormTimes.f k a0 a1) (impl_FormTimes.f (k + 1) a0 a1) := by
 intro a0 a1 k
 obtain ⟨ih0, ih1⟩ := impl_FormTimes.mono_l k
 unfold impl_FormTimes.f
 repeat' first
  | (with_reducible exact ih0 _ _ _)
  | (with_reducible exact ih1 _ _ _ _ _)
  | (with_reducible exact impl_FormValid.mono _ _)
  | (with_reducible exact impl_coreOf.mono _ _)
  | (with_reducible exact LeO.refl _)
  | (with_reducible exact LeO.none _)
  | (with_reducible refine LeO.ite ?_ ?_)
  | (with_reducible refine LeO.bind ?_ (fun _ => ?_))
  | exact ih0 _ _ _
  | exact ih1 _ _ _ _ _
  | exact impl_FormValid.mono _ _
  | exact impl_coreOf.mono _ _
  | exact LeO.none _
  | refine LeO.ite ?_ ?_
  | refine LeO.bind ?_ (fun _ => ?_)
set_option maxHeartbeats 8000000 in
set_option maxRecDepth 100000 in
theorem impl_FormTimes.calls (k : Nat) (A0 : Option Addr) (c0 : Nat) (l0 : List Int) (a1 : Int) (r1 : List Int) (r2 : Bool) (w : World) (hr0 : Kd.C (Kd.int .i64) w A0 l0.length l0) (hc0 : l0.length ≤ c0) (h : impl_FormTimes.f k l0 a1 = some (r1, r2)) :
 Calls Try.prog 96 #[.slice A0 l0.length c0, .int .i64 a1] w fun e w' => ∃ v0_ : Value, e = .returned (.tuple #[v0_, .bool r2]) ∧ Kd.R (Kd.int .i64) 3 w' w.heap.size (fun _ => True) v0_ r1 ∧ Below w.heap.size w w' := by
 have HR0 := Aside0.mk hr0
 have HC0 := Aside0.mk hc0
 clear hr0 hc0
 have HB := Aside0.mk (Below.refl w.heap.size w)
 have H : ((impl_FormValid.f k l0).bind fun t282 => (if t282 = true then (if a1 = 0 then (impl_FormTimes.j0 k l0 a1 true) else ((impl_isNumber.f a1).bind fun t283 => (impl_FormTimes.j0 k l0 a1 (!t283)))) else (impl_FormTimes.j0 k l0 a1 true))) = some (r1, r2) := h
 clear h
 have HC3 := Aside0.mk H
 clear H
 go_enter Try.func96, Try.ntmps96
 go_upto_region 1 with (fail)
 go_cut [22] (fun v22 wc => ∃ (kq : Nat) (x22_2 : Bool), v22 = .bool x22_2 ∧ Aside0 (impl_FormTimes.j0 kq l0 a1 x22_2 = some (r1, r2)) ∧ Aside0 (kq ≤ k) ∧ Aside0 (Below w.heap.size w wc))
 case first =>
  have H := HC3.out
  clear HC3
  replace H := Option.bind_eq_some_iff.mp H
  obtain ⟨t282, A40, H⟩ := H
  replace H : (if t282 = true then (if a1 = 0 then (impl_FormTimes.j0 k l0 a1 true) else ((impl_isNumber.f a1).bind fun t283 => (impl_FormTimes.j0 k l0 a1 (!t283)))) else (impl_FormTimes.j0 k l0 a1 true)) = some (r1, r2) := H
  have A4 := Aside0.mk A40
  clear A40
  by_cases c5 : t282 = true
  · subst c5
    have H1 : (if a1 = 0 then (impl_FormTimes.j0 k l0 a1 true) else ((impl_isNumber.f a1).bind fun t283 => (impl_FormTimes.j0 k l0 a1 (!t283)))) = some (r1, r2) := by rw [if_pos rfl] at H; exact H
    clear H
    have H := H1
    clear H1
    by_cases c6 : a1 = 0
    · rw [if_pos c6] at H
      have c6b0 : (a1 == 0) = true := beq_iff_eq.mpr c6
      have c6b1 : (a1 != 0) = false := bne_eq_false_iff_eq.mpr c6
      clear c6
      (first | rw [c6b0] | (simp only [i64_w, i32_w]; rw [c6b0]) | skip)
      have H' := Aside0.mk H
      clear H
      go_wp2_with (first | ((with_reducible refine gate_callee (f := 57) rfl ?_); refine goesL_ (some 12) rfl rfl Try.func57 (by kernel_rfl) rfl #[.slice A0 l0.length c0] rfl (by (try simp only [List.map_toArray, List.map_cons, List.map_nil]); first | done | rfl | (simp only [List.length_drop, List.length_take]; rfl)) ?_; (with_reducible refine (impl_FormValid.calls k _ _ l0 true _ ?side1 ?side2 A4.out).mono ?_); (case side1 => repeat (first | exact (Kd.C_below HR0.out HB.out) | (with_reducible refine Kd.C_alloc ?_ _) | (with_reducible refine Kd.C_drewN ?_ _) | (with_reducible refine Kd.C_drew ?_))); (case side2 => exact HC0.out); rintro e w7 ⟨rfl, hb⟩; refine ⟨_, rfl, ?_⟩; have n0_ := Aside0.mk (below_step (by repeat (first | (with_reducible first | exact HB.out | apply below_alloc | apply pw_below_drewN | apply below_drew1) | exact HB.out)) hb); clear HB; have HB := n0_; clear n0_; (try clear hb); (try clear hb2); (try clear hk); (try clear hi)))
      go_meet
      case rel => exact ⟨_, (true), (by first | rfl | (simp; done) | (simp [*]; done)), H', ⟨by first | omega | exact Nat.le_refl _⟩, ⟨by repeat (first | (with_reducible first | exact HB.out | apply below_alloc | apply pw_below_drewN | apply below_drew1) | exact HB.out)⟩⟩
    · rw [if_neg c6] at H
      have c6b0 : (a1 == 0) = false := beq_eq_false_iff_ne.mpr c6
      have c6b1 : (a1 != 0) = true := bne_iff_ne.mpr c6
      (first | rw [c6b0] | (simp only [i64_w, i32_w]; rw [c6b0]) | skip)
      replace H := Option.bind_eq_some_iff.mp H
      obtain ⟨t283, A80, H⟩ := H
      replace H : (impl_FormTimes.j0 k l0 a1 (!t283)) = some (r1, r2) := H
      have A8 := Aside0.mk A80
      clear A80
      have H' := Aside0.mk H
      clear H
      go_wp2_with (first | ((with_reducible refine gate_callee (f := 57) rfl ?_); refine goesL_ (some 12) rfl rfl Try.func57 (by kernel_rfl) rfl #[.slice A0 l0.length c0] rfl (by (try simp only [List.map_toArray, List.map_cons, List.map_nil]); first | done | rfl | (simp only [List.length_drop, List.length_take]; rfl)) ?_; (with_reducible refine (impl_FormValid.calls k _ _ l0 true _ ?side1 ?side2 A4.out).mono ?_); (case side1 => repeat (first | exact (Kd.C_below HR0.out HB.out) | (with_reducible refine Kd.C_alloc ?_ _) | (with_reducible refine Kd.C_drewN ?_ _) | (with_reducible refine Kd.C_drew ?_))); (case side2 => exact HC0.out); rintro e w9 ⟨rfl, hb⟩; refine ⟨_, rfl, ?_⟩; have n0_ := Aside0.mk (below_step (by repeat (first | (with_reducible first | exact HB.out | apply below_alloc | apply pw_below_drewN | apply below_drew1) | exact HB.out)) hb); clear HB; have HB := n0_; clear n0_; (try clear hb); (try clear hb2); (try clear hk); (try clear hi)) | (go_at_call 78; (with_reducible refine (impl_isNumber.calls a1 t283 _ A8.out).mono ?_); rintro e w' ⟨rfl, ⟨nd, rfl⟩⟩))
      go_meet
      case rel => exact ⟨_, (!t283), (by first | rfl | (simp; done) | (simp [*]; done)), H', ⟨by first | omega | exact Nat.le_refl _⟩, ⟨by repeat (first | (with_reducible first | exact HB.out | apply below_alloc | apply pw_below_drewN | apply below_drew1) | exact HB.out)⟩⟩
  · replace c5 := Bool.eq_false_iff.mpr c5
    subst c5
    have H1 : (impl_FormTimes.j0 k l0 a1 true) = some (r1, r2) := by rw [if_neg (show ¬ (false = true) by decide)] at H; exact H
    clear H
    have H := H1
    clear H1
    have H' := Aside0.mk H
    clear H
    go_wp2_with (first | ((with_reducible refine gate_callee (f := 57) rfl ?_); refine goesL_ (some 12) rfl rfl Try.func57 (by kernel_rfl) rfl #[.slice A0 l0.length c0] rfl (by (try simp only [List.map_toArray, List.map_cons, List.map_nil]); first | done | rfl | (simp only [List.length_drop, List.length_take]; rfl)) ?_; (with_reducible refine (impl_FormValid.calls k _ _ l0 false _ ?side1 ?side2 A4.out).mono ?_); (case side1 => repeat (first | exact (Kd.C_below HR0.out HB.out) | (with_reducible refine Kd.C_alloc ?_ _) | (with_reducible refine Kd.C_drewN ?_ _) | (with_reducible refine Kd.C_drew ?_))); (case side2 => exact HC0.out); rintro e w10 ⟨rfl, hb⟩; refine ⟨_, rfl, ?_⟩; have n0_ := Aside0.mk (below_step (by repeat (first | (with_reducible first | exact HB.out | apply below_alloc | apply pw_below_drewN | apply below_drew1) | exact HB.out)) hb); clear HB; have HB := n0_; clear n0_; (try clear hb); (try clear hb2); (try clear hk); (try clear hi)))
    go_meet
    case rel => exact ⟨_, (true), (by first | rfl | (simp; done) | (simp [*]; done)), H', ⟨by first | omega | exact Nat.le_refl _⟩, ⟨by repeat (first | (with_reducible first | exact HB.out | apply below_alloc | apply pw_below_drewN | apply below_drew1) | exact HB.out)⟩⟩
 case rest =>
  clear HC3
  try clear p2
  try clear c5
  try clear c6
  try clear c6b0
  try clear c6b1
  try clear c9
  obtain ⟨kq, x22_2, rfl, HA, HJ2, HB⟩ := hcut
  cases kq with
  | zero => exact absurd HA.out (by simp [impl_FormTimes.j0])
  | succ kj2 =>
   have H := HA.out
   clear HA
   simp only [impl_FormTimes.j0] at H
   by_cases c11 : x22_2 = true
   · subst c11
     have H1 : (some (([] : List Int), false)) = some (r1, r2) := by rw [if_pos rfl] at H; exact H
     clear H
     have H := H1
     clear H1
     simp only [Option.some.injEq, Prod.mk.injEq] at H
     obtain ⟨rfl, rfl⟩ := H
     go_wp2
     go_ret2
     exact ⟨_, by first | rfl | (simp [errW_none, errW_some] <;> rfl) | (simp [*, errW_none, errW_some] <;> rfl), by first | exact Kd.R_nil _ _ _ _ _ | exact Kd.N_nil _ _ _ _ _ | exact Kd.V_nil _ _ _ _ _ | exact Kd.Q_nil _ _ _ _ _ | exact Kd.S_nil _ _ _ _ _, by repeat (first | (with_reducible first | exact HB.out | apply below_alloc | apply pw_below_drewN | apply below_drew1) | exact HB.out)⟩
   · replace c11 := Bool.eq_false_iff.mpr c11
     subst c11
     have H1 : (impl_FormTimes.l0 kj2 a1 (([] : List Int)) l0 (l0.length : Int) 0) = some (r1, r2) := by rw [if_neg (show ¬ (false = true) by decide)] at H; exact H
     clear H
     have H := H1
     clear H1
     obtain ⟨y284, hy284⟩ : ∃ y_ : List Int, y_ = (([] : List Int)) := ⟨_, rfl⟩
     replace H : (impl_FormTimes.l0 kj2 a1 y284 l0 (l0.length : Int) 0) = some (r1, r2) := by first | (rw [hy284]; with_reducible exact H) | (have H2_ := (Option.bind_some _ _).symm.trans H; rw [hy284]; with_reducible exact H2_) | (have H2_ := (Option.bind_some _ _).symm.trans H; with_reducible exact H2_) | with_reducible exact H | (rw [hy284]; exact H) | exact H
     have Ny284 := Aside0.mk hy284
     clear hy284
     have H' := Aside0.mk H
     clear H
     go_wp2_with (first | ((with_reducible refine gate_dst (N := 23) rfl ?_); refine Kd.R_lit (Kd.int .i64) _ 3 ?hg (N := 23) ?hd (xs := ([] : List Int)) (inner := []) (ok := fun _ => True) (okp := fun _ => True) ?hr ?hp (fun _ hk => hk) trivial (Below.refl _ _) (Nat.le_refl _) (by simp) ?_; (case hd => rfl); (case hg => rfl); (case hr => first | (go_simp; done) | (go_simp; rfl)); (case hp => exact (Reps.none _ _)); intro v285 w12 ho13 hb hg_ hnew_; clear hg_ hnew_; (first | rw [← Ny284.out] at ho13 | (simp only [Int.reduceToNat] at ho13; rw [← Ny284.out] at ho13)); have n0_ := Aside0.mk (Kd.R_lower ho13 (below_size (by repeat (first | (with_reducible first | exact HB.out | apply below_alloc | apply pw_below_drewN | apply below_drew1) | exact HB.out)))); have n1_ := Aside0.mk (below_step (by repeat (first | (with_reducible first | exact HB.out | apply below_alloc | apply pw_below_drewN | apply below_drew1) | exact HB.out)) hb); clear HB; have HO286 := n0_; have HB := n1_; clear n0_ n1_; clear hb ho13))
     go_loopg [6, 26] kj2 (fun kq v6 v26 w' => ∃ (x6_2 : List Int) (x26_2 : Int), v26 = .int .i64 x26_2 ∧ Aside0 (impl_FormTimes.l0 kq a1 x6_2 l0 (l0.length : Int) x26_2 = some (r1, r2)) ∧ Aside0 (kq ≤ kj2) ∧ Aside0 (Kd.R (Kd.int .i64) 3 w' w.heap.size (fun _ => True) v6 x6_2) ∧ Aside0 (Below w.heap.size w w'))
     case atStart => exact ⟨(y284), (0), (by first | rfl | (simp; done) | (simp [*]; done)), H', ⟨Nat.le_refl _⟩, ⟨by (with_reducible repeat (first | apply Kd.R_alloc | apply Kd.R_drewN | apply Kd.R_drew)); exact HO286.out⟩, ⟨by repeat (first | (with_reducible first | exact HB.out | apply below_alloc | apply pw_below_drewN | apply below_drew1) | exact HB.out)⟩⟩
     case round =>
      clear H'
      try clear c1
      try clear p2
      try clear c5
      try clear c6
      try clear c6b0
      try clear c6b1
      try clear c9
      try clear c11
      try clear p2
      obtain ⟨x6_2, x26_2, rfl, HA, HK2, HO_6, HB⟩ := hrel
      cases gk with
      | zero => exact absurd HA.out (by simp [impl_FormTimes.l0])
      | succ k2 =>
       have H := HA.out
       clear HA
       simp only [impl_FormTimes.l0] at H
       by_cases c14 : x26_2 < (l0.length : Int)
       · rw [if_pos c14] at H
         have c14b0 : decide (x26_2 < (l0.length : Int)) = true := decide_eq_true c14
         clear c14
         by_cases c15 : 0 ≤ x26_2
         · rw [if_pos c15] at H
           have c15b0 : decide (0 ≤ x26_2) = true := decide_eq_true c15
           clear c15
           by_cases c16 : x26_2 < (l0.length : Int)
           · rw [if_pos c16] at H
             have c16b0 : decide (x26_2 < (l0.length : Int)) = true := decide_eq_true c16
             clear c16
             replace H := Option.bind_eq_some_iff.mp H
             obtain ⟨⟨t288, t289⟩, A170, H⟩ := H
             replace H : (if x6_2.length < 17592186044416 then (impl_FormTimes.l0 k2 a1 (x6_2 ++ [t288]) l0 (l0.length : Int) (wrap64 (x26_2 + 1))) else (none)) = some (r1, r2) := H
             have A17 := Aside0.mk A170
             clear A170
             by_cases c18 : x6_2.length < 17592186044416
             · rw [if_pos c18] at H
               have LMc18 := Aside0.mk c18
               clear c18
               obtain ⟨y290, hy290⟩ : ∃ y_ : List Int, y_ = (x6_2 ++ [t288]) := ⟨_, rfl⟩
               replace H : (impl_FormTimes.l0 k2 a1 y290 l0 (l0.length : Int) (wrap64 (x26_2 + 1))) = some (r1, r2) := by first | (rw [hy290]; with_reducible exact H) | (have H2_ := (Option.bind_some _ _).symm.trans H; rw [hy290]; with_reducible exact H2_) | (have H2_ := (Option.bind_some _ _).symm.trans H; with_reducible exact H2_) | with_reducible exact H | (rw [hy290]; exact H) | exact H
               have Ny290 := Aside0.mk hy290
               clear hy290
               have H' := Aside0.mk H
               clear H
               have p287 : 0 ≤ (x26_2 : Int) := of_decide_eq_true (by first | (with_reducible assumption) | assumption)
               have q287 : x26_2 < (l0.length : Int) := of_decide_eq_true (by first | (with_reducible assumption) | assumption)
               obtain ⟨ad287, e287, hx287_0⟩ := Kd.at_int HR0.out x26_2 p287 q287
               cases e287
               replace hx287_0 := (HB.out.cell (World.block_lt_of_cell? w _ hx287_0)).trans hx287_0
               replace p287 := eq_true p287
               replace q287 := eq_true q287
               go_wp2_with (first | ((with_reducible refine gate_callee (f := 71) rfl ?_); refine goesL_ (some 34) rfl rfl Try.func71 (by kernel_rfl) rfl #[.int .i64 (wrap64 ((rd l0 x26_2) * a1))] rfl (by (try simp only [List.map_toArray, List.map_cons, List.map_nil]); first | done | rfl | (simp only [List.length_drop, List.length_take]; rfl)) ?_; (with_reducible refine (impl_coreOf.calls k2 (wrap64 ((rd l0 x26_2) * a1)) t288 t289 _ A17.out).mono ?_); rintro e w19 ⟨rfl, hb⟩; refine ⟨_, rfl, ?_⟩; have n0_ := Aside0.mk (Kd.R_below (by (with_reducible repeat (first | apply Kd.R_alloc | apply Kd.R_drewN | apply Kd.R_drew)); exact HO_6.out) hb); have n1_ := Aside0.mk (below_step (by repeat (first | (with_reducible first | exact HB.out | apply below_alloc | apply pw_below_drewN | apply below_drew1) | exact HB.out)) hb); clear HO_6; clear HB; have HO_6 := n0_; have HB := n1_; clear n0_ n1_; (try clear hb); (try clear hb2); (try clear hk); (try clear hi)) | ((with_reducible refine gate_builtin (b := .append) (xs := #[.tmp 37, .tmp 39]) rfl ?_); at_builtin; refine Kd.R_append (Kd.int .i64) (w0 := w) w.heap.size rfl (.tmp 37) (.tmp 39) 23 3 (.int .i64 0) 8 rfl Try.underlying23 info3 rfl (by decide) (by omega) u6 x6_2 t288 [.int .i64 t288] (fun _ => True) (fun _ => False) rfl rfl ?aP (fun _ hk => hk.elim) ?aF ?aO ?aB ?aS ?aL ?_; (case aP => exact rfl); (case aB => exact (by repeat (first | (with_reducible first | exact HB.out | apply below_alloc | apply pw_below_drewN | apply below_drew1) | exact HB.out))); (case aF => exact (fun _ _ => trivial)); (case aO => exact (by (with_reducible repeat (first | apply Kd.R_alloc | apply Kd.R_drewN | apply Kd.R_drew)); exact HO_6.out)); (case aS => exact (below_size (by repeat (first | (with_reducible first | exact HB.out | apply below_alloc | apply pw_below_drewN | apply below_drew1) | exact HB.out)))); (case aL => have := LMc18.out; omega); intro v291 w20 ho hb hg hat; rw [← Ny290.out] at ho; have n0_ := Aside0.mk (hb); have n1_ := Aside0.mk (ho); clear HB; clear HO_6; have HB := n0_; have HO292 := n1_; clear n0_ n1_; clear ho hb hg hat))
               go_roundg k2
               case measure => have := HJ2.out; have := HK2.out; omega
               case rel => exact ⟨(y290), (wrap64 (x26_2 + 1)), (by first | rfl | (simp; done) | (simp [*]; done)), H', ⟨by have := HJ2.out; have := HK2.out; omega⟩, ⟨by (with_reducible repeat (first | apply Kd.R_alloc | apply Kd.R_drewN | apply Kd.R_drew)); exact HO292.out⟩, ⟨by repeat (first | (with_reducible first | exact HB.out | apply below_alloc | apply pw_below_drewN | apply below_drew1) | exact HB.out)⟩⟩
             · rw [if_neg c18] at H
               exact absurd H (by simp)
           · rw [if_neg c16] at H
             exact absurd H (by simp)
         · rw [if_neg c15] at H
           exact absurd H (by simp)
       · rw [if_neg c14] at H
         have c14b0 : decide (x26_2 < (l0.length : Int)) = false := decide_eq_false c14
         clear c14
         replace H := Option.bind_eq_some_iff.mp H
         obtain ⟨t293, A210, H⟩ := H
         replace H : (if t293 = true then (some (x6_2, true)) else (some (([] : List Int), false))) = some (r1, r2) := H
         have A21 := Aside0.mk A210
         clear A210
         by_cases c22 : t293 = true
         · subst c22
           have H1 : (some (x6_2, true)) = some (r1, r2) := by rw [if_pos rfl] at H; exact H
           clear H
           have H := H1
           clear H1
           simp only [Option.some.injEq, Prod.mk.injEq] at H
           obtain ⟨rfl, rfl⟩ := H
           obtain ⟨Ao23, co23, eo23⟩ := Kd.R_slice HO_6.out
           subst eo23
           go_wp2_with (first | ((with_reducible refine gate_callee (f := 57) rfl ?_); refine goesL_ (some 43) rfl rfl Try.func57 (by kernel_rfl) rfl #[.slice Ao23 x6_2.length co23] rfl (by (try simp only [List.map_toArray, List.map_cons, List.map_nil]); first | done | rfl | (simp only [List.length_drop, List.length_take]; rfl)) ?_; (with_reducible refine (impl_FormValid.calls k2 _ _ x6_2 true _ ?side1 ?side2 A21.out).mono ?_); (case side1 => repeat (first | exact (Kd.R_reads' HO_6.out).2.2 | (with_reducible refine Kd.C_alloc ?_ _) | (with_reducible refine Kd.C_drewN ?_ _) | (with_reducible refine Kd.C_drew ?_))); (case side2 => exact (Kd.R_reads' HO_6.out).2.1); rintro e w24 ⟨rfl, hb⟩; refine ⟨_, rfl, ?_⟩; have n0_ := Aside0.mk (Kd.R_below (by (with_reducible repeat (first | apply Kd.R_alloc | apply Kd.R_drewN | apply Kd.R_drew)); exact HO_6.out) hb); have n1_ := Aside0.mk (below_step (by repeat (first | (with_reducible first | exact HB.out | apply below_alloc | apply pw_below_drewN | apply below_drew1) | exact HB.out)) hb); clear HO_6; clear HB; have HO_6 := n0_; have HB := n1_; clear n0_ n1_; (try clear hb); (try clear hb2); (try clear hk); (try clear hi)))
           go_ret2
           exact ⟨_, by first | rfl | (simp [errW_none, errW_some] <;> rfl) | (simp [*, errW_none, errW_some] <;> rfl), by (with_reducible repeat (first | apply Kd.R_alloc | apply Kd.R_drewN | apply Kd.R_drew)); exact HO_6.out, by repeat (first | (with_reducible first | exact HB.out | apply below_alloc | apply pw_below_drewN | apply below_drew1) | exact HB.out)⟩
         · replace c22 := Bool.eq_false_iff.mpr c22
           subst c22
           have H1 : (some (([] : List Int), false)) = some (r1, r2) := by rw [if_neg (show ¬ (false = true) by decide)] at H; exact H
           clear H
           have H := H1
           clear H1
           simp only [Option.some.injEq, Prod.mk.injEq] at H
           obtain ⟨rfl, rfl⟩ := H
           obtain ⟨Ao25, co25, eo25⟩ := Kd.R_slice HO_6.out
           subst eo25
           go_wp2_with (first | ((with_reducible refine gate_callee (f := 57) rfl ?_); refine goesL_ (some 43) rfl rfl Try.func57 (by kernel_rfl) rfl #[.slice Ao25 x6_2.length co25] rfl (by (try simp only [List.map_toArray, List.map_cons, List.map_nil]); first | done | rfl | (simp only [List.length_drop, List.length_take]; rfl)) ?_; (with_reducible refine (impl_FormValid.calls k2 _ _ x6_2 false _ ?side1 ?side2 A21.out).mono ?_); (case side1 => repeat (first | exact (Kd.R_reads' HO_6.out).2.2 | (with_reducible refine Kd.C_alloc ?_ _) | (with_reducible refine Kd.C_drewN ?_ _) | (with_reducible refine Kd.C_drew ?_))); (case side2 => exact (Kd.R_reads' HO_6.out).2.1); rintro e w26 ⟨rfl, hb⟩; refine ⟨_, rfl, ?_⟩; have n0_ := Aside0.mk (Kd.R_below (by (with_reducible repeat (first | apply Kd.R_alloc | apply Kd.R_drewN | apply Kd.R_drew)); exact HO_6.out) hb); have n1_ := Aside0.mk (below_step (by repeat (first | (with_reducible first | exact HB.out | apply below_alloc | apply pw_below_drewN | apply below_drew1) | exact HB.out)) hb); clear HO_6; clear HB; have HO_6 := n0_; have HB := n1_; clear n0_ n1_; (try clear hb); (try clear hb2); (try clear hk); (try clear hi)))
           go_ret2
           exact ⟨_, by first | rfl | (simp [errW_none, errW_some] <;> rfl) | (simp [*, errW_none, errW_some] <;> rfl), by first | exact Kd.R_nil _ _ _ _ _ | exact Kd.N_nil _ _ _ _ _ | exact Kd.V_nil _ _ _ _ _ | exact Kd.Q_nil _ _ _ _ _ | exact Kd.S_nil _ _ _ _ _, by repeat (first | (with_reducible first | exact HB.out | apply below_alloc | apply pw_below_drewN | apply below_drew1) | exact HB.out)⟩

/-! ### impl_FormCores: function 39 -/
def impl_FormCores.f (k : Nat) (l0 : List Int) : Option (List Int × Bool) := (impl_FormTimes.f k l0 1).bind fun bt294 => (some (bt294.1, bt294.2))
theorem impl_FormCores.mono : ∀ a0 k, LeO (impl_FormCores.f k a0) (impl_FormCores.f (k + 1) a0) := by
 intro a0 k
 unfold impl_FormCores.f
 repeat' first
  | (with_reducible exact impl_FormTimes.mono _ _ _)
  | (with_reducible exact LeO.refl _)
  | (with_reducible exact LeO.none _)
  | (with_reducible refine LeO.ite ?_ ?_)
  | (with_reducible refine LeO.bind ?_ (fun _ => ?_))
  | exact impl_FormTimes.mono _ _ _
  | exact LeO.none _
  | refine LeO.ite ?_ ?_
  | refine LeO.bind ?_ (fun _ => ?_)
set_option maxHeartbeats 8000000 in
set_option maxRecDepth 100000 in
theorem impl_FormCores.calls (k : Nat) (A0 : Option Addr) (c0 : Nat) (l0 : List Int) (r1 : List Int) (r2 : Bool) (w : World) (hr0 : Kd.C (Kd.int .i64) w A0 l0.length l0) (hc0 : l0.length ≤ c0) (h : impl_FormCores.f k l0 = some (r1, r2)) :
 Calls Try.prog 39 #[.slice A0 l0.length c0] w fun e w' => ∃ v0_ : Value, e = .returned (.tuple #[v0_, .bool r2]) ∧ Kd.R (Kd.int .i64) 3 w' w.heap.size (fun _ => True) v0_ r1 ∧ Below w.heap.size w w' := by
 have HR0 := Aside0.mk hr0
 have HC0 := Aside0.mk hc0
 clear hr0 hc0
 have HB := Aside0.mk (Below.refl w.heap.size w)
 have H : ((impl_FormTimes.f k l0 1).bind fun bt294 => (some (bt294.1, bt294.2))) = some (r1, r2) := h
 clear h
 replace H := Option.bind_eq_some_iff.mp H
 obtain ⟨⟨t294, t295⟩, A20, H⟩ := H
 replace H : (some (t294, t295)) = some (r1, r2) := H
 have A2 := Aside0.mk A20
 clear A20
 simp only [Option.some.injEq, Prod.mk.injEq] at H
 obtain ⟨rfl, rfl⟩ := H
 go_enter Try.func39, Try.ntmps39
 go_wp2_with (first | ((with_reducible refine gate_callee (f := 96) rfl ?_); refine goesL_ (some 5) rfl rfl Try.func96 (by kernel_rfl) rfl #[.slice A0 l0.length c0, .int .i64 1] rfl (by (try simp only [List.map_toArray, List.map_cons, List.map_nil]); first | done | rfl | (simp only [List.length_drop, List.length_take]; rfl)) ?_; (with_reducible refine (impl_FormTimes.calls k _ _ l0 1 t294 t295 _ ?side1 ?side2 A2.out).mono ?_); (case side1 => repeat (first | exact HR0.out | (with_reducible refine Kd.C_alloc ?_ _) | (with_reducible refine Kd.C_drewN ?_ _) | (with_reducible refine Kd.C_drew ?_))); (case side2 => exact HC0.out); rintro e w3 ⟨v296, rfl, ho0, hb⟩; refine ⟨_, rfl, ?_⟩; have n0_ := Aside0.mk (Kd.R_lower ho0 (below_size (by repeat (first | (with_reducible first | exact HB.out | apply below_alloc | apply pw_below_drewN | apply below_drew1) | exact HB.out)))); have n1_ := Aside0.mk (below_step (by repeat (first | (with_reducible first | exact HB.out | apply below_alloc | apply pw_below_drewN | apply below_drew1) | exact HB.out)) hb); clear HB; have HO297 := n0_; have HB := n1_; clear n0_ n1_; (try clear hb); (try clear hb2); (try clear hk); (try clear hi); (try clear ho0)))
 go_ret2
 exact ⟨_, by first | rfl | (simp [errW_none, errW_some] <;> rfl) | (simp [*, errW_none, errW_some] <;> rfl), by (with_reducible repeat (first | apply Kd.R_alloc | apply Kd.R_drewN | apply Kd.R_drew)); exact HO297.out, by repeat (first | (with_reducible first | exact HB.out | apply below_alloc | apply pw_below_drewN | apply below_drew1) | exact HB.out)⟩

end Go.Proofs.Ytdeahlommlgceaa.PFnModulo2

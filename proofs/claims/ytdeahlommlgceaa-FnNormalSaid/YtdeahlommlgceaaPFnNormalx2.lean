-- Written by a program of this repo (wip/gen/gen.py) over the kit's print.
-- (slim)
import Derived.Test.YtdeahlommlgceaaPFnNormalx0
import Derived.Test.YtdeahlommlgceaaPFnNormalx1
namespace Go.Proofs.Ytdeahlommlgceaa.PFnNormal
open Go.RowKit Go.Proofs.YtdeahlommlgceaaW.PrintWords Go.Proofs.YtdeahlommlgceaaW.PrintLast Go.Proofs.YtdeahlommlgceaaW.PrintMore
attribute [local go_sem] max2_int min2_int max_two min_two max_three min_three max_four min_four   -- for this text's walks alone
set_option linter.unusedVariables false
set_option maxHeartbeats 8000000
set_option maxRecDepth 100000
set_option linter.unusedSimpArgs false

/-! ### spec_l92Form: function 70 -/
mutual
def spec_l92Form.j1 : Nat → List Int → List Int → Int → Option (List Int × Int)
 | 0, _, _, _ => none
 | k + 1, x5, x1000, x1001 => if (x5.length : Int) = 3 then ((spec_l6Rd_pick.f k x1000 x1001 2).bind fun bt153 => (if bt153.1 = 0 then ((spec_FormValid.f k x5).bind fun t155 => (spec_l92Form.j2 k x5 t155 x1000 bt153.2)) else (spec_l92Form.j2 k x5 false x1000 bt153.2))) else (spec_l92Form.j2 k x5 false x1000 x1001)
def spec_l92Form.j2 : Nat → List Int → Bool → List Int → Int → Option (List Int × Int)
 | 0, _, _, _, _ => none
 | k + 1, x5, x33, x1000, x1001 => if x33 = true then (if 0 < (x5.length : Int) then ((spec_l6Rd_pick.f k x1000 x1001 2).bind fun bt157 => (if 1 < (x5.length : Int) then (if (wrap64 ((wrap64 (-(wrap64 ((rd x5 0) * (wrap64 (1 + bt157.1)))))) - (rd x5 1))) = 0 then (some (x5, bt157.2)) else ((spec_l1Size.f (wrap64 ((wrap64 (-(wrap64 ((rd x5 0) * (wrap64 (1 + bt157.1)))))) - (rd x5 1)))).bind fun t160 => (if t160 ≤ 30 then (if 2 < (x5.length : Int) then (some ((x5.set (2 : Int).toNat (wrap64 ((wrap64 (-(wrap64 ((rd x5 0) * (wrap64 (1 + bt157.1)))))) - (rd x5 1)))), bt157.2)) else (none)) else (some (x5, bt157.2))))) else (none))) else (none)) else (some (x5, x1001))
def spec_l92Form.l0 : Nat → Int → List Int → List Int → Int → Option (List Int × Int)
 | 0, _, _, _, _ => none
 | k + 1, x1, x5, x1000, x1001 => if (x5.length : Int) < x1 then (if (x5.length : Int) > 0 then ((spec_l91Form.f k x1000 x1001 1).bind fun bt146 => (if x5.length + bt146.1.length < 17592186044416 then (spec_l92Form.l0 k x1 (x5 ++ bt146.1) x1000 bt146.2) else (none))) else (spec_l92Form.j1 k x5 x1000 x1001)) else (spec_l92Form.j1 k x5 x1000 x1001)
end
def spec_l92Form.f (k : Nat) (s0_0 : List Int) (s0_1 : Int) (a1 : Int) : Option (List Int × Int) := (spec_l91Form.f k s0_0 s0_1 1).bind fun bt142 => (spec_l92Form.l0 k a1 bt142.1 s0_0 bt142.2)
theorem spec_l92Form.mono_l : ∀ k, (∀ y0 y1 y2, LeO (spec_l92Form.j1 k y0 y1 y2) (spec_l92Form.j1 (k + 1) y0 y1 y2)) ∧ (∀ y0 y1 y2 y3, LeO (spec_l92Form.j2 k y0 y1 y2 y3) (spec_l92Form.j2 (k + 1) y0 y1 y2 y3)) ∧ (∀ y0 y1 y2 y3, LeO (spec_l92Form.l0 k y0 y1 y2 y3) (spec_l92Form.l0 (k + 1) y0 y1 y2 y3))
 | 0 => ⟨fun _ _ _ r h => by simp [spec_l92Form.j1] at h, fun _ _ _ _ r h => by simp [spec_l92Form.j2] at h, fun _ _ _ _ r h => by simp [spec_l92Form.l0] at h⟩
 | k + 1 => by
  obtain ⟨ih0, ih1, ih2⟩ := spec_l92Form.mono_l k
  refine ⟨?_, ?_, ?_⟩
  · intro y0 y1 y2
    unfold spec_l92Form.j1
    exact mo_
  · intro y0 y1 y2 y3
    unfold spec_l92Form.j2
    exact mo_
  intro y0 y1 y2 y3
  unfold spec_l92Form.l0
  exact mo_
theorem spec_l92Form.mono : ∀ a0 a1 a2 k, LeO (spec_l92Form.f k a0 a1 a2) (spec_l92Form.f (k + 1) a0 a1 a2) := by
 intro a0 a1 a2 k
 obtain ⟨ih0, ih1, ih2⟩ := spec_l92Form.mono_l k
 unfold spec_l92Form.f
 exact mo_
def spec_l92Form.T5 : Bool × List (List Nat × List Nat) := (true, [([], []), ([0], [0]), ([1], [1]), ([], []), ([3], [3]), ([4], [4]), ([2, 5], [2, 5]), ([6], [6]), ([], []), ([8], [8]), ([9], [9]), ([7, 10], [7, 10]), ([11, 4, 0, 1, 2, 3, 4, 5, 6, 7, 8, 9, 10, 11], [11])])
def spec_l92Form.B5 : List Nat := [0, 1, 3, 0, 8, 24, 63, 127, 0, 256, 768, 2047, 4095]
theorem spec_l92Form.tab5 : rtab .any (opsOf Try.f70 5) = spec_l92Form.T5 := by kernel_rfl
theorem spec_l92Form.bits5 : waitsOk spec_l92Form.T5.2 spec_l92Form.B5 = true := by kernel_rfl
theorem spec_l92Form.calls (k : Nat) (g : Nat) (s0_0 : List Int) (s0_1 : Int) (a1 : Int) (r1 : List Int) (r2 : Int) (w0 w : World) (hI : IsS81 w0 w g s0_0 s0_1) (hB : Below w0.heap.size w0 w) (h : spec_l92Form.f k s0_0 s0_1 a1 = some (r1, r2)) :
 Calls Try.prog 70 #[.pointer (some ⟨g, 0, none⟩), .int .i64 a1] w fun e w' => ∃ v0_ : Value, e = .returned (v0_) ∧ Kd.R (Kd.int .i64) 3 w' w.heap.size (fun _ => True) v0_ r1 ∧ IsS81 w0 w' g s0_0 r2 ∧ Below w0.heap.size w0 w' ∧ KeepBut w w' g none := by
 have HI0 := Aside0.mk hI
 have HK := Aside0.mk (KeepBut.refl w g none)
 have HL := Aside0.mk hB.size
 clear hI
 have HW0 := Aside0.mk hB.size
 have HB := Aside0.mk hB
 clear hB
 have H := h
 clear h
 unfold spec_l92Form.f at H
 obtain ⟨⟨t142, t145⟩, A3, H⟩ := bi_ H
 try dsimp only at H
 have HC4 := Aside0.mk H
 clear H
 go_enter Try.func70, Try.ntmps70
 go_upto_block 0 with (first | ((with_reducible refine gate_callee (f := 69) rfl ?_); refine goesL_ (some 8) rfl rfl Try.func69 (by kernel_rfl) rfl #[.pointer (some ⟨g, 0, none⟩), .int .i64 1] rfl z14_ ?_; (with_reducible refine (spec_l91Form.calls k g s0_0 s0_1 1 t142 t145 w0 _ ?side1 ?side2 A3.out).mono ?_); (case side1 => exact z10_); (case side2 => exact z2_); rintro e w5 ⟨v143, rfl, ho0, hi, hb, hk⟩; refine ⟨_, rfl, ?_⟩; have HO144:= Aside0.mk (Kd.R_lower ho0 (keep_size (w := w) (g := g) (row := none) z11_)); replace HK:= Aside0.mk (KeepBut.trans z11_ hk (.inl rfl)); replace HB:= Aside0.mk (hb); replace HI0:= Aside0.mk (hi); clear hb hk hi ho0))
 go_cut [5] (fun v5 wc => ∃ (kq : Nat) (x5_3 : List Int) (x1001_3 : Int), Aside0 (spec_l92Form.j1 kq x5_3 s0_0 x1001_3 = some (r1, r2)) ∧ Aside0 (kq ≤ k) ∧ Aside0 (Kd.R (Kd.int .i64) 3 wc w.heap.size (fun _ => True) v5 x5_3) ∧ Aside0 (IsS81 w0 wc g s0_0 x1001_3) ∧ Aside0 (KeepBut w wc g none) ∧ Aside0 (Below w0.heap.size w0 wc))
 case first =>
  have H := HC4.out
  clear HC4
  have H' := Aside0.mk H
  clear H
  go_wp2
  go_loopg [5] k (fun kq v5 w' => ∃ (x5_1 : List Int) (x1001_1 : Int), Aside0 (spec_l92Form.l0 kq a1 x5_1 s0_0 x1001_1 = some (r1, r2)) ∧ Aside0 (kq ≤ k) ∧ Aside0 (Kd.R (Kd.int .i64) 3 w' w.heap.size (fun _ => True) v5 x5_1) ∧ Aside0 (IsS81 w0 w' g s0_0 x1001_1) ∧ Aside0 (KeepBut w w' g none) ∧ Aside0 (Below w0.heap.size w0 w'))
  case atStart => exact ⟨(t142), (t145), H', ⟨Nat.le_refl _⟩, ⟨by (with_reducible repeat (first | apply Kd.R_alloc | apply Kd.R_drewN | apply Kd.R_drew)); exact HO144.out⟩, ⟨z10_⟩, ⟨z11_⟩, ⟨z2_⟩⟩
  case round =>
   clear H'
   obtain ⟨x5_1, x1001_1, HA, HK1, HO_5, HI0, HK, HB⟩ := hrel
   cases gk with
   | zero => exact absurd HA.out (by simp [spec_l92Form.l0])
   | succ k1 =>
    have H := HA.out
    clear HA
    simp only [spec_l92Form.l0] at H
    by_cases c6 : (x5_1.length : Int) < a1
    rotate_left
    · rw [if_neg c6] at H
      have c6b0 := decide_eq_false c6
      clear c6
      (first | rw [c6b0] | (simp only [i64_w, i32_w]; rw [c6b0]) | skip)
      have H' := Aside0.mk H
      clear H
      obtain ⟨Ao15, co15, eo15⟩ := Kd.R_slice HO_5.out
      subst eo15
      go_wp2
      go_meet
      case rel => exact ⟨_, (x5_1), (x1001_1), H', ⟨by have := HK1.out; first | omega | exact Nat.le_refl _⟩, ⟨z23_⟩, ⟨z10_⟩, ⟨z11_⟩, ⟨z2_⟩⟩
    rw [if_pos c6] at H
    have c6b0 := decide_eq_true c6
    clear c6
    (first | rw [c6b0] | (simp only [i64_w, i32_w]; rw [c6b0]) | skip)
    by_cases c7 : (x5_1.length : Int) > 0
    rotate_left
    · rw [if_neg c7] at H
      have c7b0 := decide_eq_false c7
      have c7b1 : decide (0 < x5_1.length) = false := decide_eq_false (by omega)
      clear c7
      have H' := Aside0.mk H
      clear H
      obtain ⟨Ao14, co14, eo14⟩ := Kd.R_slice HO_5.out
      subst eo14
      go_wp2
      go_meet
      case rel => exact ⟨_, (x5_1), (x1001_1), H', ⟨by have := HK1.out; first | omega | exact Nat.le_refl _⟩, ⟨z23_⟩, ⟨z10_⟩, ⟨z11_⟩, ⟨z2_⟩⟩
    rw [if_pos c7] at H
    have c7b0 := decide_eq_true c7
    have c7b1 : decide (0 < x5_1.length) = true := decide_eq_true (by omega)
    clear c7
    obtain ⟨⟨t146, t149⟩, A8, H⟩ := bi_ H
    try dsimp only at H
    obtain ⟨c9, H⟩ := in_ H
    have LMc9 := Aside0.mk c9
    clear c9
    generalize h_ : (x5_1 ++ t146) = y150 at H
    have Ny150 := Aside0.mk h_.symm
    clear h_
    have H' := Aside0.mk H
    clear H
    obtain ⟨Ao10, co10, eo10⟩ := Kd.R_slice HO_5.out
    subst eo10
    go_wp2_with (first | ((with_reducible refine gate_callee (f := 69) rfl ?_); refine goesL_ (some 20) rfl rfl Try.func69 (by kernel_rfl) rfl #[.pointer (some ⟨g, 0, none⟩), .int .i64 1] rfl z14_ ?_; (with_reducible refine (spec_l91Form.calls k1 g s0_0 x1001_1 1 t146 t149 w0 _ ?side1 ?side2 A8.out).mono ?_); (case side1 => exact z10_); (case side2 => exact z2_); rintro e w11 ⟨v147, rfl, ho0, hi, hb, hk⟩; refine ⟨_, rfl, ?_⟩; have HO148:= Aside0.mk (Kd.R_lower (Kd.R_new' ho0 (Kd.R_lt z23_)) (keep_size (w := w) (g := g) (row := none) z11_)); replace HO_5:= Aside0.mk (Kd.R_mono (Kd.R_told (Kd.R_oldK (IsS81.apart (show IsS81 w0 _ g s0_0 x1001_1 from by repeat (first | (with_reducible first | exact HI0.out | apply IsS81.alloc | apply IsS81.drewN | apply IsS81.drew | apply IsS81.set_1) | exact HI0.out)) z23_ (by decide)) hk) (Kd.R_base ho0)) (fun _ h_ => h_.1)); replace HK:= Aside0.mk (KeepBut.trans z11_ hk (.inl rfl)); replace HB:= Aside0.mk (hb); replace HI0:= Aside0.mk (hi); clear hb hk hi ho0; obtain ⟨Ao13, co13, eo13⟩ := Kd.R_slice HO148.out; subst eo13) | ((with_reducible refine gate_builtin (b := .append) (xs := #[.tmp 18, .tmp 20]) rfl ?_); (try (refine gate_guard (by rfl) ?_; dsimp only)); at_builtin; refine Kd.R_append_rows (Kd.int .i64) w.heap.size rfl (.tmp 18) (.tmp 20) 23 3 (.int .i64 0) 8 rfl Try.underlying23 info3 rfl (by decide) (by omega) (.slice Ao10 x5_1.length co10) x5_1 t146 _ _ _ (fun k_ => some k_ ≠ (.slice Ao13 t146.length co13 : Value).ownBlock) (fun _ => False) rfl rfl ?aO ?aR (fun _ _ h => h) (fun _ h => h.elim) ?aF (Below.refl _ _) ?aS ?aL ?_; (case aR => repeat (first | exact (Kd.R_reads' HO148.out).2.2 | (with_reducible refine Kd.C_alloc ?_ _) | (with_reducible refine Kd.C_drewN ?_ _) | (with_reducible refine Kd.C_drew ?_))); (case aF => exact (fun k_ hk => Kd.fresh' (Kd.R_lt (by (with_reducible repeat (first | apply Kd.R_alloc | apply Kd.R_drewN | apply Kd.R_drew)); exact HO148.out)) k_ hk)); (case aO => exact z17_); (case aS => exact (keep_size (w := w) (g := g) (row := none) z11_)); (case aL => have := LMc9.out; omega); intro v151 w12 ho hb hg hat; rw [← Ny150.out] at ho; replace HO148:= Aside0.mk (Kd.R_after (ok := (fun _ => True)) (by (with_reducible repeat (first | apply Kd.R_alloc | apply Kd.R_drewN | apply Kd.R_drew)); exact HO148.out) hg hat); replace HB:= Aside0.mk (below_weaken z2_ HL.out hb); replace HI0:= Aside0.mk (IsS81.grown z10_ hg (IsS81.own_ne HI0.out HO_5.out (by decide))); replace HK:= Aside0.mk (KeepBut.trans z11_ (KeepBut.of_grown hg g) (Kd.R_base2 HO_5.out)); have HO152:= Aside0.mk (ho); clear HO_5; clear ho hb hg hat))
    go_roundg k1
    case measure => have := HK1.out; omega
    case rel => exact ⟨(y150), (t149), H', ⟨by have := HK1.out; omega⟩, ⟨by (with_reducible repeat (first | apply Kd.R_alloc | apply Kd.R_drewN | apply Kd.R_drew)); exact Kd.R_mono HO152.out (fun _ hk => trivial)⟩, ⟨z10_⟩, ⟨z11_⟩, ⟨z2_⟩⟩
 case rest =>
  clear HC4
  obtain ⟨kq, x5_3, x1001_3, HA, HJ3, HO_5, HI0, HK, HB⟩ := hcut
  cases kq with
  | zero => exact absurd HA.out (by simp [spec_l92Form.j1])
  | succ kj3 =>
   have H := HA.out
   clear HA
   simp only [spec_l92Form.j1] at H
   have HC16 := Aside0.mk H
   clear H
   go_upto_region 4 with (fail)
   go_cut [33] (fun v33 wc => ∃ (kq : Nat) (x33_15 : Bool) (x1001_15 : Int), v33 = .bool x33_15 ∧ Aside0 (spec_l92Form.j2 kq x5_3 x33_15 s0_0 x1001_15 = some (r1, r2)) ∧ Aside0 (kq ≤ kj3) ∧ Aside0 (Kd.R (Kd.int .i64) 3 wc w.heap.size (fun _ => True) u5 x5_3) ∧ Aside0 (IsS81 w0 wc g s0_0 x1001_15) ∧ Aside0 (KeepBut w wc g none) ∧ Aside0 (Below w0.heap.size w0 wc))
   case first =>
    have H := HC16.out
    clear HC16
    by_cases c17 : (x5_3.length : Int) = 3
    rotate_left
    · rw [if_neg c17] at H
      have c17b0 := beq_eq_false_iff_ne.mpr c17
      have c17b1 := bne_iff_ne.mpr c17
      (first | rw [c17b0] | (simp only [i64_w, i32_w]; rw [c17b0]) | skip)
      have H' := Aside0.mk H
      clear H
      obtain ⟨Ao25, co25, eo25⟩ := Kd.R_slice HO_5.out
      subst eo25
      go_wp2
      go_meet
      case rel => exact ⟨_, (false), (x1001_3), z32_, H', ⟨by have := HJ3.out; first | omega | exact Nat.le_refl _⟩, ⟨z23_⟩, ⟨z10_⟩, ⟨z11_⟩, ⟨z2_⟩⟩
    rw [if_pos c17] at H
    have c17b0 := beq_iff_eq.mpr c17
    have c17b1 := bne_eq_false_iff_eq.mpr c17
    clear c17
    (first | rw [c17b0] | (simp only [i64_w, i32_w]; rw [c17b0]) | skip)
    obtain ⟨⟨t153, t154⟩, A18, H⟩ := bi_ H
    try dsimp only at H
    by_cases c19 : t153 = 0
    · rw [if_pos c19] at H
      have c19b0 := beq_iff_eq.mpr c19
      have c19b1 := bne_eq_false_iff_eq.mpr c19
      clear c19
      obtain ⟨t155, A20, H⟩ := bi_ H
      have H' := Aside0.mk H
      clear H
      obtain ⟨Ao21, co21, eo21⟩ := Kd.R_slice HO_5.out
      subst eo21
      go_wp2_with (first | (go_at_call 68; (with_reducible refine (spec_l6Rd_pick.calls kj3 g s0_0 x1001_3 2 t153 t154 w0 _ ?side1 ?side2 A18.out).mono ?_); (case side1 => exact z10_); (case side2 => exact z2_); rintro e w22 ⟨rfl, hi, hb, hk⟩; replace HO_5:= Aside0.mk (Kd.R_mono (Kd.R_keep (IsS81.apart (show IsS81 w0 _ g s0_0 x1001_3 from by repeat (first | (with_reducible first | exact HI0.out | apply IsS81.alloc | apply IsS81.drewN | apply IsS81.drew | apply IsS81.set_1) | exact HI0.out)) z23_ (by decide)) hk (fun _ h => h.2)) (fun _ h => h.1)); replace HK:= Aside0.mk (KeepBut.trans z11_ hk (.inl rfl)); replace HB:= Aside0.mk (hb); replace HI0:= Aside0.mk (hi); clear hi hb hk) | (go_at_call 73; (with_reducible refine (spec_FormValid.calls kj3 _ _ x5_3 t155 _ ?side1 ?side2 A20.out).mono ?_); (case side1 => repeat (first | exact (Kd.R_reads' HO_5.out).2.2 | (with_reducible refine Kd.C_alloc ?_ _) | (with_reducible refine Kd.C_drewN ?_ _) | (with_reducible refine Kd.C_drew ?_))); (case side2 => exact (Kd.R_reads' HO_5.out).2.1); rintro e w' ⟨rfl, ⟨nd, rfl⟩⟩))
      go_meet
      case rel => exact ⟨_, (t155), (t154), z32_, H', ⟨by have := HJ3.out; first | omega | exact Nat.le_refl _⟩, ⟨z23_⟩, ⟨z10_⟩, ⟨z11_⟩, ⟨z2_⟩⟩
    rw [if_neg c19] at H
    have c19b0 := beq_eq_false_iff_ne.mpr c19
    have c19b1 := bne_iff_ne.mpr c19
    have H' := Aside0.mk H
    clear H
    obtain ⟨Ao23, co23, eo23⟩ := Kd.R_slice HO_5.out
    subst eo23
    go_wp2_with (first | (go_at_call 68; (with_reducible refine (spec_l6Rd_pick.calls kj3 g s0_0 x1001_3 2 t153 t154 w0 _ ?side1 ?side2 A18.out).mono ?_); (case side1 => exact z10_); (case side2 => exact z2_); rintro e w24 ⟨rfl, hi, hb, hk⟩; replace HO_5:= Aside0.mk (Kd.R_mono (Kd.R_keep (IsS81.apart (show IsS81 w0 _ g s0_0 x1001_3 from by repeat (first | (with_reducible first | exact HI0.out | apply IsS81.alloc | apply IsS81.drewN | apply IsS81.drew | apply IsS81.set_1) | exact HI0.out)) z23_ (by decide)) hk (fun _ h => h.2)) (fun _ h => h.1)); replace HK:= Aside0.mk (KeepBut.trans z11_ hk (.inl rfl)); replace HB:= Aside0.mk (hb); replace HI0:= Aside0.mk (hi); clear hi hb hk))
    go_meet
    case rel => exact ⟨_, (false), (t154), z32_, H', ⟨by have := HJ3.out; first | omega | exact Nat.le_refl _⟩, ⟨z23_⟩, ⟨z10_⟩, ⟨z11_⟩, ⟨z2_⟩⟩
   case rest =>
    clear HC16
    obtain ⟨kq, x33_15, x1001_15, rfl, HA, HJ15, HO_5, HI0, HK, HB⟩ := hcut
    cases kq with
    | zero => exact absurd HA.out (by simp [spec_l92Form.j2])
    | succ kj15 =>
     have H := HA.out
     clear HA
     simp only [spec_l92Form.j2] at H
     by_cases c26 : x33_15 = true
     rotate_left
     · replace c26 := Bool.eq_false_iff.mpr c26
       subst c26
       rw [jt_] at H
       simp only [Option.some.injEq, Prod.mk.injEq] at H
       obtain ⟨rfl, rfl⟩ := H
       go_wp2
       go_ret
       exact ⟨_, z29_, z23_, z10_, z2_, z11_⟩
     subst c26
     rw [it_] at H
     obtain ⟨c27, H⟩ := in_ H
     have c27b0 := decide_eq_true c27
     have c27b1 : decide (0 < x5_3.length) = true := decide_eq_true (by omega)
     clear c27
     obtain ⟨⟨t157, t158⟩, A28, H⟩ := bi_ H
     try dsimp only at H
     obtain ⟨c29, H⟩ := in_ H
     have c29b0 := decide_eq_true c29
     have c29b1 : decide (1 < x5_3.length) = true := decide_eq_true (by omega)
     clear c29
     by_cases c30 : (wrap64 ((wrap64 (-(wrap64 ((rd x5_3 0) * (wrap64 (1 + t157)))))) - (rd x5_3 1))) = 0
     · rw [if_pos c30] at H
       have c30b0 := beq_iff_eq.mpr c30
       have c30b1 := bne_eq_false_iff_eq.mpr c30
       clear c30
       simp only [Option.some.injEq, Prod.mk.injEq] at H
       obtain ⟨rfl, rfl⟩ := H
       go_wp2
       replace HO_5:= Aside0.mk (Kd.R_drew HO_5.out)
       replace HI0:= Aside0.mk (IsS81.drew HI0.out)
       replace HK:= Aside0.mk (keep_drew HK.out)
       replace HB:= Aside0.mk (below_drew1 HB.out)
       obtain ⟨Ao32, co32, eo32⟩ := Kd.R_slice HO_5.out
       (first | subst eo32 | (injection eo32 with f1_ f2_ f3_; have f4_ := f1_.symm; have f5_ := f3_.symm; clear f1_ f2_ f3_; subst f4_; subst f5_))
       have p156 : 0 ≤ (0 : Int) := (by omega)
       have q156 : 0 < (x5_3.length : Int) := of_decide_eq_true z31_
       obtain ⟨ad156, e156, hx156_0⟩ := Kd.at_int (Kd.R_reads' HO_5.out).2.2 0 p156 q156
       cases e156
       have qi156 : (0 < x5_3.length) = True := eq_true (by omega)
       rw [show ((0 : Int)).toNat = 0 from rfl] at hx156_0
       rw [Addr.add_zero'] at hx156_0
       replace p156 := eq_true p156
       replace q156 := eq_true q156
       have p159 : 0 ≤ (1 : Int) := (by omega)
       have q159 : 1 < (x5_3.length : Int) := of_decide_eq_true z31_
       obtain ⟨ad159, e159, hx159_0⟩ := Kd.at_int (Kd.R_reads' HO_5.out).2.2 1 p159 q159
       obtain rfl : ad156 = ad159 := (by injection e159)
       simp only [show (1 : Int).toNat = 1 from rfl, Nat.reduceMul, Nat.reduceEqDiff, Go.Addr.add, ↓reduceIte] at hx159_0
       have qi159 : (1 < x5_3.length) = True := eq_true (by omega)
       replace p159 := eq_true p159
       replace q159 := eq_true q159
       refine start_ (n := 13) (S := fun w' => w'.cell? ad156 = some (.int .i64 (rd x5_3 0)) ∧ w'.cell? ⟨ad156.block, ad156.off + 1, none⟩ = some (.int .i64 (rd x5_3 1))) (ds := []) (bs_ 13 0) (by kernel_rfl) rfl rfl ⟨hx156_0, hx159_0⟩ (fun hHeld => ?_); refine with_tabW spec_l92Form.tab5 spec_l92Form.bits5 (fun HT_ HW_ => ?_)
       generalize wc.drew = w31 at HO_5 HI0 HK HB hx156_0 hx159_0 hHeld ⊢
       refine pz_ 0 34 13 1 HT_ ?_
       refine pz_ 1 35 13 3 HT_ ?_
       refine pz_ 3 37 13 11 HT_ ?_
       refine pz_ 8 42 13 267 HT_ ?_
       refine pz_ 9 43 13 779 HT_ ?_
       refine ta_ 2 36 13 783 HT_ HW_ hHeld ?_
       refine ta_ 10 44 13 1807 HT_ HW_ hHeld ?_
       refine on_ 4 38 13 1823 HT_ (fun K hK => ?_)
       refine goes_ Try.func68 (by kernel_rfl) rfl #[.pointer (some ⟨g, 0, none⟩), .int .i64 2] (by rfl) rfl rfl z14_ ?_
       with_reducible refine (spec_l6Rd_pick.calls kj15 g s0_0 x1001_15 2 t157 t158 w0 _ ?side1 ?side2 A28.out).mono ?_
       (case side1 => exact z10_)
       (case side2 => exact z2_)
       rintro e w33 ⟨rfl, hi, hb, hk⟩
       have HS0_ := keep_cell hk (hHeld.1) z0_
       have HS1_ := keep_cell hk (hHeld.2) z0_
       refine ⟨_, rfl, ?_⟩
       replace HO_5:= Aside0.mk (Kd.R_mono (Kd.R_keep (IsS81.apart (show IsS81 w0 _ g s0_0 x1001_15 from by repeat (first | (with_reducible first | exact HI0.out | apply IsS81.alloc | apply IsS81.drewN | apply IsS81.drew | apply IsS81.set_1) | exact HI0.out)) z23_ (by decide)) hk (fun _ h => h.2)) (fun _ h => h.1))
       replace HK:= Aside0.mk (KeepBut.trans z11_ hk (.inl rfl))
       replace HB:= Aside0.mk (hb)
       replace HI0:= Aside0.mk (hi)
       clear hi hb hk
       refine hK.out _ _ ⟨HS0_, HS1_⟩ (fun hHeld => ?_)
       clear hK K
       refine norm_ (a' := ?_) ?_ ?_
       rotate_left
       · show Act.put _ (some 38) _ = _
         simp only [Act.put, List.setIfInBounds_toArray, List.set_cons_zero, List.set_cons_succ, i64_w, i32_w]
         rfl
       refine pz_ 5 39 13 1855 HT_ ?_
       refine pz_ 6 40 13 1919 HT_ ?_
       refine pz_ 7 41 13 2047 HT_ ?_
       refine pz_ 11 45 13 4095 HT_ ?_
       refine pz_ 12 6 13 8191 HT_ ?_
       refine dn_ HT_ ?_
       go_wp2
       go_ret
       exact ⟨_, z29_, z23_, z10_, z2_, z11_⟩
     rw [if_neg c30] at H
     have c30b0 := beq_eq_false_iff_ne.mpr c30
     have c30b1 := bne_iff_ne.mpr c30
     obtain ⟨t160, A34, H⟩ := bi_ H
     by_cases c35 : t160 ≤ 30
     · rw [if_pos c35] at H
       have c35b0 := decide_eq_true c35
       clear c35
       obtain ⟨c36, H⟩ := in_ H
       have c36b0 := decide_eq_true c36
       have c36b1 : decide (2 < x5_3.length) = true := decide_eq_true (by omega)
       clear c36
       generalize h_ : (x5_3.set (2 : Int).toNat (wrap64 ((wrap64 (-(wrap64 ((rd x5_3 0) * (wrap64 (1 + t157)))))) - (rd x5_3 1)))) = y161 at H
       have Ny161 := Aside0.mk h_.symm
       clear h_
       simp only [Option.some.injEq, Prod.mk.injEq] at H
       obtain ⟨rfl, rfl⟩ := H
       go_wp2
       replace HO_5:= Aside0.mk (Kd.R_drew HO_5.out)
       replace HI0:= Aside0.mk (IsS81.drew HI0.out)
       replace HK:= Aside0.mk (keep_drew HK.out)
       replace HB:= Aside0.mk (below_drew1 HB.out)
       obtain ⟨Ao39, co39, eo39⟩ := Kd.R_slice HO_5.out
       (first | subst eo39 | (injection eo39 with f1_ f2_ f3_; have f4_ := f1_.symm; have f5_ := f3_.symm; clear f1_ f2_ f3_; subst f4_; subst f5_))
       have p156 : 0 ≤ (0 : Int) := (by omega)
       have q156 : 0 < (x5_3.length : Int) := of_decide_eq_true z31_
       obtain ⟨ad156, e156, hx156_0⟩ := Kd.at_int (Kd.R_reads' HO_5.out).2.2 0 p156 q156
       cases e156
       have qi156 : (0 < x5_3.length) = True := eq_true (by omega)
       rw [show ((0 : Int)).toNat = 0 from rfl] at hx156_0
       rw [Addr.add_zero'] at hx156_0
       replace p156 := eq_true p156
       replace q156 := eq_true q156
       have p159 : 0 ≤ (1 : Int) := (by omega)
       have q159 : 1 < (x5_3.length : Int) := of_decide_eq_true z31_
       obtain ⟨ad159, e159, hx159_0⟩ := Kd.at_int (Kd.R_reads' HO_5.out).2.2 1 p159 q159
       obtain rfl : ad156 = ad159 := (by injection e159)
       simp only [show (1 : Int).toNat = 1 from rfl, Nat.reduceMul, Nat.reduceEqDiff, Go.Addr.add, ↓reduceIte] at hx159_0
       have qi159 : (1 < x5_3.length) = True := eq_true (by omega)
       replace p159 := eq_true p159
       replace q159 := eq_true q159
       refine start_ (n := 13) (S := fun w' => w'.cell? ad156 = some (.int .i64 (rd x5_3 0)) ∧ w'.cell? ⟨ad156.block, ad156.off + 1, none⟩ = some (.int .i64 (rd x5_3 1))) (ds := []) (bs_ 13 0) (by kernel_rfl) rfl rfl ⟨hx156_0, hx159_0⟩ (fun hHeld => ?_); refine with_tabW spec_l92Form.tab5 spec_l92Form.bits5 (fun HT_ HW_ => ?_)
       generalize wc.drew = w38 at HO_5 HI0 HK HB hx156_0 hx159_0 hHeld ⊢
       refine pz_ 0 34 13 1 HT_ ?_
       refine pz_ 1 35 13 3 HT_ ?_
       refine pz_ 3 37 13 11 HT_ ?_
       refine pz_ 8 42 13 267 HT_ ?_
       refine pz_ 9 43 13 779 HT_ ?_
       refine ta_ 2 36 13 783 HT_ HW_ hHeld ?_
       refine ta_ 10 44 13 1807 HT_ HW_ hHeld ?_
       refine on_ 4 38 13 1823 HT_ (fun K hK => ?_)
       refine goes_ Try.func68 (by kernel_rfl) rfl #[.pointer (some ⟨g, 0, none⟩), .int .i64 2] (by rfl) rfl rfl z14_ ?_
       with_reducible refine (spec_l6Rd_pick.calls kj15 g s0_0 x1001_15 2 t157 t158 w0 _ ?side1 ?side2 A28.out).mono ?_
       (case side1 => exact z10_)
       (case side2 => exact z2_)
       rintro e w40 ⟨rfl, hi, hb, hk⟩
       have HS0_ := keep_cell hk (hHeld.1) z0_
       have HS1_ := keep_cell hk (hHeld.2) z0_
       refine ⟨_, rfl, ?_⟩
       replace HO_5:= Aside0.mk (Kd.R_mono (Kd.R_keep (IsS81.apart (show IsS81 w0 _ g s0_0 x1001_15 from by repeat (first | (with_reducible first | exact HI0.out | apply IsS81.alloc | apply IsS81.drewN | apply IsS81.drew | apply IsS81.set_1) | exact HI0.out)) z23_ (by decide)) hk (fun _ h => h.2)) (fun _ h => h.1))
       replace HK:= Aside0.mk (KeepBut.trans z11_ hk (.inl rfl))
       replace HB:= Aside0.mk (hb)
       replace HI0:= Aside0.mk (hi)
       clear hi hb hk
       refine hK.out _ _ ⟨HS0_, HS1_⟩ (fun hHeld => ?_)
       clear hK K
       refine norm_ (a' := ?_) ?_ ?_
       rotate_left
       · show Act.put _ (some 38) _ = _
         simp only [Act.put, List.setIfInBounds_toArray, List.set_cons_zero, List.set_cons_succ, i64_w, i32_w]
         rfl
       refine pz_ 5 39 13 1855 HT_ ?_
       refine pz_ 6 40 13 1919 HT_ ?_
       refine pz_ 7 41 13 2047 HT_ ?_
       refine pz_ 11 45 13 4095 HT_ ?_
       refine pz_ 12 6 13 8191 HT_ ?_
       refine dn_ HT_ ?_
       try go_wp2_with (first | (go_at_call 104; (with_reducible refine (spec_l1Size.calls (wrap64 ((wrap64 (-(wrap64 ((rd x5_3 0) * (wrap64 (1 + t157)))))) - (rd x5_3 1))) t160 _ A34.out).mono ?_); rintro e w41 ⟨rfl, hb⟩; replace HO_5:= Aside0.mk (Kd.R_below z23_ hb); replace HK:= Aside0.mk (KeepBut.trans z11_ (KeepBut.of_below hb g none) (.inl rfl)); replace HB:= Aside0.mk (below_step z2_ hb); replace HI0:= Aside0.mk (IsS81.below z10_ hb); clear hb; have p37 : 0 ≤ (2 : Int) := (by omega); have q37 : (2 : Int) < ((x5_3.length : Int) : Int) := of_decide_eq_true z31_; have qi37 : (2 < x5_3.length) = True := eq_true (by omega); obtain ⟨go37, co37, eo37, gb37, gl37, cl37, HG37⟩ := Kd.R_form HO_5.out (by omega); (first | cases eo37 | (injection eo37 with ea_ en_ ec_; (first | subst ea_ | (injection ea_ with ea_; subst ea_)); subst ec_; clear en_)); have GB37 := Aside0.mk gb37; have GG37 := Aside0.mk HG37; clear gb37 gl37 HG37; (first | simp only [add_plain] at hx156_0 | skip); (first | simp only [add_plain] at hx159_0 | skip); obtain ⟨hx37_0, hf37_0⟩ := Kd.R_celln 0 HO_5.out (2 : Int) p37 q37; (try rw [show ((2 : Int)).toNat = 2 from rfl] at hx37_0); (try simp only [Nat.reduceMul, Nat.zero_mul, Nat.zero_add, Nat.reduceAdd] at hx37_0); (try rw [show ((2 : Int)).toNat = 2 from rfl] at hf37_0); (try simp only [Nat.reduceMul, Nat.zero_mul, Nat.zero_add, Nat.reduceAdd] at hf37_0); replace p37 := eq_true p37; replace q37 := eq_true q37; obtain ⟨hy42_, hz42_⟩ := Kd.R_celln 0 HO_5.out (2 : Int) (by omega) (of_decide_eq_true z31_); (try simp only [Int.reduceToNat, Int.toNat_zero, Int.toNat_ofNat, Nat.reduceMul, Nat.zero_mul, Nat.zero_add] at hy42_ hz42_); (try rw [show ((2 : Int)).toNat = 2 from rfl] at hy42_); (try rw [show ((2 : Int)).toNat = 2 from rfl] at hz42_); have HP42 := Kd.R_putg HO_5.out (2 : Int) (wrap64 ((wrap64 (-(wrap64 ((rd x5_3 0) * (wrap64 (1 + t157)))))) - (rd x5_3 1)))) | ((with_reducible refine gate_store (t := 3) (p := 55) rfl ?_); refine store_event (t := 3) (p := 55) (v := ?vo_w43) (w1 := (w41.setCell ⟨go37, (2 : Int).toNat, none⟩ (.int .i64 (wrap64 ((wrap64 (-(wrap64 ((rd x5_3 0) * (wrap64 (1 + t157)))))) - (rd x5_3 1)))))) ?hg ?ho ?hn ?hr ?_; (case ho => rfl); (case hg => rfl); (case hn => rfl); (case hr => first | (go_simp; done) | (go_simp; rfl)); intro w43 hw; have hg : w41.grownBy w43 (some go37) := (by rw [hw]; exact HP42.2); have hp_ : Kd.R (Kd.int .i64) 3 w43 w.heap.size (fun _ => True) (.slice (some ⟨go37, 0, none⟩) x5_3.length co39) y161 := (by rw [hw, Ny161.out]; exact HP42.1); clear HP42; replace HI0:= Aside0.mk (IsS81.grown z10_ hg (IsS81.own_ne HI0.out HO_5.out (by decide))); replace HB:= Aside0.mk ((by rw [hw]; exact below_set (HB.out) (Nat.le_trans HL.out GB37.out) : Below w0.heap.size w0 w43)); replace HK:= Aside0.mk (KeepBut.trans z11_ (KeepBut.of_grown hg g) (Kd.R_base2 HO_5.out)); replace HO_5:= Aside0.mk (hp_); clear hg hw hp_))
       go_ret
       exact ⟨_, z29_, z23_, z10_, z2_, z11_⟩
     rw [if_neg c35] at H
     have c35b0 := decide_eq_false c35
     clear c35
     simp only [Option.some.injEq, Prod.mk.injEq] at H
     obtain ⟨rfl, rfl⟩ := H
     go_wp2
     replace HO_5:= Aside0.mk (Kd.R_drew HO_5.out)
     replace HI0:= Aside0.mk (IsS81.drew HI0.out)
     replace HK:= Aside0.mk (keep_drew HK.out)
     replace HB:= Aside0.mk (below_drew1 HB.out)
     obtain ⟨Ao45, co45, eo45⟩ := Kd.R_slice HO_5.out
     (first | subst eo45 | (injection eo45 with f1_ f2_ f3_; have f4_ := f1_.symm; have f5_ := f3_.symm; clear f1_ f2_ f3_; subst f4_; subst f5_))
     have p156 : 0 ≤ (0 : Int) := (by omega)
     have q156 : 0 < (x5_3.length : Int) := of_decide_eq_true z31_
     obtain ⟨ad156, e156, hx156_0⟩ := Kd.at_int (Kd.R_reads' HO_5.out).2.2 0 p156 q156
     cases e156
     have qi156 : (0 < x5_3.length) = True := eq_true (by omega)
     rw [show ((0 : Int)).toNat = 0 from rfl] at hx156_0
     rw [Addr.add_zero'] at hx156_0
     replace p156 := eq_true p156
     replace q156 := eq_true q156
     have p159 : 0 ≤ (1 : Int) := (by omega)
     have q159 : 1 < (x5_3.length : Int) := of_decide_eq_true z31_
     obtain ⟨ad159, e159, hx159_0⟩ := Kd.at_int (Kd.R_reads' HO_5.out).2.2 1 p159 q159
     obtain rfl : ad156 = ad159 := (by injection e159)
     simp only [show (1 : Int).toNat = 1 from rfl, Nat.reduceMul, Nat.reduceEqDiff, Go.Addr.add, ↓reduceIte] at hx159_0
     have qi159 : (1 < x5_3.length) = True := eq_true (by omega)
     replace p159 := eq_true p159
     replace q159 := eq_true q159
     refine start_ (n := 13) (S := fun w' => w'.cell? ad156 = some (.int .i64 (rd x5_3 0)) ∧ w'.cell? ⟨ad156.block, ad156.off + 1, none⟩ = some (.int .i64 (rd x5_3 1))) (ds := []) (bs_ 13 0) (by kernel_rfl) rfl rfl ⟨hx156_0, hx159_0⟩ (fun hHeld => ?_); refine with_tabW spec_l92Form.tab5 spec_l92Form.bits5 (fun HT_ HW_ => ?_)
     generalize wc.drew = w44 at HO_5 HI0 HK HB hx156_0 hx159_0 hHeld ⊢
     refine pz_ 0 34 13 1 HT_ ?_
     refine pz_ 1 35 13 3 HT_ ?_
     refine pz_ 3 37 13 11 HT_ ?_
     refine pz_ 8 42 13 267 HT_ ?_
     refine pz_ 9 43 13 779 HT_ ?_
     refine ta_ 2 36 13 783 HT_ HW_ hHeld ?_
     refine ta_ 10 44 13 1807 HT_ HW_ hHeld ?_
     refine on_ 4 38 13 1823 HT_ (fun K hK => ?_)
     refine goes_ Try.func68 (by kernel_rfl) rfl #[.pointer (some ⟨g, 0, none⟩), .int .i64 2] (by rfl) rfl rfl z14_ ?_
     with_reducible refine (spec_l6Rd_pick.calls kj15 g s0_0 x1001_15 2 t157 t158 w0 _ ?side1 ?side2 A28.out).mono ?_
     (case side1 => exact z10_)
     (case side2 => exact z2_)
     rintro e w46 ⟨rfl, hi, hb, hk⟩
     have HS0_ := keep_cell hk (hHeld.1) z0_
     have HS1_ := keep_cell hk (hHeld.2) z0_
     refine ⟨_, rfl, ?_⟩
     replace HO_5:= Aside0.mk (Kd.R_mono (Kd.R_keep (IsS81.apart (show IsS81 w0 _ g s0_0 x1001_15 from by repeat (first | (with_reducible first | exact HI0.out | apply IsS81.alloc | apply IsS81.drewN | apply IsS81.drew | apply IsS81.set_1) | exact HI0.out)) z23_ (by decide)) hk (fun _ h => h.2)) (fun _ h => h.1))
     replace HK:= Aside0.mk (KeepBut.trans z11_ hk (.inl rfl))
     replace HB:= Aside0.mk (hb)
     replace HI0:= Aside0.mk (hi)
     clear hi hb hk
     refine hK.out _ _ ⟨HS0_, HS1_⟩ (fun hHeld => ?_)
     clear hK K
     refine norm_ (a' := ?_) ?_ ?_
     rotate_left
     · show Act.put _ (some 38) _ = _
       simp only [Act.put, List.setIfInBounds_toArray, List.set_cons_zero, List.set_cons_succ, i64_w, i32_w]
       rfl
     refine pz_ 5 39 13 1855 HT_ ?_
     refine pz_ 6 40 13 1919 HT_ ?_
     refine pz_ 7 41 13 2047 HT_ ?_
     refine pz_ 11 45 13 4095 HT_ ?_
     refine pz_ 12 6 13 8191 HT_ ?_
     refine dn_ HT_ ?_
     try go_wp2_with (first | (go_at_call 104; (with_reducible refine (spec_l1Size.calls (wrap64 ((wrap64 (-(wrap64 ((rd x5_3 0) * (wrap64 (1 + t157)))))) - (rd x5_3 1))) t160 _ A34.out).mono ?_); rintro e w47 ⟨rfl, hb⟩; replace HO_5:= Aside0.mk (Kd.R_below z23_ hb); replace HK:= Aside0.mk (KeepBut.trans z11_ (KeepBut.of_below hb g none) (.inl rfl)); replace HB:= Aside0.mk (below_step z2_ hb); replace HI0:= Aside0.mk (IsS81.below z10_ hb); clear hb))
     go_ret
     exact ⟨_, z29_, z23_, z10_, z2_, z11_⟩

end Go.Proofs.Ytdeahlommlgceaa.PFnNormal

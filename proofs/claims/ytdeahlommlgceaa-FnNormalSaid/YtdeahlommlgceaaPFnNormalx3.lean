-- Written by a program of this repo (wip/gen/gen.py) over the kit's print.
-- (slim)
import Derived.Laws.Cover3
import Derived.Test.YtdeahlommlgceaaPFnNormalx0
import Derived.Test.YtdeahlommlgceaaPFnNormalx1
import Derived.Test.YtdeahlommlgceaaPFnNormalx2
namespace Go.Proofs.Ytdeahlommlgceaa.PFnNormal
open Go.RowKit Go.Proofs.YtdeahlommlgceaaW.PrintWords Go.Proofs.YtdeahlommlgceaaW.PrintLast Go.Proofs.YtdeahlommlgceaaW.PrintMore
attribute [local go_sem] max2_int min2_int max_two min_two max_three min_three max_four min_four   -- for this text's walks alone
set_option linter.unusedVariables false
set_option maxHeartbeats 8000000
set_option maxRecDepth 100000
set_option linter.unusedSimpArgs false

/-! ### spec_DrawZeroNormal: function 19 -/
def spec_DrawZeroNormal.f (k : Nat) (l0 : List Int) : Option (List Int) := (spec_l6Open.f l0).bind fun bt162 => ((spec_l6Rd_pick.f k bt162.1 bt162.2 16).bind fun bt165 => (if bt165.1 = 0 then ((spec_l91Form.f k bt162.1 bt165.2 4).bind fun bt167 => (some bt167.1)) else ((spec_l92Form.f k bt162.1 bt165.2 3).bind fun bt171 => (some bt171.1))))
theorem spec_DrawZeroNormal.mono : ∀ a0 k, LeO (spec_DrawZeroNormal.f k a0) (spec_DrawZeroNormal.f (k + 1) a0) := by
 intro a0 k
 unfold spec_DrawZeroNormal.f
 exact mo_
theorem spec_DrawZeroNormal.calls (k : Nat) (A0 : Option Addr) (c0 : Nat) (l0 : List Int) (r : List Int) (w : World) (hr0 : Kd.C (Kd.int .u8) w A0 l0.length l0) (hc0 : l0.length ≤ c0) (h : spec_DrawZeroNormal.f k l0 = some r) :
 Calls Try.prog 19 #[.slice A0 l0.length c0] w fun e w' => ∃ v0_ : Value, e = .returned (v0_) ∧ Kd.R (Kd.int .i64) 3 w' w.heap.size (fun _ => True) v0_ r ∧ Below w.heap.size w w' := by
 have HR0 := Aside0.mk hr0
 have HC0 := Aside0.mk hc0
 clear hr0 hc0
 have HB := Aside0.mk (Below.refl w.heap.size w)
 have H := h
 clear h
 unfold spec_DrawZeroNormal.f at H
 obtain ⟨⟨t162, t163⟩, A2, H⟩ := bi_ H
 try dsimp only at H
 obtain ⟨⟨t165, t166⟩, A3, H⟩ := bi_ H
 try dsimp only at H
 by_cases c4 : t165 = 0
 · rw [if_pos c4] at H
   have c4b0 := beq_iff_eq.mpr c4
   have c4b1 := bne_eq_false_iff_eq.mpr c4
   clear c4
   obtain ⟨⟨t167, t170⟩, A5, H⟩ := bi_ H
   try dsimp only at H
   obtain rfl := Option.some.inj H
   go_enter Try.func19, Try.ntmps19
   go_wp2_with (first | ((with_reducible refine gate_callee (f := 56) rfl ?_); refine goesL_ (some 5) rfl rfl Try.func56 (by kernel_rfl) rfl #[.slice A0 l0.length c0] rfl z14_ ?_; (with_reducible refine (spec_l6Open.calls _ _ l0 t162 t163 w _ ?side1 ?side2 ?side3 A2.out).mono ?_); (case side1 => exact z16_); (case side2 => exact HR0.out); (case side3 => exact HC0.out); rintro e w6 ⟨g164, rfl, hi, hb, hb2⟩; refine ⟨_, rfl, ?_⟩; replace HB:= Aside0.mk (hb); have HI164:= Aside0.mk (hi); clear hi hb hb2) | ((with_reducible refine gate_callee (f := 68) rfl ?_); refine goesL_ (some 7) rfl rfl Try.func68 (by kernel_rfl) rfl #[.pointer (some ⟨g164, 0, none⟩), .int .i64 16] rfl z14_ ?_; (with_reducible refine (spec_l6Rd_pick.calls k g164 t162 t163 16 t165 t166 w _ ?side1 ?side2 A3.out).mono ?_); (case side1 => exact z9_); (case side2 => exact z1_); rintro e w7 ⟨rfl, hi, hb, hk⟩; refine ⟨_, rfl, ?_⟩; replace HB:= Aside0.mk (hb); replace HI164:= Aside0.mk (hi); clear hi hb hk) | ((with_reducible refine gate_callee (f := 69) rfl ?_); refine goesL_ (some 10) rfl rfl Try.func69 (by kernel_rfl) rfl #[.pointer (some ⟨g164, 0, none⟩), .int .i64 4] rfl z14_ ?_; (with_reducible refine (spec_l91Form.calls k g164 t162 t166 4 t167 t170 w _ ?side1 ?side2 A5.out).mono ?_); (case side1 => exact z9_); (case side2 => exact z1_); rintro e w8 ⟨v168, rfl, ho0, hi, hb, hk⟩; refine ⟨_, rfl, ?_⟩; have HO169:= Aside0.mk (Kd.R_lower ho0 (below_size z1_)); replace HB:= Aside0.mk (hb); replace HI164:= Aside0.mk (hi); clear hb hk hi ho0))
   go_ret
   exact ⟨_, z29_, by (with_reducible repeat (first | apply Kd.R_alloc | apply Kd.R_drewN | apply Kd.R_drew)); exact HO169.out, z1_⟩
 rw [if_neg c4] at H
 have c4b0 := beq_eq_false_iff_ne.mpr c4
 have c4b1 := bne_iff_ne.mpr c4
 obtain ⟨⟨t171, t174⟩, A9, H⟩ := bi_ H
 try dsimp only at H
 obtain rfl := Option.some.inj H
 go_enter Try.func19, Try.ntmps19
 go_wp2_with (first | ((with_reducible refine gate_callee (f := 56) rfl ?_); refine goesL_ (some 5) rfl rfl Try.func56 (by kernel_rfl) rfl #[.slice A0 l0.length c0] rfl z14_ ?_; (with_reducible refine (spec_l6Open.calls _ _ l0 t162 t163 w _ ?side1 ?side2 ?side3 A2.out).mono ?_); (case side1 => exact z16_); (case side2 => exact HR0.out); (case side3 => exact HC0.out); rintro e w10 ⟨g164, rfl, hi, hb, hb2⟩; refine ⟨_, rfl, ?_⟩; replace HB:= Aside0.mk (hb); have HI164:= Aside0.mk (hi); clear hi hb hb2) | ((with_reducible refine gate_callee (f := 68) rfl ?_); refine goesL_ (some 7) rfl rfl Try.func68 (by kernel_rfl) rfl #[.pointer (some ⟨g164, 0, none⟩), .int .i64 16] rfl z14_ ?_; (with_reducible refine (spec_l6Rd_pick.calls k g164 t162 t163 16 t165 t166 w _ ?side1 ?side2 A3.out).mono ?_); (case side1 => exact z9_); (case side2 => exact z1_); rintro e w11 ⟨rfl, hi, hb, hk⟩; refine ⟨_, rfl, ?_⟩; replace HB:= Aside0.mk (hb); replace HI164:= Aside0.mk (hi); clear hi hb hk) | ((with_reducible refine gate_callee (f := 70) rfl ?_); refine goesL_ (some 12) rfl rfl Try.func70 (by kernel_rfl) rfl #[.pointer (some ⟨g164, 0, none⟩), .int .i64 3] rfl z14_ ?_; (with_reducible refine (spec_l92Form.calls k g164 t162 t166 3 t171 t174 w _ ?side1 ?side2 A9.out).mono ?_); (case side1 => exact z9_); (case side2 => exact z1_); rintro e w12 ⟨v172, rfl, ho0, hi, hb, hk⟩; refine ⟨_, rfl, ?_⟩; have HO173:= Aside0.mk (Kd.R_lower ho0 (below_size z1_)); replace HB:= Aside0.mk (hb); replace HI164:= Aside0.mk (hi); clear hb hk hi ho0))
 go_ret
 exact ⟨_, z29_, by (with_reducible repeat (first | apply Kd.R_alloc | apply Kd.R_drewN | apply Kd.R_drew)); exact HO173.out, z1_⟩

/-! ### impl_size: function 75 -/
def impl_size.f (a0 : Int) : Option (Int) := some (mx a0 (wrap64 (-a0)))
theorem impl_size.calls (a0 : Int) (r : Int) (w : World) (h : impl_size.f a0 = some r) :
 Calls Try.prog 75 #[.int .i64 a0] w fun e w' => e = .returned (.int .i64 r) ∧ Below w.heap.size w w' := by
 have HB := Aside0.mk (Below.refl w.heap.size w)
 have H := h
 clear h
 unfold impl_size.f at H
 obtain ⟨ji2, hji2⟩ : ∃ j_ : Int, (mx a0 (wrap64 (-a0))) = j_ := ⟨_, rfl⟩
 replace H : (some ji2) = some r := by first | (rw [hji2] at H; exact H) | (simp only [hji2] at H ⊢; exact H)
 have hji2_ : (if a0 < (wrap64 (-a0)) then (wrap64 (-a0)) else a0) = ji2 := hji2
 obtain rfl := Option.some.inj H
 go_enter Try.func75, Try.ntmps75
 go_wp2
 go_ret
 exact ⟨by first | rfl | (simp [errW_none, errW_some] <;> rfl) | (simp only [← hji2]; first | rfl | (simp [errW_none, errW_some] <;> rfl)) | (simp [*, errW_none, errW_some] <;> rfl), z16_⟩

/-! ### impl_FormValid: function 57 -/
def impl_FormValid.l0 : Nat → List Int → List Int → Int → Int → Option (Bool)
 | 0, _, _, _, _ => none
 | k + 1, x0, x5, x6, x7 => if x7 < x6 then (if 0 ≤ x7 then (if x7 < (x5.length : Int) then (if (rd x5 x7) = 0 then (some false) else ((impl_size.f (rd x5 x7)).bind fun t176 => (if t176 > 30 then (some false) else (impl_FormValid.l0 k x0 x5 x6 (wrap64 (x7 + 1)))))) else (none)) else (none)) else (if (x0.length : Int) ≥ 1 then (some (decide ((x0.length : Int) ≤ 4))) else (some false))
def impl_FormValid.f (k : Nat) (l0 : List Int) : Option (Bool) := impl_FormValid.l0 k l0 l0 (l0.length : Int) 0
theorem impl_FormValid.mono_l : ∀ k, (∀ y0 y1 y2 y3, LeO (impl_FormValid.l0 k y0 y1 y2 y3) (impl_FormValid.l0 (k + 1) y0 y1 y2 y3))
 | 0 => fun _ _ _ _ r h => by simp [impl_FormValid.l0] at h
 | k + 1 => by
  have ih0 := impl_FormValid.mono_l k
  intro y0 y1 y2 y3
  unfold impl_FormValid.l0
  exact mo_
theorem impl_FormValid.mono : ∀ a0 k, LeO (impl_FormValid.f k a0) (impl_FormValid.f (k + 1) a0) := by
 intro a0 k
 have ih0 := impl_FormValid.mono_l k
 unfold impl_FormValid.f
 exact mo_
theorem impl_FormValid.calls (k : Nat) (A0 : Option Addr) (c0 : Nat) (l0 : List Int) (r : Bool) (w : World) (hr0 : Kd.C (Kd.int .i64) w A0 l0.length l0) (hc0 : l0.length ≤ c0) (h : impl_FormValid.f k l0 = some r) :
 Calls Try.prog 57 #[.slice A0 l0.length c0] w fun e w' => e = .returned (.bool r) ∧ Below w.heap.size w w' := by
 have HR0 := Aside0.mk hr0
 have HC0 := Aside0.mk hc0
 clear hr0 hc0
 have HB := Aside0.mk (Below.refl w.heap.size w)
 have H := h
 clear h
 unfold impl_FormValid.f at H
 have H' := Aside0.mk H
 clear H
 go_enter Try.func57, Try.ntmps57
 go_wp2
 go_loopg [7] k (fun kq v7 w' => ∃ (x7_1 : Int), v7 = .int .i64 x7_1 ∧ Aside0 (impl_FormValid.l0 kq l0 l0 (l0.length : Int) x7_1 = some r) ∧ Aside0 (kq ≤ k) ∧ Aside0 (Below w.heap.size w w'))
 case atStart => exact ⟨(0), z32_, H', ⟨Nat.le_refl _⟩, ⟨z16_⟩⟩
 case round =>
  clear H'
  obtain ⟨x7_1, rfl, HA, HK1, HB⟩ := hrel
  cases gk with
  | zero => exact absurd HA.out (by simp [impl_FormValid.l0])
  | succ k1 =>
   have H := HA.out
   clear HA
   simp only [impl_FormValid.l0] at H
   by_cases c2 : x7_1 < (l0.length : Int)
   rotate_left
   · rw [if_neg c2] at H
     have c2b0 := decide_eq_false c2
     clear c2
     by_cases c10 : (l0.length : Int) ≥ 1
     · rw [if_pos c10] at H
       have c10b0 := decide_eq_true c10
       have c10b1 : decide (1 ≤ l0.length) = true := decide_eq_true (by omega)
       clear c10
       obtain rfl := Option.some.inj H
       go_wp2
       go_ret
       exact ⟨z29_, z16_⟩
     rw [if_neg c10] at H
     have c10b0 := decide_eq_false c10
     have c10b1 : decide (1 ≤ l0.length) = false := decide_eq_false (by omega)
     clear c10
     obtain rfl := Option.some.inj H
     go_wp2
     go_ret
     exact ⟨z29_, z16_⟩
   rw [if_pos c2] at H
   have c2b0 := decide_eq_true c2
   clear c2
   obtain ⟨c3, H⟩ := in_ H
   have c3b0 := decide_eq_true c3
   clear c3
   obtain ⟨c4, H⟩ := in_ H
   have c4b0 := decide_eq_true c4
   clear c4
   by_cases c5 : (rd l0 x7_1) = 0
   · rw [if_pos c5] at H
     have c5b0 := beq_iff_eq.mpr c5
     have c5b1 := bne_eq_false_iff_eq.mpr c5
     clear c5
     obtain rfl := Option.some.inj H
     have p175 : 0 ≤ (x7_1 : Int) := of_decide_eq_true z31_
     have q175 : x7_1 < (l0.length : Int) := of_decide_eq_true z31_
     obtain ⟨ad175, e175, hx175_0⟩ := Kd.at_int HR0.out x7_1 p175 q175
     cases e175
     replace hx175_0 := (HB.out.cell (World.block_lt_of_cell? w _ hx175_0)).trans hx175_0
     replace p175 := eq_true p175
     replace q175 := eq_true q175
     go_wp2
     go_ret
     exact ⟨z29_, z16_⟩
   rw [if_neg c5] at H
   have c5b0 := beq_eq_false_iff_ne.mpr c5
   have c5b1 := bne_iff_ne.mpr c5
   obtain ⟨t176, A6, H⟩ := bi_ H
   by_cases c7 : t176 > 30
   · rw [if_pos c7] at H
     have c7b0 := decide_eq_true c7
     clear c7
     obtain rfl := Option.some.inj H
     have p175 : 0 ≤ (x7_1 : Int) := of_decide_eq_true z31_
     have q175 : x7_1 < (l0.length : Int) := of_decide_eq_true z31_
     obtain ⟨ad175, e175, hx175_0⟩ := Kd.at_int HR0.out x7_1 p175 q175
     cases e175
     replace hx175_0 := (HB.out.cell (World.block_lt_of_cell? w _ hx175_0)).trans hx175_0
     replace p175 := eq_true p175
     replace q175 := eq_true q175
     go_wp2_with (first | (go_at_call 75; (with_reducible refine (impl_size.calls (rd l0 x7_1) t176 _ A6.out).mono ?_); rintro e w8 ⟨rfl, hb⟩; replace HB:= Aside0.mk (below_step z16_ hb); clear hb))
     go_ret
     exact ⟨z29_, z16_⟩
   rw [if_neg c7] at H
   have c7b0 := decide_eq_false c7
   clear c7
   have H' := Aside0.mk H
   clear H
   have p175 : 0 ≤ (x7_1 : Int) := of_decide_eq_true z31_
   have q175 : x7_1 < (l0.length : Int) := of_decide_eq_true z31_
   obtain ⟨ad175, e175, hx175_0⟩ := Kd.at_int HR0.out x7_1 p175 q175
   cases e175
   replace hx175_0 := (HB.out.cell (World.block_lt_of_cell? w _ hx175_0)).trans hx175_0
   replace p175 := eq_true p175
   replace q175 := eq_true q175
   go_wp2_with (first | (go_at_call 75; (with_reducible refine (impl_size.calls (rd l0 x7_1) t176 _ A6.out).mono ?_); rintro e w9 ⟨rfl, hb⟩; replace HB:= Aside0.mk (below_step z16_ hb); clear hb))
   go_roundg k1
   case measure => have := HK1.out; omega
   case rel => exact ⟨(wrap64 (x7_1 + 1)), z32_, H', ⟨by have := HK1.out; omega⟩, ⟨z16_⟩⟩

/-! ### slices_Clone_int_int: function 59 -/
def slices_Clone_int_int.f (l0 : List Int) : Option (List Int) := (some (([] : List Int) : List Int)).bind fun y177 => (if y177.length + l0.length < 17592186044416 then (some (y177 ++ l0)) else (none))
theorem slices_Clone_int_int.calls (A0 : Option Addr) (c0 : Nat) (l0 : List Int) (r : List Int) (w : World) (hr0 : Kd.C (Kd.int .i64) w A0 l0.length l0) (hc0 : l0.length ≤ c0) (h : slices_Clone_int_int.f l0 = some r) :
 Calls Try.prog 59 #[.slice A0 l0.length c0] w fun e w' => ∃ v0_ : Value, e = .returned (v0_) ∧ Kd.R (Kd.int .i64) 3 w' w.heap.size (fun _ => True) v0_ r ∧ Below w.heap.size w w' := by
 -- nil, too
 have QN : ∀ (W : World) (a : Option Addr) (l c : Nat), (binOp .eql 23 (.slice a l c) (.slice none 0 0)).run Try.prog W = .ok (.bool a.isNone) W := fun W a l c => by
  simp only [binOp]
  simp [run_equal_slice_nil W 23 3 a l c Try.underlying23]
 rcases A0 with _ | ad0
 · have hl0 : l0.length = 0 := by
    rcases Nat.eq_zero_or_pos l0.length with h0 | h0
    · exact h0
    obtain ⟨_, h1, _⟩ := hr0.2.2 h0
    cases h1
   obtain rfl : l0 = [] := List.eq_nil_of_length_eq_zero hl0
   obtain rfl : r = [] := by simp [slices_Clone_int_int.f] at h; first | exact h | exact h.symm
   go_enter Try.func59, Try.ntmps59
   go_wp2
   go_ret
   exact ⟨_, rfl, Kd.R_nil _ _ _ _ _, Below.refl _ _⟩
 have HR0 := Aside0.mk hr0
 have HC0 := Aside0.mk hc0
 clear hr0 hc0
 have HB := Aside0.mk (Below.refl w.heap.size w)
 have H := h
 clear h
 unfold slices_Clone_int_int.f at H
 obtain ⟨y177, Ny177, H⟩ := by_ H
 obtain ⟨c2, H⟩ := in_ H
 have LMc2 := Aside0.mk c2
 clear c2
 generalize h_ : (y177 ++ l0) = y180 at H
 have Ny180 := Aside0.mk h_.symm
 clear h_
 obtain rfl := Option.some.inj H
 go_enter Try.func59, Try.ntmps59
 go_wp2_with (first | ((with_reducible refine gate_dst (N := 5) rfl ?_); refine Kd.R_lit (Kd.int .i64) _ 3 ?hg (N := 5) ?hd (xs := ([] : List Int)) (inner := []) (ok := fun _ => True) (okp := fun _ => True) ?hr ?hp (fun _ hk => hk) trivial (Below.refl _ _) (Nat.le_refl _) (by simp) ?_; (case hd => rfl); (case hg => rfl); (case hr => first | (go_simp; done) | (go_simp; rfl)); (case hp => exact (Reps.none _ _)); intro v178 w3 ho4 hb hg_ hnew_; clear hg_ hnew_; (first | rw [← Ny177.out] at ho4 | (simp only [Int.reduceToNat] at ho4; rw [← Ny177.out] at ho4)); have HO179:= Aside0.mk (Kd.R_lower ho4 (below_size z16_)); replace HB:= Aside0.mk (below_step z16_ hb); clear hb ho4) | ((with_reducible refine gate_builtin (b := .append) (xs := #[.tmp 5, .tmp 6]) rfl ?_); at_builtin; refine Kd.R_append_rows (Kd.int .i64) (w0 := w) w.heap.size rfl (.tmp 5) (.tmp 6) 23 3 (.int .i64 0) 8 rfl Try.underlying23 info3 rfl (by decide) (by omega) v178 y177 l0 _ _ _ (fun _ => True) (fun _ => False) rfl rfl ?aO ?aR (fun _ _ h => h) (fun _ h => h.elim) ?aF ?aB ?aS ?aL ?_; (case aR => repeat (first | exact (Kd.C_below HR0.out HB.out) | (with_reducible refine Kd.C_alloc ?_ _) | (with_reducible refine Kd.C_drewN ?_ _) | (with_reducible refine Kd.C_drew ?_))); (case aB => exact z16_); (case aF => exact (fun _ _ => trivial)); (case aO => exact (by (with_reducible repeat (first | apply Kd.R_alloc | apply Kd.R_drewN | apply Kd.R_drew)); exact HO179.out)); (case aS => exact (below_size z16_)); (case aL => have := LMc2.out; omega); intro v181 w5 ho hb hg hat; rw [← Ny180.out] at ho; replace HB:= Aside0.mk (hb); have HO182:= Aside0.mk (ho); clear HO179; clear ho hb hg hat))
 go_ret
 exact ⟨_, z29_, by (with_reducible repeat (first | apply Kd.R_alloc | apply Kd.R_drewN | apply Kd.R_drew)); exact HO182.out, z16_⟩

/-! ### impl_split: function 118 -/
def impl_split.l0 : Nat → Int → Int → Int → Option (Int × Int)
 | 0, _, _, _ => none
 | k + 1, x0, x1, x6 => if x1 = 0 then (none) else (if (Int.tmod x0 x1) = 0 then (impl_split.l0 k (wrap64 (Int.tdiv x0 x1)) x1 (wrap64 (x6 + 1))) else (some (x6, x0)))
def impl_split.f (k : Nat) (a0 : Int) (a1 : Int) : Option (Int × Int) := impl_split.l0 k a0 a1 0
theorem impl_split.mono_l : ∀ k, (∀ y0 y1 y2, LeO (impl_split.l0 k y0 y1 y2) (impl_split.l0 (k + 1) y0 y1 y2))
 | 0 => fun _ _ _ r h => by simp [impl_split.l0] at h
 | k + 1 => by
  have ih0 := impl_split.mono_l k
  intro y0 y1 y2
  unfold impl_split.l0
  exact mo_
theorem impl_split.mono : ∀ a0 a1 k, LeO (impl_split.f k a0 a1) (impl_split.f (k + 1) a0 a1) := by
 intro a0 a1 k
 have ih0 := impl_split.mono_l k
 unfold impl_split.f
 exact mo_
theorem impl_split.calls (k : Nat) (a0 : Int) (a1 : Int) (r1 : Int) (r2 : Int) (w : World) (h : impl_split.f k a0 a1 = some (r1, r2)) :
 Calls Try.prog 118 #[.int .i64 a0, .int .i64 a1] w fun e w' => e = .returned (.tuple #[.int .i64 r1, .int .i64 r2]) ∧ Drawn0 w w' := by
 have H := h
 clear h
 unfold impl_split.f at H
 have H' := Aside0.mk H
 clear H
 go_enter Try.func118, Try.ntmps118
 go_wp2
 go_loopg [0, 6] k (fun kq v0 v6 w' => ∃ (x0_1 : Int) (x6_1 : Int), v0 = .int .i64 x0_1 ∧ v6 = .int .i64 x6_1 ∧ Aside0 (impl_split.l0 kq x0_1 a1 x6_1 = some (r1, r2)) ∧ Aside0 (kq ≤ k) ∧ Drawn0 w w')
 case atStart => exact ⟨(a0), (0), z32_, z32_, H', ⟨Nat.le_refl _⟩, z30_⟩
 case round =>
  clear H'
  obtain ⟨x0_1, x6_1, rfl, rfl, HA, HK1, ⟨m1, rfl⟩⟩ := hrel
  cases gk with
  | zero => exact absurd HA.out (by simp [impl_split.l0])
  | succ k1 =>
   have H := HA.out
   clear HA
   simp only [impl_split.l0] at H
   obtain ⟨c3, H⟩ := jn_ H
   have c3b0 := beq_eq_false_iff_ne.mpr c3
   have c3b1 := bne_iff_ne.mpr c3
   by_cases c4 : (Int.tmod x0_1 a1) = 0
   · rw [if_pos c4] at H
     have c4b0 := beq_iff_eq.mpr c4
     have c4b1 := bne_eq_false_iff_eq.mpr c4
     clear c4
     have H' := Aside0.mk H
     clear H
     go_wp2
     go_roundg k1
     case measure => have := HK1.out; omega
     case rel => exact ⟨(wrap64 (Int.tdiv x0_1 a1)), (wrap64 (x6_1 + 1)), z32_, z32_, H', ⟨by have := HK1.out; omega⟩, z30_⟩
   rw [if_neg c4] at H
   have c4b0 := beq_eq_false_iff_ne.mpr c4
   have c4b1 := bne_iff_ne.mpr c4
   simp only [Option.some.injEq, Prod.mk.injEq] at H
   obtain ⟨rfl, rfl⟩ := H
   go_wp2
   go_ret2
   exact ⟨z32_, z30_⟩

/-! ### impl_primesOf: function 110 -/
def impl_primesOf.l0 : Nat → Int → List Int → Int → Option (List Int)
 | 0, _, _, _ => none
 | k + 1, x0, x3, x4 => if (wrap64 (x4 * x4)) ≤ x0 then (if x4 = 0 then (none) else (if (Int.tmod x0 x4) = 0 then (if x3.length < 17592186044416 then ((impl_split.f k x0 x4).bind fun bt190 => (impl_primesOf.l0 k bt190.2 (x3 ++ [x4]) (wrap64 (x4 + 1)))) else (none)) else (impl_primesOf.l0 k x0 x3 (wrap64 (x4 + 1))))) else (if x0 > 1 then (if x3.length < 17592186044416 then (some (x3 ++ [x0])) else (none)) else (some x3))
def impl_primesOf.f (k : Nat) (a0 : Int) : Option (List Int) := (impl_size.f a0).bind fun t186 => (impl_primesOf.l0 k t186 (([] : List Int)) 2)
theorem impl_primesOf.mono_l : ∀ k, (∀ y0 y1 y2, LeO (impl_primesOf.l0 k y0 y1 y2) (impl_primesOf.l0 (k + 1) y0 y1 y2))
 | 0 => fun _ _ _ r h => by simp [impl_primesOf.l0] at h
 | k + 1 => by
  have ih0 := impl_primesOf.mono_l k
  intro y0 y1 y2
  unfold impl_primesOf.l0
  exact mo_
theorem impl_primesOf.mono : ∀ a0 k, LeO (impl_primesOf.f k a0) (impl_primesOf.f (k + 1) a0) := by
 intro a0 k
 have ih0 := impl_primesOf.mono_l k
 unfold impl_primesOf.f
 exact mo_
theorem impl_primesOf.calls (k : Nat) (a0 : Int) (r : List Int) (w : World) (h : impl_primesOf.f k a0 = some r) :
 Calls Try.prog 110 #[.int .i64 a0] w fun e w' => ∃ v0_ : Value, e = .returned (v0_) ∧ Kd.R (Kd.int .i64) 3 w' w.heap.size (fun _ => True) v0_ r ∧ Below w.heap.size w w' := by
 have HB := Aside0.mk (Below.refl w.heap.size w)
 have H := h
 clear h
 unfold impl_primesOf.f at H
 generalize h_ : (([] : List Int)) = y183 at H
 have Ny183 := Aside0.mk h_.symm
 clear h_
 obtain ⟨t186, A2, H⟩ := bi_ H
 have H' := Aside0.mk H
 clear H
 go_enter Try.func110, Try.ntmps110
 go_wp2_with (first | ((with_reducible refine gate_dst (N := 5) rfl ?_); refine Kd.R_lit (Kd.int .i64) _ 3 ?hg (N := 5) ?hd (xs := ([] : List Int)) (inner := []) (ok := fun _ => True) (okp := fun _ => True) ?hr ?hp (fun _ hk => hk) trivial (Below.refl _ _) (Nat.le_refl _) (by simp) ?_; (case hd => rfl); (case hg => rfl); (case hr => first | (go_simp; done) | (go_simp; rfl)); (case hp => exact (Reps.none _ _)); intro v184 w3 ho4 hb hg_ hnew_; clear hg_ hnew_; (first | rw [← Ny183.out] at ho4 | (simp only [Int.reduceToNat] at ho4; rw [← Ny183.out] at ho4)); have HO185:= Aside0.mk (Kd.R_lower ho4 (below_size z16_)); replace HB:= Aside0.mk (below_step z16_ hb); clear hb ho4) | ((with_reducible refine gate_callee (f := 75) rfl ?_); refine goesL_ (some 7) rfl rfl Try.func75 (by kernel_rfl) rfl #[.int .i64 a0] rfl z14_ ?_; (with_reducible refine (impl_size.calls a0 t186 _ A2.out).mono ?_); rintro e w5 ⟨rfl, hb⟩; refine ⟨_, rfl, ?_⟩; replace HO185:= Aside0.mk (Kd.R_below (by (with_reducible repeat (first | apply Kd.R_alloc | apply Kd.R_drewN | apply Kd.R_drew)); exact HO185.out) hb); replace HB:= Aside0.mk (below_step z16_ hb); clear hb))
 go_loopg [0, 3, 4] k (fun kq v0 v3 v4 w' => ∃ (x0_1 : Int) (x3_1 : List Int) (x4_1 : Int), v0 = .int .i64 x0_1 ∧ v4 = .int .i64 x4_1 ∧ Aside0 (impl_primesOf.l0 kq x0_1 x3_1 x4_1 = some r) ∧ Aside0 (kq ≤ k) ∧ Aside0 (Kd.R (Kd.int .i64) 3 w' w.heap.size (fun _ => True) v3 x3_1) ∧ Aside0 (Below w.heap.size w w'))
 case atStart => exact ⟨(t186), (y183), (2), z32_, z32_, H', ⟨Nat.le_refl _⟩, ⟨by (with_reducible repeat (first | apply Kd.R_alloc | apply Kd.R_drewN | apply Kd.R_drew)); exact HO185.out⟩, ⟨z16_⟩⟩
 case round =>
  clear H'
  obtain ⟨x0_1, x3_1, x4_1, rfl, rfl, HA, HK1, HO_3, HB⟩ := hrel
  cases gk with
  | zero => exact absurd HA.out (by simp [impl_primesOf.l0])
  | succ k1 =>
   have H := HA.out
   clear HA
   simp only [impl_primesOf.l0] at H
   by_cases c6 : (wrap64 (x4_1 * x4_1)) ≤ x0_1
   · rw [if_pos c6] at H
     have c6b0 := decide_eq_true c6
     clear c6
     obtain ⟨c7, H⟩ := jn_ H
     have c7b0 := beq_eq_false_iff_ne.mpr c7
     have c7b1 := bne_iff_ne.mpr c7
     by_cases c8 : (Int.tmod x0_1 x4_1) = 0
     rotate_left
     · rw [if_neg c8] at H
       have c8b0 := beq_eq_false_iff_ne.mpr c8
       have c8b1 := bne_iff_ne.mpr c8
       have H' := Aside0.mk H
       clear H
       go_wp2
       go_roundg k1
       case measure => have := HK1.out; omega
       case rel => exact ⟨(x0_1), (x3_1), (wrap64 (x4_1 + 1)), z32_, z32_, H', ⟨by have := HK1.out; omega⟩, ⟨z24_⟩, ⟨z16_⟩⟩
     rw [if_pos c8] at H
     have c8b0 := beq_iff_eq.mpr c8
     have c8b1 := bne_eq_false_iff_eq.mpr c8
     clear c8
     obtain ⟨c9, H⟩ := in_ H
     have LMc9 := Aside0.mk c9
     clear c9
     generalize h_ : (x3_1 ++ [x4_1]) = y187 at H
     have Ny187 := Aside0.mk h_.symm
     clear h_
     obtain ⟨⟨t190, t191⟩, A10, H⟩ := bi_ H
     try dsimp only at H
     have H' := Aside0.mk H
     clear H
     go_wp2_with (first | ((with_reducible refine gate_builtin (b := .append) (xs := #[.tmp 19, .tmp 21]) rfl ?_); at_builtin; refine Kd.R_append (Kd.int .i64) (w0 := w) w.heap.size rfl (.tmp 19) (.tmp 21) 23 3 (.int .i64 0) 8 rfl Try.underlying23 info3 rfl (by decide) (by omega) u3 x3_1 x4_1 [.int .i64 x4_1] (fun _ => True) (fun _ => False) rfl rfl ?aP (fun _ hk => hk.elim) ?aF ?aO ?aB ?aS ?aL ?_; (case aP => exact rfl); (case aB => exact z16_); (case aF => exact (fun _ _ => trivial)); (case aO => exact z24_); (case aS => exact (below_size z16_)); (case aL => have := LMc9.out; omega); intro v188 w11 ho hb hg hat; rw [← Ny187.out] at ho; replace HB:= Aside0.mk (hb); have HO189:= Aside0.mk (ho); clear HO_3; clear ho hb hg hat) | ((with_reducible refine gate_callee (f := 118) rfl ?_); refine goesL_ (some 26) rfl rfl Try.func118 (by kernel_rfl) rfl #[.int .i64 x0_1, .int .i64 x4_1] rfl z14_ ?_; (with_reducible refine (impl_split.calls k1 x0_1 x4_1 t190 t191 _ A10.out).mono ?_); rintro e w' ⟨rfl, ⟨nd, rfl⟩⟩; refine ⟨_, rfl, ?_⟩))
     go_roundg k1
     case measure => have := HK1.out; omega
     case rel => exact ⟨(t191), (y187), (wrap64 (x4_1 + 1)), z32_, z32_, H', ⟨by have := HK1.out; omega⟩, ⟨by (with_reducible repeat (first | apply Kd.R_alloc | apply Kd.R_drewN | apply Kd.R_drew)); exact HO189.out⟩, ⟨z16_⟩⟩
   rw [if_neg c6] at H
   have c6b0 := decide_eq_false c6
   clear c6
   by_cases c12 : x0_1 > 1
   rotate_left
   · rw [if_neg c12] at H
     have c12b0 := decide_eq_false c12
     clear c12
     obtain rfl := Option.some.inj H
     go_wp2
     go_ret
     exact ⟨_, z29_, z24_, z16_⟩
   rw [if_pos c12] at H
   have c12b0 := decide_eq_true c12
   clear c12
   obtain ⟨c13, H⟩ := in_ H
   have LMc13 := Aside0.mk c13
   clear c13
   generalize h_ : (x3_1 ++ [x0_1]) = y192 at H
   have Ny192 := Aside0.mk h_.symm
   clear h_
   obtain rfl := Option.some.inj H
   go_wp2_with (first | ((with_reducible refine gate_builtin (b := .append) (xs := #[.tmp 31, .tmp 33]) rfl ?_); at_builtin; refine Kd.R_append (Kd.int .i64) (w0 := w) w.heap.size rfl (.tmp 31) (.tmp 33) 23 3 (.int .i64 0) 8 rfl Try.underlying23 info3 rfl (by decide) (by omega) u3 x3_1 x0_1 [.int .i64 x0_1] (fun _ => True) (fun _ => False) rfl rfl ?aP (fun _ hk => hk.elim) ?aF ?aO ?aB ?aS ?aL ?_; (case aP => exact rfl); (case aB => exact z16_); (case aF => exact (fun _ _ => trivial)); (case aO => exact z24_); (case aS => exact (below_size z16_)); (case aL => have := LMc13.out; omega); intro v193 w14 ho hb hg hat; rw [← Ny192.out] at ho; replace HB:= Aside0.mk (hb); have HO194:= Aside0.mk (ho); clear HO_3; clear ho hb hg hat))
   go_ret
   exact ⟨_, z29_, by (with_reducible repeat (first | apply Kd.R_alloc | apply Kd.R_drewN | apply Kd.R_drew)); exact HO194.out, z16_⟩

/-! ### impl_coreOf: function 71 -/
mutual
def impl_coreOf.l0 : Nat → Int → Int → List Int → Int → Int → Option (Int × Int)
 | 0, _, _, _, _, _ => none
 | k + 1, x0, x4, x8, x9, x10 => if x10 < x9 then (if 0 ≤ x10 then (if x10 < (x8.length : Int) then (impl_coreOf.l1 k x0 x4 (rd x8 x10) x8 x9 x10) else (none)) else (none)) else (some (x0, x4))
def impl_coreOf.l1 : Nat → Int → Int → Int → List Int → Int → Int → Option (Int × Int)
 | 0, _, _, _, _, _, _ => none
 | k + 1, x0, x4, x6, x8, x9, x10 => if (wrap64 (x6 * x6)) = 0 then (none) else (if (Int.tmod x0 (wrap64 (x6 * x6))) = 0 then (impl_coreOf.l1 k (wrap64 (Int.tdiv x0 (wrap64 (x6 * x6)))) (wrap64 (x4 * x6)) x6 x8 x9 x10) else (impl_coreOf.l0 k x0 x4 x8 x9 (wrap64 (x10 + 1))))
end
def impl_coreOf.f (k : Nat) (a0 : Int) : Option (Int × Int) := (impl_primesOf.f k a0).bind fun t195 => (impl_coreOf.l0 k a0 1 t195 (t195.length : Int) 0)
theorem impl_coreOf.mono_l : ∀ k, (∀ y0 y1 y2 y3 y4, LeO (impl_coreOf.l0 k y0 y1 y2 y3 y4) (impl_coreOf.l0 (k + 1) y0 y1 y2 y3 y4)) ∧ (∀ y0 y1 y2 y3 y4 y5, LeO (impl_coreOf.l1 k y0 y1 y2 y3 y4 y5) (impl_coreOf.l1 (k + 1) y0 y1 y2 y3 y4 y5))
 | 0 => ⟨fun _ _ _ _ _ r h => by simp [impl_coreOf.l0] at h, fun _ _ _ _ _ _ r h => by simp [impl_coreOf.l1] at h⟩
 | k + 1 => by
  obtain ⟨ih0, ih1⟩ := impl_coreOf.mono_l k
  refine ⟨?_, ?_⟩
  · intro y0 y1 y2 y3 y4
    unfold impl_coreOf.l0
    exact mo_
  intro y0 y1 y2 y3 y4 y5
  unfold impl_coreOf.l1
  exact mo_
theorem impl_coreOf.mono : ∀ a0 k, LeO (impl_coreOf.f k a0) (impl_coreOf.f (k + 1) a0) := by
 intro a0 k
 obtain ⟨ih0, ih1⟩ := impl_coreOf.mono_l k
 unfold impl_coreOf.f
 exact mo_
theorem impl_coreOf.calls (k : Nat) (a0 : Int) (r1 : Int) (r2 : Int) (w : World) (h : impl_coreOf.f k a0 = some (r1, r2)) :
 Calls Try.prog 71 #[.int .i64 a0] w fun e w' => e = .returned (.tuple #[.int .i64 r1, .int .i64 r2]) ∧ Below w.heap.size w w' := by
 have HB := Aside0.mk (Below.refl w.heap.size w)
 have H := h
 clear h
 unfold impl_coreOf.f at H
 obtain ⟨t195, A2, H⟩ := bi_ H
 have H' := Aside0.mk H
 clear H
 go_enter Try.func71, Try.ntmps71
 go_wp2_with (first | ((with_reducible refine gate_callee (f := 110) rfl ?_); refine goesL_ (some 8) rfl rfl Try.func110 (by kernel_rfl) rfl #[.int .i64 a0] rfl z14_ ?_; (with_reducible refine (impl_primesOf.calls k a0 t195 _ A2.out).mono ?_); rintro e w3 ⟨v196, rfl, ho0, hb⟩; refine ⟨_, rfl, ?_⟩; have HO197:= Aside0.mk (Kd.R_lower ho0 (below_size z16_)); replace HB:= Aside0.mk (below_step z16_ hb); clear hb ho0; obtain ⟨Ao4, co4, eo4⟩ := Kd.R_slice HO197.out; subst eo4))
 go_loopg [0, 4, 10] k (fun kq v0 v4 v10 w' => ∃ (x0_1 : Int) (x4_1 : Int) (x10_1 : Int), v0 = .int .i64 x0_1 ∧ v4 = .int .i64 x4_1 ∧ v10 = .int .i64 x10_1 ∧ Aside0 (impl_coreOf.l0 kq x0_1 x4_1 t195 (t195.length : Int) x10_1 = some (r1, r2)) ∧ Aside0 (kq ≤ k) ∧ Aside0 (Kd.R (Kd.int .i64) 3 w' w.heap.size (fun _ => True) (.slice Ao4 t195.length co4) t195) ∧ Aside0 (Below w.heap.size w w'))
 case atStart => exact ⟨(a0), (1), (0), z32_, z32_, z32_, H', ⟨Nat.le_refl _⟩, ⟨by (with_reducible repeat (first | apply Kd.R_alloc | apply Kd.R_drewN | apply Kd.R_drew)); exact HO197.out⟩, ⟨z16_⟩⟩
 case round =>
  clear H'
  obtain ⟨x0_1, x4_1, x10_1, rfl, rfl, rfl, HA, HK1, HO_8, HB⟩ := hrel
  cases gk with
  | zero => exact absurd HA.out (by simp [impl_coreOf.l0])
  | succ k1 =>
   have H := HA.out
   clear HA
   simp only [impl_coreOf.l0] at H
   by_cases c5 : x10_1 < (t195.length : Int)
   rotate_left
   · rw [if_neg c5] at H
     have c5b0 := decide_eq_false c5
     clear c5
     simp only [Option.some.injEq, Prod.mk.injEq] at H
     obtain ⟨rfl, rfl⟩ := H
     go_wp2
     go_ret2
     exact ⟨z29_, z16_⟩
   rw [if_pos c5] at H
   have c5b0 := decide_eq_true c5
   clear c5
   obtain ⟨c6, H⟩ := in_ H
   have c6b0 := decide_eq_true c6
   clear c6
   obtain ⟨c7, H⟩ := in_ H
   have c7b0 := decide_eq_true c7
   clear c7
   have H' := Aside0.mk H
   clear H
   have p198 : 0 ≤ (x10_1 : Int) := of_decide_eq_true z31_
   have q198 : x10_1 < (t195.length : Int) := of_decide_eq_true z31_
   obtain ⟨ad198, e198, hx198_0⟩ := Kd.at_int (Kd.R_reads' HO_8.out).2.2 x10_1 p198 q198
   cases e198
   replace p198 := eq_true p198
   replace q198 := eq_true q198
   go_wp2
   go_loopg [0, 4] k1 (fun kq v0 v4 w' => ∃ (x0_2 : Int) (x4_2 : Int), v0 = .int .i64 x0_2 ∧ v4 = .int .i64 x4_2 ∧ Aside0 (impl_coreOf.l1 kq x0_2 x4_2 (rd t195 x10_1) t195 (t195.length : Int) x10_1 = some (r1, r2)) ∧ Aside0 (kq ≤ k1) ∧ Aside0 (Kd.R (Kd.int .i64) 3 w' w.heap.size (fun _ => True) (.slice (some ad198) t195.length co4) t195) ∧ Aside0 (Below w.heap.size w w'))
   case atStart => exact ⟨(x0_1), (x4_1), z32_, z32_, H', ⟨Nat.le_refl _⟩, ⟨z25_⟩, ⟨z16_⟩⟩
   case round =>
    clear H'
    clear c5b0 c6b0 c7b0 hx198_0 p198 q198
    obtain ⟨x0_2, x4_2, rfl, rfl, HA, HK2, HO_8, HB⟩ := hrel
    cases gk with
    | zero => exact absurd HA.out (by simp [impl_coreOf.l1])
    | succ k2 =>
     have H := HA.out
     clear HA
     simp only [impl_coreOf.l1] at H
     obtain ⟨c8, H⟩ := jn_ H
     have c8b0 := beq_eq_false_iff_ne.mpr c8
     have c8b1 := bne_iff_ne.mpr c8
     by_cases c9 : (Int.tmod x0_2 (wrap64 ((rd t195 x10_1) * (rd t195 x10_1)))) = 0
     · rw [if_pos c9] at H
       have c9b0 := beq_iff_eq.mpr c9
       have c9b1 := bne_eq_false_iff_eq.mpr c9
       clear c9
       have H' := Aside0.mk H
       clear H
       go_wp2
       go_roundg k2
       case measure => have := HK1.out; have := HK2.out; omega
       case rel => exact ⟨(wrap64 (Int.tdiv x0_2 (wrap64 ((rd t195 x10_1) * (rd t195 x10_1))))), (wrap64 (x4_2 * (rd t195 x10_1))), z32_, z32_, H', ⟨by have := HK1.out; have := HK2.out; omega⟩, ⟨z25_⟩, ⟨z16_⟩⟩
     rw [if_neg c9] at H
     have c9b0 := beq_eq_false_iff_ne.mpr c9
     have c9b1 := bne_iff_ne.mpr c9
     have H' := Aside0.mk H
     clear H
     go_wp2
     go_roundg k2
     case measure => have := HK1.out; have := HK2.out; omega
     case rel => exact ⟨(x0_2), (x4_2), (wrap64 (x10_1 + 1)), z32_, z32_, z32_, H', ⟨by have := HK1.out; have := HK2.out; omega⟩, ⟨z25_⟩, ⟨z16_⟩⟩

/-! ### impl_gcd: function 79 -/
mutual
def impl_gcd.l0 : Nat → Int → List Int → Int → Int → Option (Int)
 | 0, _, _, _, _ => none
 | k + 1, x3, x6, x7, x8 => if x8 < x7 then (if 0 ≤ x8 then (if x8 < (x6.length : Int) then ((impl_size.f (rd x6 x8)).bind fun t200 => (impl_gcd.l1 k x3 t200 x6 x7 x8)) else (none)) else (none)) else (some x3)
def impl_gcd.l1 : Nat → Int → Int → List Int → Int → Int → Option (Int)
 | 0, _, _, _, _, _ => none
 | k + 1, x3, x5, x6, x7, x8 => if x5 = 0 then (impl_gcd.l0 k x3 x6 x7 (wrap64 (x8 + 1))) else (impl_gcd.l1 k x5 (Int.tmod x3 x5) x6 x7 x8)
end
def impl_gcd.f (k : Nat) (l0 : List Int) : Option (Int) := impl_gcd.l0 k 0 l0 (l0.length : Int) 0
theorem impl_gcd.mono_l : ∀ k, (∀ y0 y1 y2 y3, LeO (impl_gcd.l0 k y0 y1 y2 y3) (impl_gcd.l0 (k + 1) y0 y1 y2 y3)) ∧ (∀ y0 y1 y2 y3 y4, LeO (impl_gcd.l1 k y0 y1 y2 y3 y4) (impl_gcd.l1 (k + 1) y0 y1 y2 y3 y4))
 | 0 => ⟨fun _ _ _ _ r h => by simp [impl_gcd.l0] at h, fun _ _ _ _ _ r h => by simp [impl_gcd.l1] at h⟩
 | k + 1 => by
  obtain ⟨ih0, ih1⟩ := impl_gcd.mono_l k
  refine ⟨?_, ?_⟩
  · intro y0 y1 y2 y3
    unfold impl_gcd.l0
    exact mo_
  intro y0 y1 y2 y3 y4
  unfold impl_gcd.l1
  exact mo_
theorem impl_gcd.mono : ∀ a0 k, LeO (impl_gcd.f k a0) (impl_gcd.f (k + 1) a0) := by
 intro a0 k
 obtain ⟨ih0, ih1⟩ := impl_gcd.mono_l k
 unfold impl_gcd.f
 exact mo_
theorem impl_gcd.calls (k : Nat) (A0 : Option Addr) (c0 : Nat) (l0 : List Int) (r : Int) (w : World) (hr0 : Kd.C (Kd.int .i64) w A0 l0.length l0) (hc0 : l0.length ≤ c0) (h : impl_gcd.f k l0 = some r) :
 Calls Try.prog 79 #[.slice A0 l0.length c0] w fun e w' => e = .returned (.int .i64 r) ∧ Below w.heap.size w w' := by
 have HR0 := Aside0.mk hr0
 have HC0 := Aside0.mk hc0
 clear hr0 hc0
 have HB := Aside0.mk (Below.refl w.heap.size w)
 have H := h
 clear h
 unfold impl_gcd.f at H
 have H' := Aside0.mk H
 clear H
 go_enter Try.func79, Try.ntmps79
 go_wp2
 repeat (go_quiet (fail); try go_wp2)
 go_loopg [3, 8] k (fun kq v3 v8 w' => ∃ (x3_1 : Int) (x8_1 : Int), v3 = .int .i64 x3_1 ∧ v8 = .int .i64 x8_1 ∧ Aside0 (impl_gcd.l0 kq x3_1 l0 (l0.length : Int) x8_1 = some r) ∧ Aside0 (kq ≤ k) ∧ Aside0 (Below w.heap.size w w'))
 case atStart => exact ⟨(0), (0), z32_, z32_, H', ⟨Nat.le_refl _⟩, ⟨z16_⟩⟩
 case round =>
  clear H'
  obtain ⟨x3_1, x8_1, rfl, rfl, HA, HK1, HB⟩ := hrel
  cases gk with
  | zero => exact absurd HA.out (by simp [impl_gcd.l0])
  | succ k1 =>
   have H := HA.out
   clear HA
   simp only [impl_gcd.l0] at H
   by_cases c2 : x8_1 < (l0.length : Int)
   rotate_left
   · rw [if_neg c2] at H
     have c2b0 := decide_eq_false c2
     clear c2
     obtain rfl := Option.some.inj H
     go_wp2
     repeat (go_quiet (fail); try go_wp2)
     go_ret
     exact ⟨z29_, z16_⟩
   rw [if_pos c2] at H
   have c2b0 := decide_eq_true c2
   clear c2
   obtain ⟨c3, H⟩ := in_ H
   have c3b0 := decide_eq_true c3
   clear c3
   obtain ⟨c4, H⟩ := in_ H
   have c4b0 := decide_eq_true c4
   clear c4
   obtain ⟨t200, A5, H⟩ := bi_ H
   have H' := Aside0.mk H
   clear H
   have p199 : 0 ≤ (x8_1 : Int) := of_decide_eq_true z31_
   have q199 : x8_1 < (l0.length : Int) := of_decide_eq_true z31_
   obtain ⟨ad199, e199, hx199_0⟩ := Kd.at_int HR0.out x8_1 p199 q199
   cases e199
   replace hx199_0 := (HB.out.cell (World.block_lt_of_cell? w _ hx199_0)).trans hx199_0
   replace p199 := eq_true p199
   replace q199 := eq_true q199
   go_wp2_with (first | (go_at_call 75; (with_reducible refine (impl_size.calls (rd l0 x8_1) t200 _ A5.out).mono ?_); rintro e w6 ⟨rfl, hb⟩; replace HB:= Aside0.mk (below_step z16_ hb); clear hb))
   repeat (go_quiet (first | (go_at_call 75; (with_reducible refine (impl_size.calls (rd l0 x8_1) t200 _ A5.out).mono ?_); rintro e w6 ⟨rfl, hb⟩; replace HB:= Aside0.mk (below_step z16_ hb); clear hb)); try go_wp2_with (first | (go_at_call 75; (with_reducible refine (impl_size.calls (rd l0 x8_1) t200 _ A5.out).mono ?_); rintro e w6 ⟨rfl, hb⟩; replace HB:= Aside0.mk (below_step z16_ hb); clear hb)))
   go_loopg [3, 5] k1 (fun kq v3 v5 w' => ∃ (x3_2 : Int) (x5_2 : Int), v3 = .int .i64 x3_2 ∧ v5 = .int .i64 x5_2 ∧ Aside0 (impl_gcd.l1 kq x3_2 x5_2 l0 (l0.length : Int) x8_1 = some r) ∧ Aside0 (kq ≤ k1) ∧ Aside0 (Below w.heap.size w w'))
   case atStart => exact ⟨(x3_1), (t200), z32_, z32_, H', ⟨Nat.le_refl _⟩, ⟨z16_⟩⟩
   case round =>
    clear H'
    clear c2b0 c3b0 c4b0 hx199_0 p199 q199
    obtain ⟨x3_2, x5_2, rfl, rfl, HA, HK2, HB⟩ := hrel
    cases gk with
    | zero => exact absurd HA.out (by simp [impl_gcd.l1])
    | succ k2 =>
     have H := HA.out
     clear HA
     simp only [impl_gcd.l1] at H
     by_cases c7 : x5_2 = 0
     · rw [if_pos c7] at H
       have c7b0 := beq_iff_eq.mpr c7
       have c7b1 := bne_eq_false_iff_eq.mpr c7
       clear c7
       have H' := Aside0.mk H
       clear H
       go_wp2
       repeat (go_quiet (fail); try go_wp2)
       go_roundg k2
       case measure => have := HK1.out; have := HK2.out; omega
       case rel => exact ⟨(x3_2), (wrap64 (x8_1 + 1)), z32_, z32_, H', ⟨by have := HK1.out; have := HK2.out; omega⟩, ⟨z16_⟩⟩
     rw [if_neg c7] at H
     have c7b0 := beq_eq_false_iff_ne.mpr c7
     have c7b1 := bne_iff_ne.mpr c7
     have H' := Aside0.mk H
     clear H
     go_wp2
     repeat (go_quiet (fail); try go_wp2)
     go_roundg k2
     case measure => have := HK1.out; have := HK2.out; omega
     case rel => exact ⟨(x5_2), (Int.tmod x3_2 x5_2), z32_, z32_, H', ⟨by have := HK1.out; have := HK2.out; omega⟩, ⟨z16_⟩⟩

end Go.Proofs.Ytdeahlommlgceaa.PFnNormal

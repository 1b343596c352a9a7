-- Written by a program of this repo (wip/gen/gen.py) over the kit's print.
-- (slim)
import Derived.Test.YtdeahlommlgceaaPFnNormalx0
import Derived.Test.YtdeahlommlgceaaPFnNormalx1
import Derived.Test.YtdeahlommlgceaaPFnNormalx5
namespace Go.Proofs.Ytdeahlommlgceaa.PFnNormal
open Go.RowKit Go.Proofs.YtdeahlommlgceaaW.PrintWords Go.Proofs.YtdeahlommlgceaaW.PrintLast Go.Proofs.YtdeahlommlgceaaW.PrintMore
attribute [local go_sem] max2_int min2_int max_two min_two max_three min_three max_four min_four   -- for this text's walks alone
set_option linter.unusedVariables false
set_option maxHeartbeats 8000000
set_option maxRecDepth 100000
set_option linter.unusedSimpArgs false

/-! ### spec_l1Gcd: function 131 -/
def spec_l1Gcd.l0 : Nat → Int → Int → Option (Int)
 | 0, _, _ => none
 | k + 1, x0, x1 => if x1 = 0 then (some x0) else (spec_l1Gcd.l0 k x1 (Int.tmod x0 x1))
def spec_l1Gcd.f (k : Nat) (a0 : Int) (a1 : Int) : Option (Int) := (spec_l1Size.f a0).bind fun t256 => ((spec_l1Size.f a1).bind fun t257 => (spec_l1Gcd.l0 k t256 t257))
theorem spec_l1Gcd.mono_l : ∀ k, (∀ y0 y1, LeO (spec_l1Gcd.l0 k y0 y1) (spec_l1Gcd.l0 (k + 1) y0 y1))
 | 0 => fun _ _ r h => by simp [spec_l1Gcd.l0] at h
 | k + 1 => by
  have ih0 := spec_l1Gcd.mono_l k
  intro y0 y1
  unfold spec_l1Gcd.l0
  exact mo_
theorem spec_l1Gcd.mono : ∀ a0 a1 k, LeO (spec_l1Gcd.f k a0 a1) (spec_l1Gcd.f (k + 1) a0 a1) := by
 intro a0 a1 k
 have ih0 := spec_l1Gcd.mono_l k
 unfold spec_l1Gcd.f
 exact mo_
theorem spec_l1Gcd.calls (k : Nat) (a0 : Int) (a1 : Int) (r : Int) (w : World) (h : spec_l1Gcd.f k a0 a1 = some r) :
 Calls Try.prog 131 #[.int .i64 a0, .int .i64 a1] w fun e w' => e = .returned (.int .i64 r) ∧ Below w.heap.size w w' := by
 have HB := Aside0.mk (Below.refl w.heap.size w)
 have H := h
 clear h
 unfold spec_l1Gcd.f at H
 obtain ⟨t256, A3, H⟩ := bi_ H
 obtain ⟨t257, A4, H⟩ := bi_ H
 have H' := Aside0.mk H
 clear H
 go_enter Try.func131, Try.ntmps131
 go_wp2_with (first | ((with_reducible refine gate_callee (f := 104) rfl ?_); refine goesL_ (some 7) rfl rfl Try.func104 (by kernel_rfl) rfl #[.int .i64 a0] rfl z14_ ?_; (with_reducible refine (spec_l1Size.calls a0 t256 _ A3.out).mono ?_); rintro e w5 ⟨rfl, hb⟩; refine ⟨_, rfl, ?_⟩; replace HB:= Aside0.mk (below_step z16_ hb); clear hb) | ((with_reducible refine gate_callee (f := 104) rfl ?_); refine goesL_ (some 9) rfl rfl Try.func104 (by kernel_rfl) rfl #[.int .i64 a1] rfl z14_ ?_; (with_reducible refine (spec_l1Size.calls a1 t257 _ A4.out).mono ?_); rintro e w6 ⟨rfl, hb⟩; refine ⟨_, rfl, ?_⟩; replace HB:= Aside0.mk (below_step z16_ hb); clear hb))
 go_loopg [0, 1] k (fun kq v0 v1 w' => ∃ (x0_1 : Int) (x1_1 : Int), v0 = .int .i64 x0_1 ∧ v1 = .int .i64 x1_1 ∧ Aside0 (spec_l1Gcd.l0 kq x0_1 x1_1 = some r) ∧ Aside0 (kq ≤ k) ∧ Aside0 (Below w.heap.size w w'))
 case atStart => exact ⟨(t256), (t257), z32_, z32_, H', ⟨Nat.le_refl _⟩, ⟨z16_⟩⟩
 case round =>
  clear H'
  obtain ⟨x0_1, x1_1, rfl, rfl, HA, HK1, HB⟩ := hrel
  cases gk with
  | zero => exact absurd HA.out (by simp [spec_l1Gcd.l0])
  | succ k1 =>
   have H := HA.out
   clear HA
   simp only [spec_l1Gcd.l0] at H
   by_cases c7 : x1_1 = 0
   · rw [if_pos c7] at H
     have c7b0 := beq_iff_eq.mpr c7
     have c7b1 := bne_eq_false_iff_eq.mpr c7
     clear c7
     obtain rfl := Option.some.inj H
     go_wp2
     go_ret
     exact ⟨z29_, z16_⟩
   rw [if_neg c7] at H
   have c7b0 := beq_eq_false_iff_ne.mpr c7
   have c7b1 := bne_iff_ne.mpr c7
   have H' := Aside0.mk H
   clear H
   go_wp2
   go_roundg k1
   case measure => have := HK1.out; omega
   case rel => exact ⟨(x1_1), (Int.tmod x0_1 x1_1), z32_, z32_, H', ⟨by have := HK1.out; omega⟩, ⟨z16_⟩⟩

/-! ### spec_l5Two: function 117 -/
def spec_l5Two.l0 : Nat → List Int → Int → Option (Int × Int)
 | 0, _, _ => none
 | k + 1, x0, x4 => if x4 ≥ 0 then (if 0 ≤ (Int.tmod (wrap64 (x4 + 1)) 3) then (if (Int.tmod (wrap64 (x4 + 1)) 3) < (x0.length : Int) then (if 0 ≤ (Int.tmod (wrap64 (x4 + 2)) 3) then (if (Int.tmod (wrap64 (x4 + 2)) 3) < (x0.length : Int) then ((spec_l1Gcd.f k (rd x0 (Int.tmod (wrap64 (x4 + 1)) 3)) (rd x0 (Int.tmod (wrap64 (x4 + 2)) 3))).bind fun t260 => (if t260 > 1 then ((spec_l1Primes.f k t260).bind fun t261 => (if 0 < (t261.length : Int) then (some (rd t261 0, x4)) else (none))) else (spec_l5Two.l0 k x0 (wrap64 (x4 - 1))))) else (none)) else (none)) else (none)) else (none)) else (some (1, 0))
def spec_l5Two.f (k : Nat) (l0 : List Int) : Option (Int × Int) := spec_l5Two.l0 k l0 2
theorem spec_l5Two.mono_l : ∀ k, (∀ y0 y1, LeO (spec_l5Two.l0 k y0 y1) (spec_l5Two.l0 (k + 1) y0 y1))
 | 0 => fun _ _ r h => by simp [spec_l5Two.l0] at h
 | k + 1 => by
  have ih0 := spec_l5Two.mono_l k
  intro y0 y1
  unfold spec_l5Two.l0
  exact mo_
theorem spec_l5Two.mono : ∀ a0 k, LeO (spec_l5Two.f k a0) (spec_l5Two.f (k + 1) a0) := by
 intro a0 k
 have ih0 := spec_l5Two.mono_l k
 unfold spec_l5Two.f
 exact mo_
def spec_l5Two.T4 : Bool × List (List Nat × List Nat) := (true, [([], []), ([], []), ([1], [1]), ([2], [2]), ([0, 3], [0, 3]), ([4], [4]), ([], []), ([], []), ([7], [7]), ([8], [8]), ([6, 9], [6, 9]), ([10], [10]), ([5, 11], [5, 11]), ([12, 12, 0, 1, 2, 3, 4, 5, 6, 7, 8, 9, 10, 11, 12], [12])])
def spec_l5Two.B4 : List Nat := [0, 0, 2, 6, 15, 31, 0, 0, 128, 384, 960, 1984, 4095, 8191]
theorem spec_l5Two.tab4 : rtab .any (opsOf Try.f117 4) = spec_l5Two.T4 := by kernel_rfl
theorem spec_l5Two.bits4 : waitsOk spec_l5Two.T4.2 spec_l5Two.B4 = true := by kernel_rfl
theorem spec_l5Two.calls (k : Nat) (A0 : Option Addr) (c0 : Nat) (l0 : List Int) (r1 : Int) (r2 : Int) (w : World) (hr0 : Kd.C (Kd.int .i64) w A0 l0.length l0) (hc0 : l0.length ≤ c0) (h : spec_l5Two.f k l0 = some (r1, r2)) :
 Calls Try.prog 117 #[.slice A0 l0.length c0] w fun e w' => e = .returned (.tuple #[.int .i64 r1, .int .i64 r2]) ∧ Below w.heap.size w w' := by
 have HR0 := Aside0.mk hr0
 have HC0 := Aside0.mk hc0
 clear hr0 hc0
 have HB := Aside0.mk (Below.refl w.heap.size w)
 have H := h
 clear h
 unfold spec_l5Two.f at H
 have H' := Aside0.mk H
 clear H
 go_enter Try.func117, Try.ntmps117
 go_wp2
 go_loopg [4] k (fun kq v4 w' => ∃ (x4_1 : Int), v4 = .int .i64 x4_1 ∧ Aside0 (spec_l5Two.l0 kq l0 x4_1 = some (r1, r2)) ∧ Aside0 (kq ≤ k) ∧ Aside0 (Below w.heap.size w w'))
 case atStart => exact ⟨(2), z32_, H', ⟨Nat.le_refl _⟩, ⟨z16_⟩⟩
 case round =>
  clear H'
  obtain ⟨x4_1, rfl, HA, HK1, HB⟩ := hrel
  cases gk with
  | zero => exact absurd HA.out (by simp [spec_l5Two.l0])
  | succ k1 =>
   have H := HA.out
   clear HA
   simp only [spec_l5Two.l0] at H
   by_cases c2 : x4_1 ≥ 0
   rotate_left
   · rw [if_neg c2] at H
     have c2b0 := decide_eq_false c2
     clear c2
     simp only [Option.some.injEq, Prod.mk.injEq] at H
     obtain ⟨rfl, rfl⟩ := H
     go_wp2
     go_ret2
     exact ⟨z29_, z16_⟩
   rw [if_pos c2] at H
   have c2b0 := decide_eq_true c2
   clear c2
   obtain ⟨ji3, hji3⟩ : ∃ j_ : Int, (Int.tmod (wrap64 (x4_1 + 1)) 3) = j_ := ⟨_, rfl⟩
   replace H : (if 0 ≤ (ji3) then (if (ji3) < (l0.length : Int) then (if 0 ≤ (Int.tmod (wrap64 (x4_1 + 2)) 3) then (if (Int.tmod (wrap64 (x4_1 + 2)) 3) < (l0.length : Int) then ((spec_l1Gcd.f k1 (rd l0 (ji3)) (rd l0 (Int.tmod (wrap64 (x4_1 + 2)) 3))).bind fun t260 => (if t260 > 1 then ((spec_l1Primes.f k1 t260).bind fun t261 => (if 0 < (t261.length : Int) then (some (rd t261 0, x4_1)) else (none))) else (spec_l5Two.l0 k1 l0 (wrap64 (x4_1 - 1))))) else (none)) else (none)) else (none)) else (none)) = some (r1, r2) := by first | (rw [hji3] at H; exact H) | (simp only [hji3] at H ⊢; exact H)
   obtain ⟨c4, H⟩ := in_ H
   have c4b0 := decide_eq_true c4
   clear c4
   obtain ⟨c5, H⟩ := in_ H
   have c5b0 := decide_eq_true c5
   clear c5
   obtain ⟨ji6, hji6⟩ : ∃ j_ : Int, (Int.tmod (wrap64 (x4_1 + 2)) 3) = j_ := ⟨_, rfl⟩
   replace H : (if 0 ≤ (ji6) then (if (ji6) < (l0.length : Int) then ((spec_l1Gcd.f k1 (rd l0 (ji3)) (rd l0 (ji6))).bind fun t260 => (if t260 > 1 then ((spec_l1Primes.f k1 t260).bind fun t261 => (if 0 < (t261.length : Int) then (some (rd t261 0, x4_1)) else (none))) else (spec_l5Two.l0 k1 l0 (wrap64 (x4_1 - 1))))) else (none)) else (none)) = some (r1, r2) := by first | (rw [hji6] at H; exact H) | (simp only [hji6] at H ⊢; exact H)
   obtain ⟨c7, H⟩ := in_ H
   have c7b0 := decide_eq_true c7
   clear c7
   obtain ⟨c8, H⟩ := in_ H
   have c8b0 := decide_eq_true c8
   clear c8
   obtain ⟨t260, A9, H⟩ := bi_ H
   by_cases c10 : t260 > 1
   · rw [if_pos c10] at H
     have c10b0 := decide_eq_true c10
     clear c10
     obtain ⟨t261, A11, H⟩ := bi_ H
     obtain ⟨c12, H⟩ := in_ H
     have c12b0 := decide_eq_true c12
     have c12b1 : decide (0 < t261.length) = true := decide_eq_true (by omega)
     clear c12
     simp only [Option.some.injEq, Prod.mk.injEq] at H
     obtain ⟨rfl, rfl⟩ := H
     go_wp2
     replace HB:= Aside0.mk (below_drew1 HB.out)
     have p258 : 0 ≤ ((ji3) : Int) := of_decide_eq_true z31_
     have q258 : (ji3) < (l0.length : Int) := of_decide_eq_true z31_
     obtain ⟨ad258, e258, hx258_0⟩ := Kd.at_int HR0.out (ji3) p258 q258
     have hw258_0 := hx258_0
     cases e258
     replace hx258_0 := (HB.out.cell (World.block_lt_of_cell? w _ hx258_0)).trans hx258_0
     replace p258 := eq_true p258
     replace q258 := eq_true q258
     have p259 : 0 ≤ ((ji6) : Int) := of_decide_eq_true z31_
     have q259 : (ji6) < (l0.length : Int) := of_decide_eq_true z31_
     obtain ⟨ad259, e259, hx259_0⟩ := Kd.at_int HR0.out (ji6) p259 q259
     have hw259_0 := hx259_0
     obtain rfl : ad258 = ad259 := (by injection e259)
     replace hx259_0 := (HB.out.cell (World.block_lt_of_cell? w _ hx259_0)).trans hx259_0
     replace p259 := eq_true p259
     replace q259 := eq_true q259
     refine start_ (n := 14) (S := fun w' => w'.cell? (ad258.add ((ji3)).toNat) = some (.int .i64 (rd l0 (ji3))) ∧ w'.cell? (ad258.add ((ji6)).toNat) = some (.int .i64 (rd l0 (ji6)))) (ds := []) (bs_ 14 0) (by kernel_rfl) rfl rfl ⟨((HB.out.cell (World.block_lt_of_cell? w _ hw258_0)).trans hw258_0), ((HB.out.cell (World.block_lt_of_cell? w _ hw259_0)).trans hw259_0)⟩ (fun hHeld => ?_); refine with_tabW spec_l5Two.tab4 spec_l5Two.bits4 (fun HT_ HW_ => ?_)
     generalize wr.drew = w13 at HB hx258_0 hx259_0 hHeld ⊢
     refine pz_ 0 10 14 1 HT_ ?_
     refine pz_ 1 11 14 3 HT_ ?_
     refine pz_ 2 12 14 7 HT_ ?_
     refine pz_ 3 13 14 15 HT_ ?_
     refine pz_ 4 14 14 31 HT_ ?_
     refine pz_ 6 16 14 95 HT_ ?_
     refine pz_ 7 17 14 223 HT_ ?_
     refine pz_ 8 18 14 479 HT_ ?_
     refine pz_ 9 19 14 991 HT_ ?_
     refine pz_ 10 20 14 2015 HT_ ?_
     refine ta_ 5 15 14 2047 HT_ HW_ hHeld ?_
     refine ta_ 11 21 14 4095 HT_ HW_ hHeld ?_
     refine on_ 12 22 14 8191 HT_ (fun K hK => ?_)
     refine goes_ Try.func131 (by kernel_rfl) rfl #[.int .i64 (rd l0 (ji3)), .int .i64 (rd l0 (ji6))] (by rfl) rfl rfl (by (try simp only [List.map_toArray, List.map_cons, List.map_nil]); first | done | (simp only [hji3, hji6]; rfl) | rfl | (simp only [List.length_drop, List.length_take]; rfl)) ?_
     with_reducible refine (spec_l1Gcd.calls k1 (rd l0 (ji3)) (rd l0 (ji6)) t260 _ A9.out).mono ?_
     rintro e w14 ⟨rfl, hb⟩
     refine ⟨_, rfl, ?_⟩
     replace HB:= Aside0.mk (below_step z16_ hb)
     clear hb
     refine hK.out _ _ ⟨((HB.out.cell (World.block_lt_of_cell? w _ hw258_0)).trans hw258_0), ((HB.out.cell (World.block_lt_of_cell? w _ hw259_0)).trans hw259_0)⟩ (fun hHeld => ?_)
     clear hK K
     refine norm_ (a' := ?_) ?_ ?_
     rotate_left
     · show Act.put _ (some 22) _ = _
       simp only [Act.put, List.setIfInBounds_toArray, List.set_cons_zero, List.set_cons_succ, i64_w, i32_w]
       rfl
     refine pz_ 13 5 14 16383 HT_ ?_
     refine dn_ HT_ ?_
     try go_wp2_with (first | ((with_reducible refine gate_callee (f := 114) rfl ?_); refine goesL_ (some 26) rfl rfl Try.func114 (by kernel_rfl) rfl #[.int .i64 t260] rfl z14_ ?_; (with_reducible refine (spec_l1Primes.calls k1 t260 t261 _ A11.out).mono ?_); rintro e w15 ⟨v262, rfl, ho0, hb⟩; refine ⟨_, rfl, ?_⟩; have HO263:= Aside0.mk (Kd.R_lower ho0 (below_size z16_)); replace HB:= Aside0.mk (below_step z16_ hb); clear hb ho0; obtain ⟨Ao16, co16, eo16⟩ := Kd.R_slice HO263.out; subst eo16; have p264 : 0 ≤ (0 : Int) := (by omega); have q264 : 0 < (t261.length : Int) := of_decide_eq_true z31_; obtain ⟨ad264, e264, hx264_0⟩ := Kd.at_int (Kd.R_reads' HO263.out).2.2 0 p264 q264; cases e264; have qi264 : (0 < t261.length) = True := eq_true (by omega); (try rw [show ((0 : Int)).toNat = 0 from rfl] at hx264_0); (try rw [Addr.add_zero'] at hx264_0); replace p264 := eq_true p264; replace q264 := eq_true q264))
     go_ret2
     exact ⟨by first | rfl | (simp [errW_none, errW_some] <;> rfl) | (simp only [← hji3, ← hji6]; first | rfl | (simp [errW_none, errW_some] <;> rfl)) | (simp [*, errW_none, errW_some] <;> rfl), z16_⟩
   rw [if_neg c10] at H
   have c10b0 := decide_eq_false c10
   clear c10
   have H' := Aside0.mk H
   clear H
   go_wp2
   replace HB:= Aside0.mk (below_drew1 HB.out)
   have p258 : 0 ≤ ((ji3) : Int) := of_decide_eq_true z31_
   have q258 : (ji3) < (l0.length : Int) := of_decide_eq_true z31_
   obtain ⟨ad258, e258, hx258_0⟩ := Kd.at_int HR0.out (ji3) p258 q258
   have hw258_0 := hx258_0
   cases e258
   replace hx258_0 := (HB.out.cell (World.block_lt_of_cell? w _ hx258_0)).trans hx258_0
   replace p258 := eq_true p258
   replace q258 := eq_true q258
   have p259 : 0 ≤ ((ji6) : Int) := of_decide_eq_true z31_
   have q259 : (ji6) < (l0.length : Int) := of_decide_eq_true z31_
   obtain ⟨ad259, e259, hx259_0⟩ := Kd.at_int HR0.out (ji6) p259 q259
   have hw259_0 := hx259_0
   obtain rfl : ad258 = ad259 := (by injection e259)
   replace hx259_0 := (HB.out.cell (World.block_lt_of_cell? w _ hx259_0)).trans hx259_0
   replace p259 := eq_true p259
   replace q259 := eq_true q259
   refine start_ (n := 14) (S := fun w' => w'.cell? (ad258.add ((ji3)).toNat) = some (.int .i64 (rd l0 (ji3))) ∧ w'.cell? (ad258.add ((ji6)).toNat) = some (.int .i64 (rd l0 (ji6)))) (ds := []) (bs_ 14 0) (by kernel_rfl) rfl rfl ⟨((HB.out.cell (World.block_lt_of_cell? w _ hw258_0)).trans hw258_0), ((HB.out.cell (World.block_lt_of_cell? w _ hw259_0)).trans hw259_0)⟩ (fun hHeld => ?_); refine with_tabW spec_l5Two.tab4 spec_l5Two.bits4 (fun HT_ HW_ => ?_)
   generalize wr.drew = w17 at HB hx258_0 hx259_0 hHeld ⊢
   refine pz_ 0 10 14 1 HT_ ?_
   refine pz_ 1 11 14 3 HT_ ?_
   refine pz_ 2 12 14 7 HT_ ?_
   refine pz_ 3 13 14 15 HT_ ?_
   refine pz_ 4 14 14 31 HT_ ?_
   refine pz_ 6 16 14 95 HT_ ?_
   refine pz_ 7 17 14 223 HT_ ?_
   refine pz_ 8 18 14 479 HT_ ?_
   refine pz_ 9 19 14 991 HT_ ?_
   refine pz_ 10 20 14 2015 HT_ ?_
   refine ta_ 5 15 14 2047 HT_ HW_ hHeld ?_
   refine ta_ 11 21 14 4095 HT_ HW_ hHeld ?_
   refine on_ 12 22 14 8191 HT_ (fun K hK => ?_)
   refine goes_ Try.func131 (by kernel_rfl) rfl #[.int .i64 (rd l0 (ji3)), .int .i64 (rd l0 (ji6))] (by rfl) rfl rfl (by (try simp only [List.map_toArray, List.map_cons, List.map_nil]); first | done | (simp only [hji3, hji6]; rfl) | rfl | (simp only [List.length_drop, List.length_take]; rfl)) ?_
   with_reducible refine (spec_l1Gcd.calls k1 (rd l0 (ji3)) (rd l0 (ji6)) t260 _ A9.out).mono ?_
   rintro e w18 ⟨rfl, hb⟩
   refine ⟨_, rfl, ?_⟩
   replace HB:= Aside0.mk (below_step z16_ hb)
   clear hb
   refine hK.out _ _ ⟨((HB.out.cell (World.block_lt_of_cell? w _ hw258_0)).trans hw258_0), ((HB.out.cell (World.block_lt_of_cell? w _ hw259_0)).trans hw259_0)⟩ (fun hHeld => ?_)
   clear hK K
   refine norm_ (a' := ?_) ?_ ?_
   rotate_left
   · show Act.put _ (some 22) _ = _
     simp only [Act.put, List.setIfInBounds_toArray, List.set_cons_zero, List.set_cons_succ, i64_w, i32_w]
     rfl
   refine pz_ 13 5 14 16383 HT_ ?_
   refine dn_ HT_ ?_
   go_wp2
   go_roundg k1
   case measure => have := HK1.out; omega
   case rel => exact ⟨(wrap64 (x4_1 - 1)), z32_, H', ⟨by have := HK1.out; omega⟩, ⟨z16_⟩⟩

end Go.Proofs.Ytdeahlommlgceaa.PFnNormal

-- Written by a program of this repo (wip/gen/gen.py) over the kit's print.
-- (slim)
import Derived.Test.YtdeahlommlgceaaPFnNormalx0
import Derived.Test.YtdeahlommlgceaaPFnNormalx1
import Derived.Test.YtdeahlommlgceaaPFnNormalx5
import Derived.Test.YtdeahlommlgceaaPFnNormalx6
namespace Go.Proofs.Ytdeahlommlgceaa.PFnNormal
open Go.RowKit Go.Proofs.YtdeahlommlgceaaW.PrintWords Go.Proofs.YtdeahlommlgceaaW.PrintLast Go.Proofs.YtdeahlommlgceaaW.PrintMore
attribute [local go_sem] max2_int min2_int max_two min_two max_three min_three max_four min_four   -- for this text's walks alone
set_option linter.unusedVariables false
set_option maxHeartbeats 8000000
set_option maxRecDepth 100000
set_option linter.unusedSimpArgs false

/-! ### spec_l5Normal: function 74 -/
mutual
def spec_l5Normal.l0 : Nat → List Int → List Int → List Int → Int → Option (List Int × List Int)
 | 0, _, _, _, _ => none
 | k + 1, x0, x4, x5, x6 => if x6 < 3 then (if 0 ≤ x6 then (if x6 < (x0.length : Int) then ((spec_l1Core.f k (rd x0 x6)).bind fun bt272 => (if x4.length < 17592186044416 then (if 0 ≤ (Int.tmod (wrap64 (x6 + 1)) 3) then (if (Int.tmod (wrap64 (x6 + 1)) 3) < (x5.length : Int) then ((some (x5.set ((Int.tmod (wrap64 (x6 + 1)) 3) : Int).toNat (wrap64 ((rd x5 (Int.tmod (wrap64 (x6 + 1)) 3)) * bt272.2)) : List Int)).bind fun y278 => (if 0 ≤ (Int.tmod (wrap64 (x6 + 2)) 3) then (if (Int.tmod (wrap64 (x6 + 2)) 3) < (x5.length : Int) then (spec_l5Normal.l0 k x0 (x4 ++ [bt272.1]) (y278.set ((Int.tmod (wrap64 (x6 + 2)) 3) : Int).toNat (wrap64 ((rd y278 (Int.tmod (wrap64 (x6 + 2)) 3)) * bt272.2))) (wrap64 (x6 + 1))) else (none)) else (none))) else (none)) else (none)) else (none))) else (none)) else (none)) else ((spec_l5Two.f k x4).bind fun bt281 => (spec_l5Normal.l1 k x4 x5 bt281.1 bt281.2))
def spec_l5Normal.l1 : Nat → List Int → List Int → Int → Int → Option (List Int × List Int)
 | 0, _, _, _, _ => none
 | k + 1, x4, x5, x9, x10 => if x9 > 1 then (if 0 ≤ (Int.tmod (wrap64 (x10 + 1)) 3) then (if (Int.tmod (wrap64 (x10 + 1)) 3) < (x4.length : Int) then (if x9 = 0 then (none) else ((some (x4.set ((Int.tmod (wrap64 (x10 + 1)) 3) : Int).toNat (wrap64 (Int.tdiv (rd x4 (Int.tmod (wrap64 (x10 + 1)) 3)) x9)) : List Int)).bind fun y284 => (if 0 ≤ (Int.tmod (wrap64 (x10 + 2)) 3) then (if (Int.tmod (wrap64 (x10 + 2)) 3) < (x4.length : Int) then ((some (y284.set ((Int.tmod (wrap64 (x10 + 2)) 3) : Int).toNat (wrap64 (Int.tdiv (rd y284 (Int.tmod (wrap64 (x10 + 2)) 3)) x9)) : List Int)).bind fun y286 => (if 0 ≤ x10 then (if x10 < (x4.length : Int) then (if (Int.tmod (rd y286 x10) x9) = 0 then ((some (y286.set (x10 : Int).toNat (wrap64 (Int.tdiv (rd y286 x10) x9)) : List Int)).bind fun y289 => ((spec_l5Two.f k y289).bind fun bt290 => (spec_l5Normal.l1 k y289 x5 bt290.1 bt290.2))) else ((some (y286.set (x10 : Int).toNat (wrap64 ((rd y286 x10) * x9)) : List Int)).bind fun y293 => (if x10 < (x5.length : Int) then ((spec_l5Two.f k y293).bind fun bt296 => (spec_l5Normal.l1 k y293 (x5.set (x10 : Int).toNat (wrap64 ((rd x5 x10) * x9))) bt296.1 bt296.2)) else (none)))) else (none)) else (none))) else (none)) else (none)))) else (none)) else (none)) else (some (x4, x5))
end
def spec_l5Normal.f (k : Nat) (l0 : List Int) : Option (List Int × List Int) := spec_l5Normal.l0 k l0 (([] : List Int)) (([1, 1, 1] : List Int)) 0
theorem spec_l5Normal.mono_l : ∀ k, (∀ y0 y1 y2 y3, LeO (spec_l5Normal.l0 k y0 y1 y2 y3) (spec_l5Normal.l0 (k + 1) y0 y1 y2 y3)) ∧ (∀ y0 y1 y2 y3, LeO (spec_l5Normal.l1 k y0 y1 y2 y3) (spec_l5Normal.l1 (k + 1) y0 y1 y2 y3))
 | 0 => ⟨fun _ _ _ _ r h => by simp [spec_l5Normal.l0] at h, fun _ _ _ _ r h => by simp [spec_l5Normal.l1] at h⟩
 | k + 1 => by
  obtain ⟨ih0, ih1⟩ := spec_l5Normal.mono_l k
  refine ⟨?_, ?_⟩
  · intro y0 y1 y2 y3
    unfold spec_l5Normal.l0
    exact mo_
  intro y0 y1 y2 y3
  unfold spec_l5Normal.l1
  exact mo_
theorem spec_l5Normal.mono : ∀ a0 k, LeO (spec_l5Normal.f k a0) (spec_l5Normal.f (k + 1) a0) := by
 intro a0 k
 obtain ⟨ih0, ih1⟩ := spec_l5Normal.mono_l k
 unfold spec_l5Normal.f
 exact mo_
theorem spec_l5Normal.calls (k : Nat) (A0 : Option Addr) (c0 : Nat) (l0 : List Int) (r1 : List Int) (r2 : List Int) (w : World) (hr0 : Kd.C (Kd.int .i64) w A0 l0.length l0) (hc0 : l0.length ≤ c0) (h : spec_l5Normal.f k l0 = some (r1, r2)) :
 Calls Try.prog 74 #[.slice A0 l0.length c0] w fun e w' => ∃ v0_ v1_ : Value, e = .returned (.tuple #[v0_, v1_]) ∧ Kd.R (Kd.int .i64) 3 w' w.heap.size (fun k_ => some k_ ≠ (v1_ : Value).ownBlock) v0_ r1 ∧ Kd.R (Kd.int .i64) 3 w' w.heap.size (fun k_ => some k_ ≠ (v0_ : Value).ownBlock) v1_ r2 ∧ Below w.heap.size w w' := by
 have HR0 := Aside0.mk hr0
 have HC0 := Aside0.mk hc0
 clear hr0 hc0
 have HB := Aside0.mk (Below.refl w.heap.size w)
 have H := h
 clear h
 unfold spec_l5Normal.f at H
 obtain ⟨y265, hy265⟩ : ∃ y_ : List Int, y_ = (([] : List Int)) := ⟨_, rfl⟩
 replace H : (spec_l5Normal.l0 k l0 y265 (([1, 1, 1] : List Int)) 0) = some (r1, r2) := by first | (rw [hy265]; with_reducible exact H) | (have H2_ := (Option.bind_some _ _).symm.trans H; rw [hy265]; with_reducible exact H2_) | (have H2_ := (Option.bind_some _ _).symm.trans H; with_reducible exact H2_) | with_reducible exact H | (rw [hy265]; exact H) | exact H
 have Ny265 := Aside0.mk hy265
 clear hy265
 generalize h_ : (([1, 1, 1] : List Int)) = y268 at H
 have Ny268 := Aside0.mk h_.symm
 clear h_
 have H' := Aside0.mk H
 clear H
 go_enter Try.func74, Try.ntmps74
 go_wp2_with (first | ((with_reducible refine gate_dst (N := 11) rfl ?_); refine Kd.R_lit (Kd.int .i64) _ 3 ?hg (N := 11) ?hd (xs := ([] : List Int)) (inner := []) (ok := fun _ => True) (okp := fun _ => True) ?hr ?hp (fun _ hk => hk) trivial (Below.refl _ _) (Nat.le_refl _) (by simp) ?_; (case hd => rfl); (case hg => rfl); (case hr => first | (go_simp; done) | (go_simp; rfl)); (case hp => exact (Reps.none _ _)); intro v266 w2 ho3 hb hg_ hnew_; clear hg_ hnew_; (first | rw [← Ny265.out] at ho3 | (simp only [Int.reduceToNat] at ho3; rw [← Ny265.out] at ho3)); have HO267:= Aside0.mk (Kd.R_lower ho3 (below_size z16_)); replace HB:= Aside0.mk (below_step z16_ hb); clear hb ho3) | ((with_reducible refine gate_dst (N := 12) rfl ?_); refine Kd.R_lit (Kd.int .i64) _ 3 ?hg (N := 12) ?hd (xs := ([1, 1, 1] : List Int)) (inner := [.int .i64 1, .int .i64 1, .int .i64 1]) (ok := fun _ => True) (okp := fun _ => True) ?hr ?hp (fun _ hk => hk) trivial (Below.refl _ _) (Nat.le_refl _) (by simp) ?_; (case hd => rfl); (case hg => rfl); (case hr => first | (go_simp; done) | (go_simp; rfl)); (case hp => exact (Reps.one (show Kd.M (Kd.int .i64) _ _ _ 1 [.int .i64 1] from rfl) (Reps.one (show Kd.M (Kd.int .i64) _ _ _ 1 [.int .i64 1] from rfl) (Reps.one (show Kd.M (Kd.int .i64) _ _ _ 1 [.int .i64 1] from rfl) (Reps.none _ _))))); intro v269 w4 ho5 hb hg_ hnew_; clear hg_ hnew_; (first | rw [← Ny268.out] at ho5 | (simp only [Int.reduceToNat] at ho5; rw [← Ny268.out] at ho5)); have HO270:= Aside0.mk (Kd.R_lower (Kd.R_new' ho5 (Kd.R_lt (by (with_reducible repeat (first | apply Kd.R_alloc | apply Kd.R_drewN | apply Kd.R_drew)); exact HO267.out))) (below_size z16_)); replace HO267:= Aside0.mk (Kd.R_elder' (by (with_reducible repeat (first | apply Kd.R_alloc | apply Kd.R_drewN | apply Kd.R_drew)); exact HO267.out) (Kd.R_base ho5) hb); replace HB:= Aside0.mk (below_step z16_ hb); clear hb ho5))
 go_loopg [4, 6] k (fun kq v4 v6 w' => ∃ (x4_1 : List Int) (x5_1 : List Int) (x6_1 : Int), v6 = .int .i64 x6_1 ∧ Aside0 (spec_l5Normal.l0 kq l0 x4_1 x5_1 x6_1 = some (r1, r2)) ∧ Aside0 (kq ≤ k) ∧ Aside0 (Kd.R (Kd.int .i64) 3 w' w.heap.size (fun k_ => some k_ ≠ (v269 : Value).ownBlock) v4 x4_1) ∧ Aside0 (Kd.R (Kd.int .i64) 3 w' w.heap.size (fun k_ => some k_ ≠ (v4 : Value).ownBlock) v269 x5_1) ∧ Aside0 (Below w.heap.size w w'))
 case atStart => exact ⟨(y265), (y268), (0), z32_, H', ⟨Nat.le_refl _⟩, ⟨by (with_reducible repeat (first | apply Kd.R_alloc | apply Kd.R_drewN | apply Kd.R_drew)); exact Kd.R_mono HO267.out (fun _ hk => hk.2)⟩, ⟨by (with_reducible repeat (first | apply Kd.R_alloc | apply Kd.R_drewN | apply Kd.R_drew)); exact Kd.R_mono HO270.out (fun _ hk => hk.2)⟩, ⟨z16_⟩⟩
 case round =>
  clear H'
  obtain ⟨x4_1, x5_1, x6_1, rfl, HA, HK1, HO_4, HO_5, HB⟩ := hrel
  cases gk with
  | zero => exact absurd HA.out (by simp [spec_l5Normal.l0])
  | succ k1 =>
   have H := HA.out
   clear HA
   simp only [spec_l5Normal.l0] at H
   by_cases c6 : x6_1 < 3
   · rw [if_pos c6] at H
     have c6b0 := decide_eq_true c6
     clear c6
     obtain ⟨c7, H⟩ := in_ H
     have c7b0 := decide_eq_true c7
     clear c7
     obtain ⟨c8, H⟩ := in_ H
     have c8b0 := decide_eq_true c8
     clear c8
     obtain ⟨⟨t272, t273⟩, A9, H⟩ := bi_ H
     try dsimp only at H
     obtain ⟨c10, H⟩ := in_ H
     have LMc10 := Aside0.mk c10
     clear c10
     generalize h_ : (x4_1 ++ [t272]) = y274 at H
     have Ny274 := Aside0.mk h_.symm
     clear h_
     obtain ⟨ji11, hji11⟩ : ∃ j_ : Int, (Int.tmod (wrap64 (x6_1 + 1)) 3) = j_ := ⟨_, rfl⟩
     replace H : (if 0 ≤ (ji11) then (if (ji11) < (x5_1.length : Int) then ((some (x5_1.set ((ji11) : Int).toNat (wrap64 ((rd x5_1 (ji11)) * t273)) : List Int)).bind fun y278 => (if 0 ≤ (Int.tmod (wrap64 (x6_1 + 2)) 3) then (if (Int.tmod (wrap64 (x6_1 + 2)) 3) < (x5_1.length : Int) then (spec_l5Normal.l0 k1 l0 y274 (y278.set ((Int.tmod (wrap64 (x6_1 + 2)) 3) : Int).toNat (wrap64 ((rd y278 (Int.tmod (wrap64 (x6_1 + 2)) 3)) * t273))) (wrap64 (x6_1 + 1))) else (none)) else (none))) else (none)) else (none)) = some (r1, r2) := by first | (rw [hji11] at H; exact H) | (simp only [hji11] at H ⊢; exact H)
     obtain ⟨c12, H⟩ := in_ H
     have c12b0 := decide_eq_true c12
     clear c12
     obtain ⟨c13, H⟩ := in_ H
     have c13b0 := decide_eq_true c13
     clear c13
     obtain ⟨y278, Ny278, H⟩ := by_ H
     obtain ⟨ji15, hji15⟩ : ∃ j_ : Int, (Int.tmod (wrap64 (x6_1 + 2)) 3) = j_ := ⟨_, rfl⟩
     replace H : (if 0 ≤ (ji15) then (if (ji15) < (x5_1.length : Int) then (spec_l5Normal.l0 k1 l0 y274 (y278.set ((ji15) : Int).toNat (wrap64 ((rd y278 (ji15)) * t273))) (wrap64 (x6_1 + 1))) else (none)) else (none)) = some (r1, r2) := by first | (rw [hji15] at H; exact H) | (simp only [hji15] at H ⊢; exact H)
     obtain ⟨c16, H⟩ := in_ H
     have c16b0 := decide_eq_true c16
     clear c16
     obtain ⟨c17, H⟩ := in_ H
     have c17b0 := decide_eq_true c17
     clear c17
     generalize h_ : (y278.set ((ji15) : Int).toNat (wrap64 ((rd y278 (ji15)) * t273))) = y280 at H
     have Ny280 := Aside0.mk h_.symm
     clear h_
     have H' := Aside0.mk H
     clear H
     have p271 : 0 ≤ (x6_1 : Int) := of_decide_eq_true z31_
     have q271 : x6_1 < (l0.length : Int) := of_decide_eq_true z31_
     obtain ⟨ad271, e271, hx271_0⟩ := Kd.at_int HR0.out x6_1 p271 q271
     cases e271
     replace hx271_0 := (HB.out.cell (World.block_lt_of_cell? w _ hx271_0)).trans hx271_0
     replace p271 := eq_true p271
     replace q271 := eq_true q271
     go_wp2_with (first | ((with_reducible refine gate_callee (f := 113) rfl ?_); refine goesL_ (some 22) rfl rfl Try.func113 (by kernel_rfl) rfl #[.int .i64 (rd l0 x6_1)] rfl z14_ ?_; (with_reducible refine (spec_l1Core.calls k1 (rd l0 x6_1) t272 t273 _ A9.out).mono ?_); rintro e w19 ⟨rfl, hb⟩; refine ⟨_, rfl, ?_⟩; replace HO_4:= Aside0.mk (Kd.R_below z26_ hb); replace HO_5:= Aside0.mk (Kd.R_below z23_ hb); replace HB:= Aside0.mk (below_step z16_ hb); clear hb) | ((with_reducible refine gate_builtin (b := .append) (xs := #[.tmp 25, .tmp 27]) rfl ?_); at_builtin; refine Kd.R_append (Kd.int .i64) (w0 := w) w.heap.size rfl (.tmp 25) (.tmp 27) 23 3 (.int .i64 0) 8 rfl Try.underlying23 info3 rfl (by decide) (by omega) u4 x4_1 t272 [.int .i64 t272] (fun k_ => some k_ ≠ (v269 : Value).ownBlock) (fun _ => False) rfl rfl ?aP (fun _ hk => hk.elim) ?aF ?aO ?aB ?aS ?aL ?_; (case aP => exact rfl); (case aB => exact z16_); (case aF => exact (fun k_ hk => Kd.fresh' (Kd.R_lt z23_) k_ hk)); (case aO => exact z26_); (case aS => exact (below_size z16_)); (case aL => have := LMc10.out; omega); intro v275 w20 ho hb hg hat; rw [← Ny274.out] at ho; replace HO_5:= Aside0.mk (Kd.R_after (ok := (fun _ => True)) z12_ hg hat); replace HB:= Aside0.mk (hb); have HO276:= Aside0.mk (ho); clear HO_4; clear ho hb hg hat; obtain ⟨Ao21, co21, eo21⟩ := Kd.R_slice HO_5.out; subst eo21; have p277 : 0 ≤ ((ji11) : Int) := of_decide_eq_true z31_; have q277 : (ji11) < (x5_1.length : Int) := of_decide_eq_true z31_; obtain ⟨ad277, e277, hx277_0⟩ := Kd.at_int (Kd.R_reads' HO_5.out).2.2 (ji11) p277 q277; cases e277; replace p277 := eq_true p277; replace q277 := eq_true q277; have p14 : 0 ≤ ((ji11) : Int) := of_decide_eq_true z31_; have q14 : ((ji11) : Int) < ((x5_1.length : Int) : Int) := of_decide_eq_true z31_; obtain ⟨go14, co14, eo14, gb14, gl14, cl14, HG14⟩ := Kd.R_form HO_5.out (by omega); (first | cases eo14 | (injection eo14 with ea_ en_ ec_; (first | subst ea_ | (injection ea_ with ea_; subst ea_)); subst ec_; clear en_)); have GB14 := Aside0.mk gb14; have GG14 := Aside0.mk HG14; clear gb14 gl14 HG14; (first | simp only [add_plain] at hx277_0 | skip); obtain ⟨hx14_0, hf14_0⟩ := Kd.R_celln 0 HO_5.out ((ji11) : Int) p14 q14; replace p14 := eq_true p14; replace q14 := eq_true q14; have n_ := Aside0.mk (Kd.R_mono (ok' := (fun k_ => some k_ ≠ (v275 : Value).ownBlock)) HO_5.out (fun k_ hk => hk.2)); clear HO_5; have HO_5 := n_; clear n_; obtain ⟨hy22_, hz22_⟩ := Kd.R_celln 0 HO_5.out ((ji11) : Int) (of_decide_eq_true z31_) (of_decide_eq_true z31_); have HP22 := Kd.R_putg HO_5.out ((ji11) : Int) (wrap64 ((rd x5_1 (ji11)) * t273))) | ((with_reducible refine gate_store (t := 3) (p := 41) rfl ?_); refine store_event (t := 3) (p := 41) (v := ?vo_w23) (w1 := (w20.setCell ⟨go14, ((ji11) : Int).toNat, none⟩ (.int .i64 (wrap64 ((rd x5_1 (ji11)) * t273))))) ?hg ?ho ?hn ?hr ?_; (case ho => rfl); (case hg => rfl); (case hn => rfl); (case hr => first | (go_simp; done) | (go_simp; rfl)); intro w23 hw; have hg : w20.grownBy w23 (some go14) := (by rw [hw]; exact HP22.2); have hp_ : Kd.R (Kd.int .i64) 3 w23 w.heap.size (fun k_ => some k_ ≠ (v275 : Value).ownBlock) (.slice (some ⟨go14, 0, none⟩) x5_1.length co21) y278 := (by rw [hw, Ny278.out]; exact HP22.1); clear HP22; replace HO_5:= Aside0.mk (hp_); replace HO276:= Aside0.mk (Kd.R_after (v := (.slice (some ⟨go14, 0, none⟩) x5_1.length co21)) (v1 := (.slice (some ⟨go14, 0, none⟩) x5_1.length co21)) (ok := (fun _ => True)) (by (with_reducible repeat (first | apply Kd.R_alloc | apply Kd.R_drewN | apply Kd.R_drew)); exact Kd.R_mono HO276.out (fun _ hk => ⟨trivial, hk⟩)) hg (.inl rfl)); replace HB:= Aside0.mk ((by rw [hw]; exact below_set (HB.out) GB14.out : Below w.heap.size w w23)); clear hg hw hp_; have p279 : 0 ≤ ((ji15) : Int) := of_decide_eq_true z31_; have q279 : (ji15) < (y278.length : Int) := (by have h_ : ((ji15) : Int) < ((x5_1.length : Int) : Int) := of_decide_eq_true z31_; first | (have e_ := (Kd.R_reads' HO_5.out).1; omega) | simpa only [Ny278.out, List.length_set] using h_); have ql279 : (((ji15) : Int) < ((x5_1.length : Int) : Int)) = True := eq_true (of_decide_eq_true z31_); obtain ⟨ad279, e279, hx279_0⟩ := Kd.at_int (Kd.R_reads' HO_5.out).2.2 (ji15) p279 q279; obtain rfl : (⟨go14, 0, none⟩ : Addr) = ad279 := (by injection e279); (first | simp only [add_plain] at hx279_0 | simp only [add_at] at hx279_0 | simp only [Addr.add, Nat.zero_add] at hx279_0 | skip); replace p279 := eq_true p279; replace q279 := eq_true q279; have p18 : 0 ≤ ((ji15) : Int) := of_decide_eq_true z31_; have q18 : ((ji15) : Int) < ((x5_1.length : Int) : Int) := of_decide_eq_true z31_; obtain ⟨hx18_0, hf18_0⟩ := Kd.R_celln 0 HO_5.out ((ji15) : Int) p18 q18; replace p18 := eq_true p18; replace q18 := eq_true q18; obtain ⟨hy24_, hz24_⟩ := Kd.R_celln 0 HO_5.out ((ji15) : Int) (of_decide_eq_true z31_) (of_decide_eq_true z31_); have HP24 := Kd.R_putg HO_5.out ((ji15) : Int) (wrap64 ((rd y278 (ji15)) * t273))) | ((with_reducible refine gate_store (t := 3) (p := 54) rfl ?_); refine store_event (t := 3) (p := 54) (v := ?vo_w25) (w1 := (w23.setCell ⟨go14, ((ji15) : Int).toNat, none⟩ (.int .i64 (wrap64 ((rd y278 (ji15)) * t273))))) ?hg ?ho ?hn ?hr ?_; (case ho => rfl); (case hg => rfl); (case hn => rfl); (case hr => first | (go_simp; done) | (go_simp; rfl)); intro w25 hw; have hg : w23.grownBy w25 (some go14) := (by rw [hw]; exact HP24.2); have hp_ : Kd.R (Kd.int .i64) 3 w25 w.heap.size (fun k_ => some k_ ≠ (v275 : Value).ownBlock) (.slice (some ⟨go14, 0, none⟩) x5_1.length co21) y280 := (by rw [hw, Ny280.out]; exact HP24.1); clear HP24; replace HO_5:= Aside0.mk (hp_); replace HO276:= Aside0.mk (Kd.R_after (v := (.slice (some ⟨go14, 0, none⟩) x5_1.length co21)) (v1 := (.slice (some ⟨go14, 0, none⟩) x5_1.length co21)) (ok := (fun _ => True)) (by (with_reducible repeat (first | apply Kd.R_alloc | apply Kd.R_drewN | apply Kd.R_drew)); exact HO276.out) hg (.inl rfl)); replace HB:= Aside0.mk ((by rw [hw]; exact below_set (HB.out) GB14.out : Below w.heap.size w w25)); clear hg hw hp_))
     go_roundg k1
     case measure => have := HK1.out; omega
     case rel => exact ⟨(y274), (y280), (wrap64 (x6_1 + 1)), z32_, H', ⟨by have := HK1.out; omega⟩, ⟨by (with_reducible repeat (first | apply Kd.R_alloc | apply Kd.R_drewN | apply Kd.R_drew)); exact Kd.R_mono HO276.out (fun _ hk => hk.2)⟩, ⟨z23_⟩, ⟨z16_⟩⟩
   rw [if_neg c6] at H
   have c6b0 := decide_eq_false c6
   clear c6
   obtain ⟨⟨t281, t282⟩, A26, H⟩ := bi_ H
   try dsimp only at H
   have H' := Aside0.mk H
   clear H
   obtain ⟨Ao27, co27, eo27⟩ := Kd.R_slice HO_4.out
   subst eo27
   go_wp2_with (first | ((with_reducible refine gate_callee (f := 117) rfl ?_); refine goesL_ (some 57) rfl rfl Try.func117 (by kernel_rfl) rfl #[.slice Ao27 x4_1.length co27] rfl z14_ ?_; (with_reducible refine (spec_l5Two.calls k1 _ _ x4_1 t281 t282 _ ?side1 ?side2 A26.out).mono ?_); (case side1 => repeat (first | exact (Kd.R_reads' HO_4.out).2.2 | (with_reducible refine Kd.C_alloc ?_ _) | (with_reducible refine Kd.C_drewN ?_ _) | (with_reducible refine Kd.C_drew ?_))); (case side2 => exact (Kd.R_reads' HO_4.out).2.1); rintro e w28 ⟨rfl, hb⟩; refine ⟨_, rfl, ?_⟩; replace HO_4:= Aside0.mk (Kd.R_below z26_ hb); replace HO_5:= Aside0.mk (Kd.R_below z23_ hb); replace HB:= Aside0.mk (below_step z16_ hb); clear hb))
   go_loopg [9, 10] k1 (fun kq v9 v10 w' => ∃ (x4_2 : List Int) (x5_2 : List Int) (x9_2 : Int) (x10_2 : Int), v9 = .int .i64 x9_2 ∧ v10 = .int .i64 x10_2 ∧ Aside0 (spec_l5Normal.l1 kq x4_2 x5_2 x9_2 x10_2 = some (r1, r2)) ∧ Aside0 (kq ≤ k1) ∧ Aside0 (Kd.R (Kd.int .i64) 3 w' w.heap.size (fun k_ => some k_ ≠ (v269 : Value).ownBlock) (.slice Ao27 x4_1.length co27) x4_2) ∧ Aside0 (Kd.R (Kd.int .i64) 3 w' w.heap.size (fun k_ => some k_ ≠ ((.slice Ao27 x4_1.length co27) : Value).ownBlock) v269 x5_2) ∧ Aside0 (Below w.heap.size w w'))
   case atStart => exact ⟨(x4_1), (x5_1), (t281), (t282), z32_, z32_, H', ⟨Nat.le_refl _⟩, ⟨z26_⟩, ⟨z23_⟩, ⟨z16_⟩⟩
   case round =>
    clear H'
    clear c6b0
    obtain ⟨x4_2, x5_2, x9_2, x10_2, rfl, rfl, HA, HK2, HO_4, HO_5, HB⟩ := hrel
    have hl4_2 := (Kd.R_reads' HO_4.out).1
    rw [hl4_2] at HO_4
    simp only [hl4_2]
    simp only [hl4_2] at HO_5
    cases gk with
    | zero => exact absurd HA.out (by simp [spec_l5Normal.l1])
    | succ k2 =>
     have H := HA.out
     clear HA
     simp only [spec_l5Normal.l1] at H
     by_cases c29 : x9_2 > 1
     rotate_left
     · rw [if_neg c29] at H
       have c29b0 := decide_eq_false c29
       clear c29
       simp only [Option.some.injEq, Prod.mk.injEq] at H
       obtain ⟨rfl, rfl⟩ := H
       go_wp2
       go_ret2
       exact ⟨_, _, z29_, z26_, z23_, z16_⟩
     rw [if_pos c29] at H
     have c29b0 := decide_eq_true c29
     clear c29
     obtain ⟨ji30, hji30⟩ : ∃ j_ : Int, (Int.tmod (wrap64 (x10_2 + 1)) 3) = j_ := ⟨_, rfl⟩
     replace H : (if 0 ≤ (ji30) then (if (ji30) < (x4_2.length : Int) then (if x9_2 = 0 then (none) else ((some (x4_2.set ((ji30) : Int).toNat (wrap64 (Int.tdiv (rd x4_2 (ji30)) x9_2)) : List Int)).bind fun y284 => (if 0 ≤ (Int.tmod (wrap64 (x10_2 + 2)) 3) then (if (Int.tmod (wrap64 (x10_2 + 2)) 3) < (x4_2.length : Int) then ((some (y284.set ((Int.tmod (wrap64 (x10_2 + 2)) 3) : Int).toNat (wrap64 (Int.tdiv (rd y284 (Int.tmod (wrap64 (x10_2 + 2)) 3)) x9_2)) : List Int)).bind fun y286 => (if 0 ≤ x10_2 then (if x10_2 < (x4_2.length : Int) then (if (Int.tmod (rd y286 x10_2) x9_2) = 0 then ((some (y286.set (x10_2 : Int).toNat (wrap64 (Int.tdiv (rd y286 x10_2) x9_2)) : List Int)).bind fun y289 => ((spec_l5Two.f k2 y289).bind fun bt290 => (spec_l5Normal.l1 k2 y289 x5_2 bt290.1 bt290.2))) else ((some (y286.set (x10_2 : Int).toNat (wrap64 ((rd y286 x10_2) * x9_2)) : List Int)).bind fun y293 => (if x10_2 < (x5_2.length : Int) then ((spec_l5Two.f k2 y293).bind fun bt296 => (spec_l5Normal.l1 k2 y293 (x5_2.set (x10_2 : Int).toNat (wrap64 ((rd x5_2 x10_2) * x9_2))) bt296.1 bt296.2)) else (none)))) else (none)) else (none))) else (none)) else (none)))) else (none)) else (none)) = some (r1, r2) := by first | (rw [hji30] at H; exact H) | (simp only [hji30] at H ⊢; exact H)
     obtain ⟨c31, H⟩ := in_ H
     have c31b0 := decide_eq_true c31
     clear c31
     obtain ⟨c32, H⟩ := in_ H
     have c32b0 := decide_eq_true c32
     clear c32
     obtain ⟨c33, H⟩ := jn_ H
     have c33b0 := beq_eq_false_iff_ne.mpr c33
     have c33b1 := bne_iff_ne.mpr c33
     obtain ⟨y284, Ny284, H⟩ := by_ H
     obtain ⟨ji35, hji35⟩ : ∃ j_ : Int, (Int.tmod (wrap64 (x10_2 + 2)) 3) = j_ := ⟨_, rfl⟩
     replace H : (if 0 ≤ (ji35) then (if (ji35) < (x4_2.length : Int) then ((some (y284.set ((ji35) : Int).toNat (wrap64 (Int.tdiv (rd y284 (ji35)) x9_2)) : List Int)).bind fun y286 => (if 0 ≤ x10_2 then (if x10_2 < (x4_2.length : Int) then (if (Int.tmod (rd y286 x10_2) x9_2) = 0 then ((some (y286.set (x10_2 : Int).toNat (wrap64 (Int.tdiv (rd y286 x10_2) x9_2)) : List Int)).bind fun y289 => ((spec_l5Two.f k2 y289).bind fun bt290 => (spec_l5Normal.l1 k2 y289 x5_2 bt290.1 bt290.2))) else ((some (y286.set (x10_2 : Int).toNat (wrap64 ((rd y286 x10_2) * x9_2)) : List Int)).bind fun y293 => (if x10_2 < (x5_2.length : Int) then ((spec_l5Two.f k2 y293).bind fun bt296 => (spec_l5Normal.l1 k2 y293 (x5_2.set (x10_2 : Int).toNat (wrap64 ((rd x5_2 x10_2) * x9_2))) bt296.1 bt296.2)) else (none)))) else (none)) else (none))) else (none)) else (none)) = some (r1, r2) := by first | (rw [hji35] at H; exact H) | (simp only [hji35] at H ⊢; exact H)
     obtain ⟨c36, H⟩ := in_ H
     have c36b0 := decide_eq_true c36
     clear c36
     obtain ⟨c37, H⟩ := in_ H
     have c37b0 := decide_eq_true c37
     clear c37
     obtain ⟨y286, Ny286, H⟩ := by_ H
     obtain ⟨c39, H⟩ := in_ H
     have c39b0 := decide_eq_true c39
     clear c39
     obtain ⟨c40, H⟩ := in_ H
     have c40b0 := decide_eq_true c40
     clear c40
     by_cases c41 : (Int.tmod (rd y286 x10_2) x9_2) = 0
     · rw [if_pos c41] at H
       have c41b0 := beq_iff_eq.mpr c41
       have c41b1 := bne_eq_false_iff_eq.mpr c41
       clear c41
       obtain ⟨y289, Ny289, H⟩ := by_ H
       obtain ⟨⟨t290, t291⟩, A43, H⟩ := bi_ H
       try dsimp only at H
       have H' := Aside0.mk H
       clear H
       have p283 : 0 ≤ ((ji30) : Int) := of_decide_eq_true z31_
       have q283 : (ji30) < (x4_2.length : Int) := of_decide_eq_true z31_
       obtain ⟨ad283, e283, hx283_0⟩ := Kd.at_int (Kd.R_reads' HO_4.out).2.2 (ji30) p283 q283
       cases e283
       replace p283 := eq_true p283
       replace q283 := eq_true q283
       have p34 : 0 ≤ ((ji30) : Int) := of_decide_eq_true z31_
       have q34 : ((ji30) : Int) < ((x4_2.length : Int) : Int) := of_decide_eq_true z31_
       obtain ⟨go34, co34, eo34, gb34, gl34, cl34, HG34⟩ := Kd.R_form HO_4.out (by omega)
       (first | cases eo34 | (injection eo34 with ea_ en_ ec_; (first | subst ea_ | (injection ea_ with ea_; subst ea_)); subst ec_; clear en_))
       have GB34 := Aside0.mk gb34
       have GG34 := Aside0.mk HG34
       clear gb34 gl34 HG34
       (first | simp only [add_plain] at hx283_0 | skip)
       obtain ⟨hx34_0, hf34_0⟩ := Kd.R_celln 0 HO_4.out ((ji30) : Int) p34 q34
       replace p34 := eq_true p34
       replace q34 := eq_true q34
       have HP44 := Kd.R_putg HO_4.out ((ji30) : Int) (wrap64 (Int.tdiv (rd x4_2 (ji30)) x9_2))
       go_wp2_with (first | ((with_reducible refine gate_store (t := 3) (p := 74) rfl ?_); refine store_event (t := 3) (p := 74) (v := ?vo_w45) (w1 := (wr.setCell ⟨go34, ((ji30) : Int).toNat, none⟩ (.int .i64 (wrap64 (Int.tdiv (rd x4_2 (ji30)) x9_2))))) ?hg ?ho ?hn ?hr ?_; (case ho => rfl); (case hg => rfl); (case hn => rfl); (case hr => first | (go_simp; done) | (go_simp; rfl)); intro w45 hw; have hg : wr.grownBy w45 (some go34) := (by rw [hw]; exact HP44.2); have hp_ : Kd.R (Kd.int .i64) 3 w45 w.heap.size (fun k_ => some k_ ≠ (v269 : Value).ownBlock) (.slice (some ⟨go34, 0, none⟩) x4_2.length co27) y284 := (by rw [hw, Ny284.out]; exact HP44.1); clear HP44; replace HO_4:= Aside0.mk (hp_); replace HO_5:= Aside0.mk (Kd.R_after (v := (.slice (some ⟨go34, 0, none⟩) x4_2.length co27)) (v1 := (.slice (some ⟨go34, 0, none⟩) x4_2.length co27)) (ok := (fun _ => True)) z12_ hg (.inl rfl)); replace HB:= Aside0.mk ((by rw [hw]; exact below_set (HB.out) GB34.out : Below w.heap.size w w45)); clear hg hw hp_; have p285 : 0 ≤ ((ji35) : Int) := of_decide_eq_true z31_; have q285 : (ji35) < (y284.length : Int) := (by have h_ : ((ji35) : Int) < ((x4_2.length : Int) : Int) := of_decide_eq_true z31_; first | (have e_ := (Kd.R_reads' HO_4.out).1; omega) | simpa only [Ny284.out, List.length_set] using h_); have ql285 : (((ji35) : Int) < ((x4_2.length : Int) : Int)) = True := eq_true (of_decide_eq_true z31_); obtain ⟨ad285, e285, hx285_0⟩ := Kd.at_int (Kd.R_reads' HO_4.out).2.2 (ji35) p285 q285; obtain rfl : (⟨go34, 0, none⟩ : Addr) = ad285 := (by injection e285); (first | simp only [add_plain] at hx285_0 | simp only [add_at] at hx285_0 | simp only [Addr.add, Nat.zero_add] at hx285_0 | skip); replace p285 := eq_true p285; replace q285 := eq_true q285; have p38 : 0 ≤ ((ji35) : Int) := of_decide_eq_true z31_; have q38 : ((ji35) : Int) < ((x4_2.length : Int) : Int) := of_decide_eq_true z31_; obtain ⟨hx38_0, hf38_0⟩ := Kd.R_celln 0 HO_4.out ((ji35) : Int) p38 q38; replace p38 := eq_true p38; replace q38 := eq_true q38; obtain ⟨hy46_, hz46_⟩ := Kd.R_celln 0 HO_4.out ((ji35) : Int) (of_decide_eq_true z31_) (of_decide_eq_true z31_); have HP46 := Kd.R_putg HO_4.out ((ji35) : Int) (wrap64 (Int.tdiv (rd y284 (ji35)) x9_2))) | ((with_reducible refine gate_store (t := 3) (p := 87) rfl ?_); refine store_event (t := 3) (p := 87) (v := ?vo_w47) (w1 := (w45.setCell ⟨go34, ((ji35) : Int).toNat, none⟩ (.int .i64 (wrap64 (Int.tdiv (rd y284 (ji35)) x9_2))))) ?hg ?ho ?hn ?hr ?_; (case ho => rfl); (case hg => rfl); (case hn => rfl); (case hr => first | (go_simp; done) | (go_simp; rfl)); intro w47 hw; have hg : w45.grownBy w47 (some go34) := (by rw [hw]; exact HP46.2); have hp_ : Kd.R (Kd.int .i64) 3 w47 w.heap.size (fun k_ => some k_ ≠ (v269 : Value).ownBlock) (.slice (some ⟨go34, 0, none⟩) x4_2.length co27) y286 := (by rw [hw, Ny286.out]; exact HP46.1); clear HP46; replace HO_4:= Aside0.mk (hp_); replace HO_5:= Aside0.mk (Kd.R_after (v := (.slice (some ⟨go34, 0, none⟩) x4_2.length co27)) (v1 := (.slice (some ⟨go34, 0, none⟩) x4_2.length co27)) (ok := (fun _ => True)) z23_ hg (.inl rfl)); replace HB:= Aside0.mk ((by rw [hw]; exact below_set (HB.out) GB34.out : Below w.heap.size w w47)); clear hg hw hp_; have p287 : 0 ≤ (x10_2 : Int) := of_decide_eq_true z31_; have q287 : x10_2 < (y286.length : Int) := (by have h_ : (x10_2 : Int) < ((x4_2.length : Int) : Int) := of_decide_eq_true z31_; first | (have e_ := (Kd.R_reads' HO_4.out).1; omega) | simpa only [Ny284.out, Ny286.out, List.length_set] using h_); have ql287 : ((x10_2 : Int) < ((x4_2.length : Int) : Int)) = True := eq_true (of_decide_eq_true z31_); obtain ⟨ad287, e287, hx287_0⟩ := Kd.at_int (Kd.R_reads' HO_4.out).2.2 x10_2 p287 q287; obtain rfl : (⟨go34, 0, none⟩ : Addr) = ad287 := (by injection e287); (first | simp only [add_plain] at hx287_0 | simp only [add_at] at hx287_0 | simp only [Addr.add, Nat.zero_add] at hx287_0 | skip); replace p287 := eq_true p287; replace q287 := eq_true q287; have p288 : 0 ≤ (x10_2 : Int) := of_decide_eq_true z31_; have q288 : x10_2 < (y286.length : Int) := (by have h_ : (x10_2 : Int) < ((x4_2.length : Int) : Int) := of_decide_eq_true z31_; first | (have e_ := (Kd.R_reads' HO_4.out).1; omega) | simpa only [Ny284.out, Ny286.out, List.length_set] using h_); have ql288 : ((x10_2 : Int) < ((x4_2.length : Int) : Int)) = True := eq_true (of_decide_eq_true z31_); obtain ⟨ad288, e288, hx288_0⟩ := Kd.at_int (Kd.R_reads' HO_4.out).2.2 x10_2 p288 q288; obtain rfl : (⟨go34, 0, none⟩ : Addr) = ad288 := (by injection e288); (first | simp only [add_plain] at hx288_0 | simp only [add_at] at hx288_0 | simp only [Addr.add, Nat.zero_add] at hx288_0 | skip); replace p288 := eq_true p288; replace q288 := eq_true q288; have p42 : 0 ≤ (x10_2 : Int) := of_decide_eq_true z31_; have q42 : (x10_2 : Int) < ((x4_2.length : Int) : Int) := of_decide_eq_true z31_; obtain ⟨hx42_0, hf42_0⟩ := Kd.R_celln 0 HO_4.out (x10_2 : Int) p42 q42; replace p42 := eq_true p42; replace q42 := eq_true q42; obtain ⟨hy48_, hz48_⟩ := Kd.R_celln 0 HO_4.out (x10_2 : Int) (of_decide_eq_true z31_) (of_decide_eq_true z31_); have HP48 := Kd.R_putg HO_4.out (x10_2 : Int) (wrap64 (Int.tdiv (rd y286 x10_2) x9_2))) | ((with_reducible refine gate_store (t := 3) (p := 103) rfl ?_); refine store_event (t := 3) (p := 103) (v := ?vo_w49) (w1 := (w47.setCell ⟨go34, (x10_2 : Int).toNat, none⟩ (.int .i64 (wrap64 (Int.tdiv (rd y286 x10_2) x9_2))))) ?hg ?ho ?hn ?hr ?_; (case ho => rfl); (case hg => rfl); (case hn => rfl); (case hr => first | (go_simp; done) | (go_simp; rfl)); intro w49 hw; have hg : w47.grownBy w49 (some go34) := (by rw [hw]; exact HP48.2); have hp_ : Kd.R (Kd.int .i64) 3 w49 w.heap.size (fun k_ => some k_ ≠ (v269 : Value).ownBlock) (.slice (some ⟨go34, 0, none⟩) x4_2.length co27) y289 := (by rw [hw, Ny289.out]; exact HP48.1); clear HP48; replace HO_4:= Aside0.mk (hp_); replace HO_5:= Aside0.mk (Kd.R_after (v := (.slice (some ⟨go34, 0, none⟩) x4_2.length co27)) (v1 := (.slice (some ⟨go34, 0, none⟩) x4_2.length co27)) (ok := (fun _ => True)) z23_ hg (.inl rfl)); replace HB:= Aside0.mk ((by rw [hw]; exact below_set (HB.out) GB34.out : Below w.heap.size w w49)); clear hg hw hp_) | ((with_reducible refine gate_callee (f := 117) rfl ?_); refine goesL_ (some 124) rfl rfl Try.func117 (by kernel_rfl) rfl #[.slice (some ⟨go34, 0, none⟩) y289.length co27] rfl (by (try simp only [List.map_toArray, List.map_cons, List.map_nil]); first | done | (rw [show y289.length = x4_2.length from (Kd.R_reads' HO_4.out).1.symm] <;> rfl) | rfl | (simp only [List.length_drop, List.length_take]; rfl)) ?_; (with_reducible refine (spec_l5Two.calls k2 _ _ y289 t290 t291 _ ?side1 ?side2 A43.out).mono ?_); (case side1 => repeat (first | exact (Kd.R_reads' HO_4.out).2.2 | (with_reducible refine Kd.C_alloc ?_ _) | (with_reducible refine Kd.C_drewN ?_ _) | (with_reducible refine Kd.C_drew ?_))); (case side2 => rw [show y289.length = x4_2.length from (Kd.R_reads' HO_4.out).1.symm]; exact (Kd.R_reads' HO_4.out).2.1); rintro e w50 ⟨rfl, hb⟩; refine ⟨_, rfl, ?_⟩; replace HO_4:= Aside0.mk (Kd.R_below z26_ hb); replace HO_5:= Aside0.mk (Kd.R_below z23_ hb); replace HB:= Aside0.mk (below_step z16_ hb); clear hb))
       simp only [← hl4_2]
       go_roundg k2
       case measure => have := HK1.out; have := HK2.out; omega
       case rel => exact ⟨(y289), (x5_2), (t290), (t291), z32_, z32_, H', ⟨by have := HK1.out; have := HK2.out; omega⟩, ⟨by (try simp only [hl4_2]); (with_reducible repeat (first | apply Kd.R_alloc | apply Kd.R_drewN | apply Kd.R_drew)); exact HO_4.out⟩, ⟨by (try simp only [hl4_2]); (with_reducible repeat (first | apply Kd.R_alloc | apply Kd.R_drewN | apply Kd.R_drew)); exact Kd.R_mono HO_5.out (fun _ hk => hk.2)⟩, ⟨z16_⟩⟩
     rw [if_neg c41] at H
     have c41b0 := beq_eq_false_iff_ne.mpr c41
     have c41b1 := bne_iff_ne.mpr c41
     obtain ⟨y293, Ny293, H⟩ := by_ H
     obtain ⟨c52, H⟩ := in_ H
     have c52b0 := decide_eq_true c52
     clear c52
     generalize h_ : (x5_2.set (x10_2 : Int).toNat (wrap64 ((rd x5_2 x10_2) * x9_2))) = y295 at H
     have Ny295 := Aside0.mk h_.symm
     clear h_
     obtain ⟨⟨t296, t297⟩, A54, H⟩ := bi_ H
     try dsimp only at H
     have H' := Aside0.mk H
     clear H
     have p283 : 0 ≤ ((ji30) : Int) := of_decide_eq_true z31_
     have q283 : (ji30) < (x4_2.length : Int) := of_decide_eq_true z31_
     obtain ⟨ad283, e283, hx283_0⟩ := Kd.at_int (Kd.R_reads' HO_4.out).2.2 (ji30) p283 q283
     cases e283
     replace p283 := eq_true p283
     replace q283 := eq_true q283
     have p34 : 0 ≤ ((ji30) : Int) := of_decide_eq_true z31_
     have q34 : ((ji30) : Int) < ((x4_2.length : Int) : Int) := of_decide_eq_true z31_
     obtain ⟨go34, co34, eo34, gb34, gl34, cl34, HG34⟩ := Kd.R_form HO_4.out (by omega)
     (first | cases eo34 | (injection eo34 with ea_ en_ ec_; (first | subst ea_ | (injection ea_ with ea_; subst ea_)); subst ec_; clear en_))
     have GB34 := Aside0.mk gb34
     have GG34 := Aside0.mk HG34
     clear gb34 gl34 HG34
     (first | simp only [add_plain] at hx283_0 | skip)
     obtain ⟨hx34_0, hf34_0⟩ := Kd.R_celln 0 HO_4.out ((ji30) : Int) p34 q34
     replace p34 := eq_true p34
     replace q34 := eq_true q34
     have HP55 := Kd.R_putg HO_4.out ((ji30) : Int) (wrap64 (Int.tdiv (rd x4_2 (ji30)) x9_2))
     go_wp2_with (first | ((with_reducible refine gate_store (t := 3) (p := 74) rfl ?_); refine store_event (t := 3) (p := 74) (v := ?vo_w56) (w1 := (wr.setCell ⟨go34, ((ji30) : Int).toNat, none⟩ (.int .i64 (wrap64 (Int.tdiv (rd x4_2 (ji30)) x9_2))))) ?hg ?ho ?hn ?hr ?_; (case ho => rfl); (case hg => rfl); (case hn => rfl); (case hr => first | (go_simp; done) | (go_simp; rfl)); intro w56 hw; have hg : wr.grownBy w56 (some go34) := (by rw [hw]; exact HP55.2); have hp_ : Kd.R (Kd.int .i64) 3 w56 w.heap.size (fun k_ => some k_ ≠ (v269 : Value).ownBlock) (.slice (some ⟨go34, 0, none⟩) x4_2.length co27) y284 := (by rw [hw, Ny284.out]; exact HP55.1); clear HP55; replace HO_4:= Aside0.mk (hp_); replace HO_5:= Aside0.mk (Kd.R_after (v := (.slice (some ⟨go34, 0, none⟩) x4_2.length co27)) (v1 := (.slice (some ⟨go34, 0, none⟩) x4_2.length co27)) (ok := (fun _ => True)) z12_ hg (.inl rfl)); replace HB:= Aside0.mk ((by rw [hw]; exact below_set (HB.out) GB34.out : Below w.heap.size w w56)); clear hg hw hp_; have p285 : 0 ≤ ((ji35) : Int) := of_decide_eq_true z31_; have q285 : (ji35) < (y284.length : Int) := (by have h_ : ((ji35) : Int) < ((x4_2.length : Int) : Int) := of_decide_eq_true z31_; first | (have e_ := (Kd.R_reads' HO_4.out).1; omega) | simpa only [Ny284.out, List.length_set] using h_); have ql285 : (((ji35) : Int) < ((x4_2.length : Int) : Int)) = True := eq_true (of_decide_eq_true z31_); obtain ⟨ad285, e285, hx285_0⟩ := Kd.at_int (Kd.R_reads' HO_4.out).2.2 (ji35) p285 q285; obtain rfl : (⟨go34, 0, none⟩ : Addr) = ad285 := (by injection e285); (first | simp only [add_plain] at hx285_0 | simp only [add_at] at hx285_0 | simp only [Addr.add, Nat.zero_add] at hx285_0 | skip); replace p285 := eq_true p285; replace q285 := eq_true q285; have p38 : 0 ≤ ((ji35) : Int) := of_decide_eq_true z31_; have q38 : ((ji35) : Int) < ((x4_2.length : Int) : Int) := of_decide_eq_true z31_; obtain ⟨hx38_0, hf38_0⟩ := Kd.R_celln 0 HO_4.out ((ji35) : Int) p38 q38; replace p38 := eq_true p38; replace q38 := eq_true q38; obtain ⟨hy57_, hz57_⟩ := Kd.R_celln 0 HO_4.out ((ji35) : Int) (of_decide_eq_true z31_) (of_decide_eq_true z31_); have HP57 := Kd.R_putg HO_4.out ((ji35) : Int) (wrap64 (Int.tdiv (rd y284 (ji35)) x9_2))) | ((with_reducible refine gate_store (t := 3) (p := 87) rfl ?_); refine store_event (t := 3) (p := 87) (v := ?vo_w58) (w1 := (w56.setCell ⟨go34, ((ji35) : Int).toNat, none⟩ (.int .i64 (wrap64 (Int.tdiv (rd y284 (ji35)) x9_2))))) ?hg ?ho ?hn ?hr ?_; (case ho => rfl); (case hg => rfl); (case hn => rfl); (case hr => first | (go_simp; done) | (go_simp; rfl)); intro w58 hw; have hg : w56.grownBy w58 (some go34) := (by rw [hw]; exact HP57.2); have hp_ : Kd.R (Kd.int .i64) 3 w58 w.heap.size (fun k_ => some k_ ≠ (v269 : Value).ownBlock) (.slice (some ⟨go34, 0, none⟩) x4_2.length co27) y286 := (by rw [hw, Ny286.out]; exact HP57.1); clear HP57; replace HO_4:= Aside0.mk (hp_); replace HO_5:= Aside0.mk (Kd.R_after (v := (.slice (some ⟨go34, 0, none⟩) x4_2.length co27)) (v1 := (.slice (some ⟨go34, 0, none⟩) x4_2.length co27)) (ok := (fun _ => True)) z23_ hg (.inl rfl)); replace HB:= Aside0.mk ((by rw [hw]; exact below_set (HB.out) GB34.out : Below w.heap.size w w58)); clear hg hw hp_; have p287 : 0 ≤ (x10_2 : Int) := of_decide_eq_true z31_; have q287 : x10_2 < (y286.length : Int) := (by have h_ : (x10_2 : Int) < ((x4_2.length : Int) : Int) := of_decide_eq_true z31_; first | (have e_ := (Kd.R_reads' HO_4.out).1; omega) | simpa only [Ny284.out, Ny286.out, List.length_set] using h_); have ql287 : ((x10_2 : Int) < ((x4_2.length : Int) : Int)) = True := eq_true (of_decide_eq_true z31_); obtain ⟨ad287, e287, hx287_0⟩ := Kd.at_int (Kd.R_reads' HO_4.out).2.2 x10_2 p287 q287; obtain rfl : (⟨go34, 0, none⟩ : Addr) = ad287 := (by injection e287); (first | simp only [add_plain] at hx287_0 | simp only [add_at] at hx287_0 | simp only [Addr.add, Nat.zero_add] at hx287_0 | skip); replace p287 := eq_true p287; replace q287 := eq_true q287; have p292 : 0 ≤ (x10_2 : Int) := of_decide_eq_true z31_; have q292 : x10_2 < (y286.length : Int) := (by have h_ : (x10_2 : Int) < ((x4_2.length : Int) : Int) := of_decide_eq_true z31_; first | (have e_ := (Kd.R_reads' HO_4.out).1; omega) | simpa only [Ny284.out, Ny286.out, List.length_set] using h_); have ql292 : ((x10_2 : Int) < ((x4_2.length : Int) : Int)) = True := eq_true (of_decide_eq_true z31_); obtain ⟨ad292, e292, hx292_0⟩ := Kd.at_int (Kd.R_reads' HO_4.out).2.2 x10_2 p292 q292; obtain rfl : (⟨go34, 0, none⟩ : Addr) = ad292 := (by injection e292); (first | simp only [add_plain] at hx292_0 | simp only [add_at] at hx292_0 | simp only [Addr.add, Nat.zero_add] at hx292_0 | skip); replace p292 := eq_true p292; replace q292 := eq_true q292; have p51 : 0 ≤ (x10_2 : Int) := of_decide_eq_true z31_; have q51 : (x10_2 : Int) < ((x4_2.length : Int) : Int) := of_decide_eq_true z31_; obtain ⟨hx51_0, hf51_0⟩ := Kd.R_celln 0 HO_4.out (x10_2 : Int) p51 q51; replace p51 := eq_true p51; replace q51 := eq_true q51; obtain ⟨hy59_, hz59_⟩ := Kd.R_celln 0 HO_4.out (x10_2 : Int) (of_decide_eq_true z31_) (of_decide_eq_true z31_); have HP59 := Kd.R_putg HO_4.out (x10_2 : Int) (wrap64 ((rd y286 x10_2) * x9_2))) | ((with_reducible refine gate_store (t := 3) (p := 112) rfl ?_); refine store_event (t := 3) (p := 112) (v := ?vo_w60) (w1 := (w58.setCell ⟨go34, (x10_2 : Int).toNat, none⟩ (.int .i64 (wrap64 ((rd y286 x10_2) * x9_2))))) ?hg ?ho ?hn ?hr ?_; (case ho => rfl); (case hg => rfl); (case hn => rfl); (case hr => first | (go_simp; done) | (go_simp; rfl)); intro w60 hw; have hg : w58.grownBy w60 (some go34) := (by rw [hw]; exact HP59.2); have hp_ : Kd.R (Kd.int .i64) 3 w60 w.heap.size (fun k_ => some k_ ≠ (v269 : Value).ownBlock) (.slice (some ⟨go34, 0, none⟩) x4_2.length co27) y293 := (by rw [hw, Ny293.out]; exact HP59.1); clear HP59; replace HO_4:= Aside0.mk (hp_); replace HO_5:= Aside0.mk (Kd.R_after (v := (.slice (some ⟨go34, 0, none⟩) x4_2.length co27)) (v1 := (.slice (some ⟨go34, 0, none⟩) x4_2.length co27)) (ok := (fun _ => True)) z23_ hg (.inl rfl)); replace HB:= Aside0.mk ((by rw [hw]; exact below_set (HB.out) GB34.out : Below w.heap.size w w60)); clear hg hw hp_; obtain ⟨Ao61, co61, eo61⟩ := Kd.R_slice HO_5.out; subst eo61; have p294 : 0 ≤ (x10_2 : Int) := of_decide_eq_true z31_; have q294 : x10_2 < (x5_2.length : Int) := of_decide_eq_true z31_; obtain ⟨ad294, e294, hx294_0⟩ := Kd.at_int (Kd.R_reads' HO_5.out).2.2 x10_2 p294 q294; cases e294; replace p294 := eq_true p294; replace q294 := eq_true q294; have p53 : 0 ≤ (x10_2 : Int) := of_decide_eq_true z31_; have q53 : (x10_2 : Int) < ((x5_2.length : Int) : Int) := of_decide_eq_true z31_; obtain ⟨go53, co53, eo53, gb53, gl53, cl53, HG53⟩ := Kd.R_form HO_5.out (by omega); (first | cases eo53 | (injection eo53 with ea_ en_ ec_; (first | subst ea_ | (injection ea_ with ea_; subst ea_)); subst ec_; clear en_)); have GB53 := Aside0.mk gb53; have GG53 := Aside0.mk HG53; clear gb53 gl53 HG53; (first | simp only [add_plain] at hx294_0 | skip); obtain ⟨hx53_0, hf53_0⟩ := Kd.R_celln 0 HO_5.out (x10_2 : Int) p53 q53; replace p53 := eq_true p53; replace q53 := eq_true q53; have n_ := Aside0.mk (Kd.R_mono (ok' := (fun k_ => some k_ ≠ (.slice (some ⟨go34, 0, none⟩) x4_2.length co27 : Value).ownBlock)) HO_5.out (fun k_ hk => hk.2)); clear HO_5; have HO_5 := n_; clear n_; obtain ⟨hy62_, hz62_⟩ := Kd.R_celln 0 HO_5.out (x10_2 : Int) (of_decide_eq_true z31_) (of_decide_eq_true z31_); have HP62 := Kd.R_putg HO_5.out (x10_2 : Int) (wrap64 ((rd x5_2 x10_2) * x9_2))) | ((with_reducible refine gate_store (t := 3) (p := 121) rfl ?_); refine store_event (t := 3) (p := 121) (v := ?vo_w63) (w1 := (w60.setCell ⟨go53, (x10_2 : Int).toNat, none⟩ (.int .i64 (wrap64 ((rd x5_2 x10_2) * x9_2))))) ?hg ?ho ?hn ?hr ?_; (case ho => rfl); (case hg => rfl); (case hn => rfl); (case hr => first | (go_simp; done) | (go_simp; rfl)); intro w63 hw; have hg : w60.grownBy w63 (some go53) := (by rw [hw]; exact HP62.2); have hp_ : Kd.R (Kd.int .i64) 3 w63 w.heap.size (fun k_ => some k_ ≠ (.slice (some ⟨go34, 0, none⟩) x4_2.length co27 : Value).ownBlock) (.slice (some ⟨go53, 0, none⟩) x5_2.length co61) y295 := (by rw [hw, Ny295.out]; exact HP62.1); clear HP62; replace HO_4:= Aside0.mk (Kd.R_after (v := (.slice (some ⟨go53, 0, none⟩) x5_2.length co61)) (v1 := (.slice (some ⟨go53, 0, none⟩) x5_2.length co61)) (ok := (fun _ => True)) (by (with_reducible repeat (first | apply Kd.R_alloc | apply Kd.R_drewN | apply Kd.R_drew)); exact Kd.R_mono HO_4.out (fun _ hk => ⟨trivial, hk⟩)) hg (.inl rfl)); replace HO_5:= Aside0.mk (hp_); replace HB:= Aside0.mk ((by rw [hw]; exact below_set (HB.out) GB53.out : Below w.heap.size w w63)); clear hg hw hp_) | ((with_reducible refine gate_callee (f := 117) rfl ?_); refine goesL_ (some 124) rfl rfl Try.func117 (by kernel_rfl) rfl #[.slice (some ⟨go34, 0, none⟩) y293.length co27] rfl (by (try simp only [List.map_toArray, List.map_cons, List.map_nil]); first | done | (rw [show y293.length = x4_2.length from (Kd.R_reads' HO_4.out).1.symm] <;> rfl) | rfl | (simp only [List.length_drop, List.length_take]; rfl)) ?_; (with_reducible refine (spec_l5Two.calls k2 _ _ y293 t296 t297 _ ?side1 ?side2 A54.out).mono ?_); (case side1 => repeat (first | exact (Kd.R_reads' HO_4.out).2.2 | (with_reducible refine Kd.C_alloc ?_ _) | (with_reducible refine Kd.C_drewN ?_ _) | (with_reducible refine Kd.C_drew ?_))); (case side2 => rw [show y293.length = x4_2.length from (Kd.R_reads' HO_4.out).1.symm]; exact (Kd.R_reads' HO_4.out).2.1); rintro e w64 ⟨rfl, hb⟩; refine ⟨_, rfl, ?_⟩; replace HO_4:= Aside0.mk (Kd.R_below z26_ hb); replace HO_5:= Aside0.mk (Kd.R_below z23_ hb); replace HB:= Aside0.mk (below_step z16_ hb); clear hb))
     simp only [← hl4_2]
     go_roundg k2
     case measure => have := HK1.out; have := HK2.out; omega
     case rel => exact ⟨(y293), (y295), (t296), (t297), z32_, z32_, H', ⟨by have := HK1.out; have := HK2.out; omega⟩, ⟨by (try simp only [hl4_2]); (with_reducible repeat (first | apply Kd.R_alloc | apply Kd.R_drewN | apply Kd.R_drew)); exact Kd.R_mono HO_4.out (fun _ hk => hk.2)⟩, ⟨by (try simp only [hl4_2]); (with_reducible repeat (first | apply Kd.R_alloc | apply Kd.R_drewN | apply Kd.R_drew)); exact HO_5.out⟩, ⟨z16_⟩⟩

/-! ### spec_ZeroNormal: function 21 -/
def spec_ZeroNormal.f (k : Nat) (l0 : List Int) : Option (List Int × List Int × Bool) := (spec_FormValid.f k l0).bind fun t298 => (if t298 = true then (if (l0.length : Int) = 3 then ((spec_l5Normal.f k l0).bind fun bt299 => (some (bt299.1, bt299.2, true))) else (some ((([] : List Int)), (([] : List Int)), false))) else (some ((([] : List Int)), (([] : List Int)), false)))
theorem spec_ZeroNormal.mono : ∀ a0 k, LeO (spec_ZeroNormal.f k a0) (spec_ZeroNormal.f (k + 1) a0) := by
 intro a0 k
 unfold spec_ZeroNormal.f
 exact mo_
theorem spec_ZeroNormal.calls (k : Nat) (A0 : Option Addr) (c0 : Nat) (l0 : List Int) (r1 : List Int) (r2 : List Int) (r3 : Bool) (w : World) (hr0 : Kd.C (Kd.int .i64) w A0 l0.length l0) (hc0 : l0.length ≤ c0) (h : spec_ZeroNormal.f k l0 = some (r1, r2, r3)) :
 Calls Try.prog 21 #[.slice A0 l0.length c0] w fun e w' => ∃ v0_ v1_ : Value, e = .returned (.tuple #[v0_, v1_, .bool r3]) ∧ Kd.R (Kd.int .i64) 3 w' w.heap.size (fun k_ => some k_ ≠ (v1_ : Value).ownBlock) v0_ r1 ∧ Kd.R (Kd.int .i64) 3 w' w.heap.size (fun k_ => some k_ ≠ (v0_ : Value).ownBlock) v1_ r2 ∧ Below w.heap.size w w' := by
 have HR0 := Aside0.mk hr0
 have HC0 := Aside0.mk hc0
 clear hr0 hc0
 have HB := Aside0.mk (Below.refl w.heap.size w)
 have H := h
 clear h
 unfold spec_ZeroNormal.f at H
 obtain ⟨t298, A2, H⟩ := bi_ H
 by_cases c3 : t298 = true
 · subst c3
   rw [it_] at H
   by_cases c4 : (l0.length : Int) = 3
   · rw [if_pos c4] at H
     have c4b0 := beq_iff_eq.mpr c4
     have c4b1 := bne_eq_false_iff_eq.mpr c4
     clear c4
     obtain ⟨⟨t299, t300⟩, A5, H⟩ := bi_ H
     try dsimp only at H
     simp only [Option.some.injEq, Prod.mk.injEq] at H
     obtain ⟨rfl, rfl, rfl⟩ := H
     go_enter Try.func21, Try.ntmps21
     go_wp2_with (first | ((with_reducible refine gate_callee (f := 73) rfl ?_); refine goesL_ (some 8) rfl rfl Try.func73 (by kernel_rfl) rfl #[.slice A0 l0.length c0] rfl z14_ ?_; (with_reducible refine (spec_FormValid.calls k _ _ l0 true _ ?side1 ?side2 A2.out).mono ?_); (case side1 => repeat (first | exact HR0.out | (with_reducible refine Kd.C_alloc ?_ _) | (with_reducible refine Kd.C_drewN ?_ _) | (with_reducible refine Kd.C_drew ?_))); (case side2 => exact HC0.out); rintro e w' ⟨rfl, ⟨nd, rfl⟩⟩; refine ⟨_, rfl, ?_⟩) | ((with_reducible refine gate_callee (f := 74) rfl ?_); refine goesL_ (some 19) rfl rfl Try.func74 (by kernel_rfl) rfl #[.slice A0 l0.length c0] rfl z14_ ?_; (with_reducible refine (spec_l5Normal.calls k _ _ l0 t299 t300 _ ?side1 ?side2 A5.out).mono ?_); (case side1 => repeat (first | exact HR0.out | (with_reducible refine Kd.C_alloc ?_ _) | (with_reducible refine Kd.C_drewN ?_ _) | (with_reducible refine Kd.C_drew ?_))); (case side2 => exact HC0.out); rintro e w6 ⟨v301, v303, rfl, ho0, ho1, hb⟩; refine ⟨_, rfl, ?_⟩; have HO302:= Aside0.mk (Kd.R_lower ho0 (below_size z16_)); have HO304:= Aside0.mk (Kd.R_lower ho1 (below_size z16_)); replace HB:= Aside0.mk (below_step z16_ hb); clear hb ho0 ho1))
     go_ret3
     exact ⟨_, _, z29_, by (with_reducible repeat (first | apply Kd.R_alloc | apply Kd.R_drewN | apply Kd.R_drew)); exact HO302.out, by (with_reducible repeat (first | apply Kd.R_alloc | apply Kd.R_drewN | apply Kd.R_drew)); exact HO304.out, z16_⟩
   rw [if_neg c4] at H
   have c4b0 := beq_eq_false_iff_ne.mpr c4
   have c4b1 := bne_iff_ne.mpr c4
   obtain ⟨y305, hy305⟩ : ∃ y_ : List Int, y_ = (([] : List Int)) := ⟨_, rfl⟩
   replace H : (some (y305, (([] : List Int)), false)) = some (r1, r2, r3) := by first | (rw [hy305]; with_reducible exact H) | (have H2_ := (Option.bind_some _ _).symm.trans H; rw [hy305]; with_reducible exact H2_) | (have H2_ := (Option.bind_some _ _).symm.trans H; with_reducible exact H2_) | with_reducible exact H | (rw [hy305]; exact H) | exact H
   have Ny305 := Aside0.mk hy305
   clear hy305
   generalize h_ : (([] : List Int)) = y308 at H
   have Ny308 := Aside0.mk h_.symm
   clear h_
   simp only [Option.some.injEq, Prod.mk.injEq] at H
   obtain ⟨rfl, rfl, rfl⟩ := H
   go_enter Try.func21, Try.ntmps21
   go_wp2_with (first | ((with_reducible refine gate_callee (f := 73) rfl ?_); refine goesL_ (some 8) rfl rfl Try.func73 (by kernel_rfl) rfl #[.slice A0 l0.length c0] rfl z14_ ?_; (with_reducible refine (spec_FormValid.calls k _ _ l0 true _ ?side1 ?side2 A2.out).mono ?_); (case side1 => repeat (first | exact HR0.out | (with_reducible refine Kd.C_alloc ?_ _) | (with_reducible refine Kd.C_drewN ?_ _) | (with_reducible refine Kd.C_drew ?_))); (case side2 => exact HC0.out); rintro e w' ⟨rfl, ⟨nd, rfl⟩⟩; refine ⟨_, rfl, ?_⟩) | ((with_reducible refine gate_dst (N := 15) rfl ?_); (try (refine gate_guard (by rfl) ?_; dsimp only)); refine Kd.R_lit (Kd.int .i64) _ 3 ?hg (N := 15) ?hd (xs := ([] : List Int)) (inner := []) (ok := fun _ => True) (okp := fun _ => True) ?hr ?hp (fun _ hk => hk) trivial (Below.refl _ _) (Nat.le_refl _) (by simp) ?_; (case hd => rfl); (case hg => rfl); (case hr => first | (go_simp; done) | (go_simp; rfl)); (case hp => exact (Reps.none _ _)); intro v306 w7 ho8 hb hg_ hnew_; clear hg_ hnew_; (first | rw [← Ny305.out] at ho8 | (simp only [Int.reduceToNat] at ho8; rw [← Ny305.out] at ho8)); have HO307:= Aside0.mk (Kd.R_lower ho8 (below_size z16_)); replace HB:= Aside0.mk (below_step z16_ hb); clear hb ho8) | ((with_reducible refine gate_dst (N := 16) rfl ?_); (try (refine gate_guard (by rfl) ?_; dsimp only)); refine Kd.R_lit (Kd.int .i64) _ 3 ?hg (N := 16) ?hd (xs := ([] : List Int)) (inner := []) (ok := fun _ => True) (okp := fun _ => True) ?hr ?hp (fun _ hk => hk) trivial (Below.refl _ _) (Nat.le_refl _) (by simp) ?_; (case hd => rfl); (case hg => rfl); (case hr => first | (go_simp; done) | (go_simp; rfl)); (case hp => exact (Reps.none _ _)); intro v309 w9 ho10 hb hg_ hnew_; clear hg_ hnew_; (first | rw [← Ny308.out] at ho10 | (simp only [Int.reduceToNat] at ho10; rw [← Ny308.out] at ho10)); have HO310:= Aside0.mk (Kd.R_lower (Kd.R_new' ho10 (Kd.R_lt (by (with_reducible repeat (first | apply Kd.R_alloc | apply Kd.R_drewN | apply Kd.R_drew)); exact HO307.out))) (below_size z16_)); replace HO307:= Aside0.mk (Kd.R_elder' (by (with_reducible repeat (first | apply Kd.R_alloc | apply Kd.R_drewN | apply Kd.R_drew)); exact HO307.out) (Kd.R_base ho10) hb); replace HB:= Aside0.mk (below_step z16_ hb); clear hb ho10))
   go_ret3
   exact ⟨_, _, z29_, by (with_reducible repeat (first | apply Kd.R_alloc | apply Kd.R_drewN | apply Kd.R_drew)); exact Kd.R_mono HO307.out (fun _ hk => hk.2), by (with_reducible repeat (first | apply Kd.R_alloc | apply Kd.R_drewN | apply Kd.R_drew)); exact Kd.R_mono HO310.out (fun _ hk => hk.2), z16_⟩
 replace c3 := Bool.eq_false_iff.mpr c3
 subst c3
 rw [jt_] at H
 obtain ⟨y311, hy311⟩ : ∃ y_ : List Int, y_ = (([] : List Int)) := ⟨_, rfl⟩
 replace H : (some (y311, (([] : List Int)), false)) = some (r1, r2, r3) := by first | (rw [hy311]; with_reducible exact H) | (have H2_ := (Option.bind_some _ _).symm.trans H; rw [hy311]; with_reducible exact H2_) | (have H2_ := (Option.bind_some _ _).symm.trans H; with_reducible exact H2_) | with_reducible exact H | (rw [hy311]; exact H) | exact H
 have Ny311 := Aside0.mk hy311
 clear hy311
 generalize h_ : (([] : List Int)) = y314 at H
 have Ny314 := Aside0.mk h_.symm
 clear h_
 simp only [Option.some.injEq, Prod.mk.injEq] at H
 obtain ⟨rfl, rfl, rfl⟩ := H
 go_enter Try.func21, Try.ntmps21
 go_wp2_with (first | ((with_reducible refine gate_callee (f := 73) rfl ?_); refine goesL_ (some 8) rfl rfl Try.func73 (by kernel_rfl) rfl #[.slice A0 l0.length c0] rfl z14_ ?_; (with_reducible refine (spec_FormValid.calls k _ _ l0 false _ ?side1 ?side2 A2.out).mono ?_); (case side1 => repeat (first | exact HR0.out | (with_reducible refine Kd.C_alloc ?_ _) | (with_reducible refine Kd.C_drewN ?_ _) | (with_reducible refine Kd.C_drew ?_))); (case side2 => exact HC0.out); rintro e w' ⟨rfl, ⟨nd, rfl⟩⟩; refine ⟨_, rfl, ?_⟩) | ((with_reducible refine gate_dst (N := 15) rfl ?_); (try (refine gate_guard (by rfl) ?_; dsimp only)); refine Kd.R_lit (Kd.int .i64) _ 3 ?hg (N := 15) ?hd (xs := ([] : List Int)) (inner := []) (ok := fun _ => True) (okp := fun _ => True) ?hr ?hp (fun _ hk => hk) trivial (Below.refl _ _) (Nat.le_refl _) (by simp) ?_; (case hd => rfl); (case hg => rfl); (case hr => first | (go_simp; done) | (go_simp; rfl)); (case hp => exact (Reps.none _ _)); intro v312 w11 ho12 hb hg_ hnew_; clear hg_ hnew_; (first | rw [← Ny311.out] at ho12 | (simp only [Int.reduceToNat] at ho12; rw [← Ny311.out] at ho12)); have HO313:= Aside0.mk (Kd.R_lower ho12 (below_size z16_)); replace HB:= Aside0.mk (below_step z16_ hb); clear hb ho12) | ((with_reducible refine gate_dst (N := 16) rfl ?_); (try (refine gate_guard (by rfl) ?_; dsimp only)); refine Kd.R_lit (Kd.int .i64) _ 3 ?hg (N := 16) ?hd (xs := ([] : List Int)) (inner := []) (ok := fun _ => True) (okp := fun _ => True) ?hr ?hp (fun _ hk => hk) trivial (Below.refl _ _) (Nat.le_refl _) (by simp) ?_; (case hd => rfl); (case hg => rfl); (case hr => first | (go_simp; done) | (go_simp; rfl)); (case hp => exact (Reps.none _ _)); intro v315 w13 ho14 hb hg_ hnew_; clear hg_ hnew_; (first | rw [← Ny314.out] at ho14 | (simp only [Int.reduceToNat] at ho14; rw [← Ny314.out] at ho14)); have HO316:= Aside0.mk (Kd.R_lower (Kd.R_new' ho14 (Kd.R_lt (by (with_reducible repeat (first | apply Kd.R_alloc | apply Kd.R_drewN | apply Kd.R_drew)); exact HO313.out))) (below_size z16_)); replace HO313:= Aside0.mk (Kd.R_elder' (by (with_reducible repeat (first | apply Kd.R_alloc | apply Kd.R_drewN | apply Kd.R_drew)); exact HO313.out) (Kd.R_base ho14) hb); replace HB:= Aside0.mk (below_step z16_ hb); clear hb ho14))
 go_ret3
 exact ⟨_, _, z29_, by (with_reducible repeat (first | apply Kd.R_alloc | apply Kd.R_drewN | apply Kd.R_drew)); exact Kd.R_mono HO313.out (fun _ hk => hk.2), by (with_reducible repeat (first | apply Kd.R_alloc | apply Kd.R_drewN | apply Kd.R_drew)); exact Kd.R_mono HO316.out (fun _ hk => hk.2), z16_⟩

/-! ### laws_sameInts: function 22 -/
def laws_sameInts.l0 : Nat → List Int → List Int → Int → Option (Bool)
 | 0, _, _, _ => none
 | k + 1, x0, x1, x5 => if x5 < (x0.length : Int) then (if 0 ≤ x5 then (if x5 < (x1.length : Int) then (if (rd x0 x5) = (rd x1 x5) then (laws_sameInts.l0 k x0 x1 (wrap64 (x5 + 1))) else (some false)) else (none)) else (none)) else (some true)
def laws_sameInts.f (k : Nat) (l0 : List Int) (l1 : List Int) : Option (Bool) := if (l0.length : Int) = (l1.length : Int) then (laws_sameInts.l0 k l0 l1 0) else (some false)
theorem laws_sameInts.mono_l : ∀ k, (∀ y0 y1 y2, LeO (laws_sameInts.l0 k y0 y1 y2) (laws_sameInts.l0 (k + 1) y0 y1 y2))
 | 0 => fun _ _ _ r h => by simp [laws_sameInts.l0] at h
 | k + 1 => by
  have ih0 := laws_sameInts.mono_l k
  intro y0 y1 y2
  unfold laws_sameInts.l0
  exact mo_
theorem laws_sameInts.mono : ∀ a0 a1 k, LeO (laws_sameInts.f k a0 a1) (laws_sameInts.f (k + 1) a0 a1) := by
 intro a0 a1 k
 have ih0 := laws_sameInts.mono_l k
 unfold laws_sameInts.f
 exact mo_
theorem laws_sameInts.calls (k : Nat) (A0 : Option Addr) (c0 : Nat) (l0 : List Int) (A1 : Option Addr) (c1 : Nat) (l1 : List Int) (r : Bool) (w : World) (hr0 : Kd.C (Kd.int .i64) w A0 l0.length l0) (hc0 : l0.length ≤ c0) (hr1 : Kd.C (Kd.int .i64) w A1 l1.length l1) (hc1 : l1.length ≤ c1) (h : laws_sameInts.f k l0 l1 = some r) :
 Calls Try.prog 22 #[.slice A0 l0.length c0, .slice A1 l1.length c1] w fun e w' => e = .returned (.bool r) ∧ Drawn0 w w' := by
 have HR0 := Aside0.mk hr0
 have HC0 := Aside0.mk hc0
 clear hr0 hc0
 have HR1 := Aside0.mk hr1
 have HC1 := Aside0.mk hc1
 clear hr1 hc1
 have H := h
 clear h
 unfold laws_sameInts.f at H
 by_cases c3 : (l0.length : Int) = (l1.length : Int)
 rotate_left
 · rw [if_neg c3] at H
   have c3b0 := beq_eq_false_iff_ne.mpr c3
   have c3b1 := bne_iff_ne.mpr c3
   have c3b2 : (l0.length == l1.length) = false := by first | simpa using c3 | (simp at c3 ⊢; omega)
   obtain rfl := Option.some.inj H
   go_enter Try.func22, Try.ntmps22
   go_wp2
   repeat (go_quiet (fail); try go_wp2)
   go_ret
   exact ⟨z32_, z30_⟩
 rw [if_pos c3] at H
 have c3b0 := beq_iff_eq.mpr c3
 have c3b1 := bne_eq_false_iff_eq.mpr c3
 have c3b2 : (l0.length == l1.length) = true := by first | simpa using c3 | (simp at c3 ⊢; omega)
 clear c3
 have H' := Aside0.mk H
 clear H
 go_enter Try.func22, Try.ntmps22
 go_wp2
 repeat (go_quiet (fail); try go_wp2)
 go_loopg [5] k (fun kq v5 w' => ∃ (x5_1 : Int), v5 = .int .i64 x5_1 ∧ Aside0 (laws_sameInts.l0 kq l0 l1 x5_1 = some r) ∧ Aside0 (kq ≤ k) ∧ Drawn0 w w')
 case atStart => exact ⟨(0), z32_, H', ⟨Nat.le_refl _⟩, z30_⟩
 case round =>
  clear H'
  clear c3b0 c3b1 c3b2
  obtain ⟨x5_1, rfl, HA, HK1, ⟨m1, rfl⟩⟩ := hrel
  cases gk with
  | zero => exact absurd HA.out (by simp [laws_sameInts.l0])
  | succ k1 =>
   have H := HA.out
   clear HA
   simp only [laws_sameInts.l0] at H
   by_cases c4 : x5_1 < (l0.length : Int)
   rotate_left
   · rw [if_neg c4] at H
     have c4b0 := decide_eq_false c4
     clear c4
     obtain rfl := Option.some.inj H
     go_wp2
     repeat (go_quiet (fail); try go_wp2)
     go_ret
     exact ⟨z32_, z30_⟩
   rw [if_pos c4] at H
   have c4b0 := decide_eq_true c4
   clear c4
   obtain ⟨c5, H⟩ := in_ H
   have c5b0 := decide_eq_true c5
   clear c5
   obtain ⟨c6, H⟩ := in_ H
   have c6b0 := decide_eq_true c6
   clear c6
   by_cases c7 : (rd l0 x5_1) = (rd l1 x5_1)
   · rw [if_pos c7] at H
     have c7b0 := beq_iff_eq.mpr c7
     have c7b1 := bne_eq_false_iff_eq.mpr c7
     clear c7
     have H' := Aside0.mk H
     clear H
     have p317 : 0 ≤ (x5_1 : Int) := of_decide_eq_true z31_
     have q317 : x5_1 < (l0.length : Int) := of_decide_eq_true z31_
     obtain ⟨ad317, e317, hx317_0⟩ := Kd.at_int HR0.out x5_1 p317 q317
     cases e317
     replace p317 := eq_true p317
     replace q317 := eq_true q317
     have p318 : 0 ≤ (x5_1 : Int) := of_decide_eq_true z31_
     have q318 : x5_1 < (l1.length : Int) := of_decide_eq_true z31_
     obtain ⟨ad318, e318, hx318_0⟩ := Kd.at_int HR1.out x5_1 p318 q318
     cases e318
     replace p318 := eq_true p318
     replace q318 := eq_true q318
     go_wp2
     repeat (go_quiet (fail); try go_wp2)
     go_roundg k1
     case measure => have := HK1.out; omega
     case rel => exact ⟨(wrap64 (x5_1 + 1)), z32_, H', ⟨by have := HK1.out; omega⟩, z30_⟩
   rw [if_neg c7] at H
   have c7b0 := beq_eq_false_iff_ne.mpr c7
   have c7b1 := bne_iff_ne.mpr c7
   obtain rfl := Option.some.inj H
   have p317 : 0 ≤ (x5_1 : Int) := of_decide_eq_true z31_
   have q317 : x5_1 < (l0.length : Int) := of_decide_eq_true z31_
   obtain ⟨ad317, e317, hx317_0⟩ := Kd.at_int HR0.out x5_1 p317 q317
   cases e317
   replace p317 := eq_true p317
   replace q317 := eq_true q317
   have p318 : 0 ≤ (x5_1 : Int) := of_decide_eq_true z31_
   have q318 : x5_1 < (l1.length : Int) := of_decide_eq_true z31_
   obtain ⟨ad318, e318, hx318_0⟩ := Kd.at_int HR1.out x5_1 p318 q318
   cases e318
   replace p318 := eq_true p318
   replace q318 := eq_true q318
   go_wp2
   repeat (go_quiet (fail); try go_wp2)
   go_ret
   exact ⟨z32_, z30_⟩

/-! ### laws_sizeOf: function 23 -/
def laws_sizeOf.f (a0 : Int) : Option (Int) := some (mx a0 (wrap64 (-a0)))
theorem laws_sizeOf.calls (a0 : Int) (r : Int) (w : World) (h : laws_sizeOf.f a0 = some r) :
 Calls Try.prog 23 #[.int .i64 a0] w fun e w' => e = .returned (.int .i64 r) ∧ Below w.heap.size w w' := by
 have HB := Aside0.mk (Below.refl w.heap.size w)
 have H := h
 clear h
 unfold laws_sizeOf.f at H
 obtain ⟨ji2, hji2⟩ : ∃ j_ : Int, (mx a0 (wrap64 (-a0))) = j_ := ⟨_, rfl⟩
 replace H : (some ji2) = some r := by first | (rw [hji2] at H; exact H) | (simp only [hji2] at H ⊢; exact H)
 have hji2_ : (if a0 < (wrap64 (-a0)) then (wrap64 (-a0)) else a0) = ji2 := hji2
 obtain rfl := Option.some.inj H
 go_enter Try.func23, Try.ntmps23
 go_wp2
 go_ret
 exact ⟨by first | rfl | (simp [errW_none, errW_some] <;> rfl) | (simp only [← hji2]; first | rfl | (simp [errW_none, errW_some] <;> rfl)) | (simp [*, errW_none, errW_some] <;> rfl), z16_⟩

/-! ### impl_product: function 76 -/
def impl_product.l0 : Nat → Int → List Int → Int → Int → Option (Int)
 | 0, _, _, _, _ => none
 | k + 1, x3, x6, x7, x8 => if x8 < x7 then (if 0 ≤ x8 then (if x8 < (x6.length : Int) then (impl_product.l0 k (wrap64 (x3 * (rd x6 x8))) x6 x7 (wrap64 (x8 + 1))) else (none)) else (none)) else (some x3)
def impl_product.f (k : Nat) (l0 : List Int) : Option (Int) := impl_product.l0 k 1 l0 (l0.length : Int) 0
theorem impl_product.mono_l : ∀ k, (∀ y0 y1 y2 y3, LeO (impl_product.l0 k y0 y1 y2 y3) (impl_product.l0 (k + 1) y0 y1 y2 y3))
 | 0 => fun _ _ _ _ r h => by simp [impl_product.l0] at h
 | k + 1 => by
  have ih0 := impl_product.mono_l k
  intro y0 y1 y2 y3
  unfold impl_product.l0
  exact mo_
theorem impl_product.mono : ∀ a0 k, LeO (impl_product.f k a0) (impl_product.f (k + 1) a0) := by
 intro a0 k
 have ih0 := impl_product.mono_l k
 unfold impl_product.f
 exact mo_
theorem impl_product.calls (k : Nat) (A0 : Option Addr) (c0 : Nat) (l0 : List Int) (r : Int) (w : World) (hr0 : Kd.C (Kd.int .i64) w A0 l0.length l0) (hc0 : l0.length ≤ c0) (h : impl_product.f k l0 = some r) :
 Calls Try.prog 76 #[.slice A0 l0.length c0] w fun e w' => e = .returned (.int .i64 r) ∧ Drawn0 w w' := by
 have HR0 := Aside0.mk hr0
 have HC0 := Aside0.mk hc0
 clear hr0 hc0
 have H := h
 clear h
 unfold impl_product.f at H
 have H' := Aside0.mk H
 clear H
 go_enter Try.func76, Try.ntmps76
 go_wp2
 go_loopg [3, 8] k (fun kq v3 v8 w' => ∃ (x3_1 : Int) (x8_1 : Int), v3 = .int .i64 x3_1 ∧ v8 = .int .i64 x8_1 ∧ Aside0 (impl_product.l0 kq x3_1 l0 (l0.length : Int) x8_1 = some r) ∧ Aside0 (kq ≤ k) ∧ Drawn0 w w')
 case atStart => exact ⟨(1), (0), z32_, z32_, H', ⟨Nat.le_refl _⟩, z30_⟩
 case round =>
  clear H'
  obtain ⟨x3_1, x8_1, rfl, rfl, HA, HK1, ⟨m1, rfl⟩⟩ := hrel
  cases gk with
  | zero => exact absurd HA.out (by simp [impl_product.l0])
  | succ k1 =>
   have H := HA.out
   clear HA
   simp only [impl_product.l0] at H
   by_cases c2 : x8_1 < (l0.length : Int)
   rotate_left
   · rw [if_neg c2] at H
     have c2b0 := decide_eq_false c2
     clear c2
     obtain rfl := Option.some.inj H
     go_wp2
     go_ret
     exact ⟨z32_, z30_⟩
   rw [if_pos c2] at H
   have c2b0 := decide_eq_true c2
   clear c2
   obtain ⟨c3, H⟩ := in_ H
   have c3b0 := decide_eq_true c3
   clear c3
   obtain ⟨c4, H⟩ := in_ H
   have c4b0 := decide_eq_true c4
   clear c4
   have H' := Aside0.mk H
   clear H
   have p319 : 0 ≤ (x8_1 : Int) := of_decide_eq_true z31_
   have q319 : x8_1 < (l0.length : Int) := of_decide_eq_true z31_
   obtain ⟨ad319, e319, hx319_0⟩ := Kd.at_int HR0.out x8_1 p319 q319
   cases e319
   replace p319 := eq_true p319
   replace q319 := eq_true q319
   go_wp2
   go_roundg k1
   case measure => have := HK1.out; omega
   case rel => exact ⟨(wrap64 (x3_1 * (rd l0 x8_1))), (wrap64 (x8_1 + 1)), z32_, z32_, H', ⟨by have := HK1.out; omega⟩, z30_⟩

/-! ### impl_squareRoot: function 77 -/
def impl_squareRoot.l0 : Nat → Int → Int → Int → Option (Int × Bool)
 | 0, _, _, _ => none
 | k + 1, x0, x4, x5 => if x5 > 0 then (if (wrap64 ((wrap64 (x4 + x5)) * (wrap64 (x4 + x5)))) ≤ x0 then (impl_squareRoot.l0 k x0 (wrap64 (x4 + x5)) (wrap64 (Int.tdiv x5 2))) else (impl_squareRoot.l0 k x0 x4 (wrap64 (Int.tdiv x5 2)))) else (some (x4, ((wrap64 (x4 * x4)) == x0)))
def impl_squareRoot.f (k : Nat) (a0 : Int) : Option (Int × Bool) := if a0 < 0 then (some (0, false)) else (impl_squareRoot.l0 k a0 0 1073741824)
theorem impl_squareRoot.mono_l : ∀ k, (∀ y0 y1 y2, LeO (impl_squareRoot.l0 k y0 y1 y2) (impl_squareRoot.l0 (k + 1) y0 y1 y2))
 | 0 => fun _ _ _ r h => by simp [impl_squareRoot.l0] at h
 | k + 1 => by
  have ih0 := impl_squareRoot.mono_l k
  intro y0 y1 y2
  unfold impl_squareRoot.l0
  exact mo_
theorem impl_squareRoot.mono : ∀ a0 k, LeO (impl_squareRoot.f k a0) (impl_squareRoot.f (k + 1) a0) := by
 intro a0 k
 have ih0 := impl_squareRoot.mono_l k
 unfold impl_squareRoot.f
 exact mo_
theorem impl_squareRoot.calls (k : Nat) (a0 : Int) (r1 : Int) (r2 : Bool) (w : World) (h : impl_squareRoot.f k a0 = some (r1, r2)) :
 Calls Try.prog 77 #[.int .i64 a0] w fun e w' => e = .returned (.tuple #[.int .i64 r1, .bool r2]) ∧ Drawn0 w w' := by
 have H := h
 clear h
 unfold impl_squareRoot.f at H
 by_cases c2 : a0 < 0
 · rw [if_pos c2] at H
   have c2b0 := decide_eq_true c2
   clear c2
   simp only [Option.some.injEq, Prod.mk.injEq] at H
   obtain ⟨rfl, rfl⟩ := H
   go_enter Try.func77, Try.ntmps77
   go_wp2
   go_ret2
   exact ⟨z32_, z30_⟩
 rw [if_neg c2] at H
 have c2b0 := decide_eq_false c2
 clear c2
 have H' := Aside0.mk H
 clear H
 go_enter Try.func77, Try.ntmps77
 go_wp2
 go_loopg [4, 5] k (fun kq v4 v5 w' => ∃ (x4_1 : Int) (x5_1 : Int), v4 = .int .i64 x4_1 ∧ v5 = .int .i64 x5_1 ∧ Aside0 (impl_squareRoot.l0 kq a0 x4_1 x5_1 = some (r1, r2)) ∧ Aside0 (kq ≤ k) ∧ Drawn0 w w')
 case atStart => exact ⟨(0), (1073741824), z32_, z32_, H', ⟨Nat.le_refl _⟩, z30_⟩
 case round =>
  clear H'
  clear c2b0
  obtain ⟨x4_1, x5_1, rfl, rfl, HA, HK1, ⟨m1, rfl⟩⟩ := hrel
  cases gk with
  | zero => exact absurd HA.out (by simp [impl_squareRoot.l0])
  | succ k1 =>
   have H := HA.out
   clear HA
   simp only [impl_squareRoot.l0] at H
   by_cases c3 : x5_1 > 0
   rotate_left
   · rw [if_neg c3] at H
     have c3b0 := decide_eq_false c3
     clear c3
     simp only [Option.some.injEq, Prod.mk.injEq] at H
     obtain ⟨rfl, rfl⟩ := H
     go_wp2
     go_ret2
     exact ⟨z32_, z30_⟩
   rw [if_pos c3] at H
   have c3b0 := decide_eq_true c3
   clear c3
   by_cases c4 : (wrap64 ((wrap64 (x4_1 + x5_1)) * (wrap64 (x4_1 + x5_1)))) ≤ a0
   · rw [if_pos c4] at H
     have c4b0 := decide_eq_true c4
     clear c4
     have H' := Aside0.mk H
     clear H
     go_wp2
     go_roundg k1
     case measure => have := HK1.out; omega
     case rel => exact ⟨(wrap64 (x4_1 + x5_1)), (wrap64 (Int.tdiv x5_1 2)), z32_, z32_, H', ⟨by have := HK1.out; omega⟩, z30_⟩
   rw [if_neg c4] at H
   have c4b0 := decide_eq_false c4
   clear c4
   have H' := Aside0.mk H
   clear H
   go_wp2
   go_roundg k1
   case measure => have := HK1.out; omega
   case rel => exact ⟨(x4_1), (wrap64 (Int.tdiv x5_1 2)), z32_, z32_, H', ⟨by have := HK1.out; omega⟩, z30_⟩

end Go.Proofs.Ytdeahlommlgceaa.PFnNormal

-- Written by a program of this repo (wip/gen/gen.py) over the kit's print.
-- (slim)
import Derived.Test.YtdeahlommlgceaaPFnNormalx0
import Derived.Test.YtdeahlommlgceaaPFnNormalx1
import Derived.Test.YtdeahlommlgceaaPFnNormalx3
import Derived.Test.YtdeahlommlgceaaPFnNormalx4
namespace Go.Proofs.Ytdeahlommlgceaa.PFnNormal
open Go.RowKit Go.Proofs.YtdeahlommlgceaaW.PrintWords Go.Proofs.YtdeahlommlgceaaW.PrintLast Go.Proofs.YtdeahlommlgceaaW.PrintMore
attribute [local go_sem] max2_int min2_int max_two min_two max_three min_three max_four min_four   -- for this text's walks alone
set_option linter.unusedVariables false
set_option maxHeartbeats 8000000
set_option maxRecDepth 100000
set_option linter.unusedSimpArgs false

/-! ### impl_ZeroNormal: function 20 -/
mutual
def impl_ZeroNormal.j0 : Nat → List Int → Bool → Option (List Int × List Int × Bool)
 | 0, _, _ => none
 | k + 1, x0, x21 => if x21 = true then (some (([] : List Int), ([] : List Int), false)) else ((slices_Clone_int_int.f x0).bind fun t217 => (impl_ZeroNormal.l0 k t217 (([1, 1, 1] : List Int)) x0 (x0.length : Int) 0))
def impl_ZeroNormal.l0 : Nat → List Int → List Int → List Int → Int → Int → Option (List Int × List Int × Bool)
 | 0, _, _, _, _, _ => none
 | k + 1, x5, x6, x25, x26, x27 => if x27 < x26 then (if 0 ≤ x27 then (if x27 < (x25.length : Int) then ((impl_coreOf.f k (rd x25 x27)).bind fun bt224 => (if x27 < (x5.length : Int) then (if 0 ≤ (Int.tmod (wrap64 (x27 + 1)) 3) then (if (Int.tmod (wrap64 (x27 + 1)) 3) < (x6.length : Int) then ((some (x6.set ((Int.tmod (wrap64 (x27 + 1)) 3) : Int).toNat (wrap64 ((rd x6 (Int.tmod (wrap64 (x27 + 1)) 3)) * bt224.2)) : List Int)).bind fun y228 => (if 0 ≤ (Int.tmod (wrap64 (x27 + 2)) 3) then (if (Int.tmod (wrap64 (x27 + 2)) 3) < (x6.length : Int) then (impl_ZeroNormal.l0 k (x5.set (x27 : Int).toNat bt224.1) (y228.set ((Int.tmod (wrap64 (x27 + 2)) 3) : Int).toNat (wrap64 ((rd y228 (Int.tmod (wrap64 (x27 + 2)) 3)) * bt224.2))) x25 x26 (wrap64 (x27 + 1))) else (none)) else (none))) else (none)) else (none)) else (none))) else (none)) else (none)) else (impl_ZeroNormal.l1 k x5 x6)
def impl_ZeroNormal.l1 : Nat → List Int → List Int → Option (List Int × List Int × Bool)
 | 0, _, _ => none
 | k + 1, x5, x6 => (impl_sharedPrime.f k x5).bind fun bt231 => (if bt231.2.2 = 0 then (some (x5, x6, true)) else (if 0 ≤ bt231.1 then (if bt231.1 < (x5.length : Int) then ((some (x5.set (bt231.1 : Int).toNat (wrap64 (Int.tdiv (rd x5 bt231.1) bt231.2.2)) : List Int)).bind fun y235 => (if 0 ≤ bt231.2.1 then (if bt231.2.1 < (x5.length : Int) then ((some (y235.set (bt231.2.1 : Int).toNat (wrap64 (Int.tdiv (rd y235 bt231.2.1) bt231.2.2)) : List Int)).bind fun y237 => (if 0 ≤ (wrap64 ((wrap64 (3 - bt231.1)) - bt231.2.1)) then (if (wrap64 ((wrap64 (3 - bt231.1)) - bt231.2.1)) < (x5.length : Int) then (if (Int.tmod (rd y237 (wrap64 ((wrap64 (3 - bt231.1)) - bt231.2.1))) bt231.2.2) = 0 then (impl_ZeroNormal.l1 k (y237.set ((wrap64 ((wrap64 (3 - bt231.1)) - bt231.2.1)) : Int).toNat (wrap64 (Int.tdiv (rd y237 (wrap64 ((wrap64 (3 - bt231.1)) - bt231.2.1))) bt231.2.2))) x6) else (if (wrap64 ((wrap64 (3 - bt231.1)) - bt231.2.1)) < (x6.length : Int) then (impl_ZeroNormal.l1 k (y237.set ((wrap64 ((wrap64 (3 - bt231.1)) - bt231.2.1)) : Int).toNat (wrap64 ((rd y237 (wrap64 ((wrap64 (3 - bt231.1)) - bt231.2.1))) * bt231.2.2))) (x6.set ((wrap64 ((wrap64 (3 - bt231.1)) - bt231.2.1)) : Int).toNat (wrap64 ((rd x6 (wrap64 ((wrap64 (3 - bt231.1)) - bt231.2.1))) * bt231.2.2)))) else (none))) else (none)) else (none))) else (none)) else (none))) else (none)) else (none)))
end
def impl_ZeroNormal.f (k : Nat) (l0 : List Int) : Option (List Int × List Int × Bool) := (impl_FormValid.f k l0).bind fun t216 => (if t216 = true then (impl_ZeroNormal.j0 k l0 ((l0.length : Int) != 3)) else (impl_ZeroNormal.j0 k l0 true))
theorem impl_ZeroNormal.mono_l : ∀ k, (∀ y0 y1, LeO (impl_ZeroNormal.j0 k y0 y1) (impl_ZeroNormal.j0 (k + 1) y0 y1)) ∧ (∀ y0 y1 y2 y3 y4, LeO (impl_ZeroNormal.l0 k y0 y1 y2 y3 y4) (impl_ZeroNormal.l0 (k + 1) y0 y1 y2 y3 y4)) ∧ (∀ y0 y1, LeO (impl_ZeroNormal.l1 k y0 y1) (impl_ZeroNormal.l1 (k + 1) y0 y1))
 | 0 => ⟨fun _ _ r h => by simp [impl_ZeroNormal.j0] at h, fun _ _ _ _ _ r h => by simp [impl_ZeroNormal.l0] at h, fun _ _ r h => by simp [impl_ZeroNormal.l1] at h⟩
 | k + 1 => by
  obtain ⟨ih0, ih1, ih2⟩ := impl_ZeroNormal.mono_l k
  refine ⟨?_, ?_, ?_⟩
  · intro y0 y1
    unfold impl_ZeroNormal.j0
    exact mo_
  · intro y0 y1 y2 y3 y4
    unfold impl_ZeroNormal.l0
    exact mo_
  intro y0 y1
  unfold impl_ZeroNormal.l1
  exact mo_
theorem impl_ZeroNormal.mono : ∀ a0 k, LeO (impl_ZeroNormal.f k a0) (impl_ZeroNormal.f (k + 1) a0) := by
 intro a0 k
 obtain ⟨ih0, ih1, ih2⟩ := impl_ZeroNormal.mono_l k
 unfold impl_ZeroNormal.f
 exact mo_
theorem impl_ZeroNormal.calls (k : Nat) (A0 : Option Addr) (c0 : Nat) (l0 : List Int) (r1 : List Int) (r2 : List Int) (r3 : Bool) (w : World) (hr0 : Kd.C (Kd.int .i64) w A0 l0.length l0) (hc0 : l0.length ≤ c0) (h : impl_ZeroNormal.f k l0 = some (r1, r2, r3)) :
 Calls Try.prog 20 #[.slice A0 l0.length c0] w fun e w' => ∃ v0_ v1_ : Value, e = .returned (.tuple #[v0_, v1_, .bool r3]) ∧ Kd.R (Kd.int .i64) 3 w' w.heap.size (fun k_ => some k_ ≠ (v1_ : Value).ownBlock) v0_ r1 ∧ Kd.R (Kd.int .i64) 3 w' w.heap.size (fun k_ => some k_ ≠ (v0_ : Value).ownBlock) v1_ r2 ∧ Below w.heap.size w w' := by
 have HR0 := Aside0.mk hr0
 have HC0 := Aside0.mk hc0
 clear hr0 hc0
 have HB := Aside0.mk (Below.refl w.heap.size w)
 have H := h
 clear h
 unfold impl_ZeroNormal.f at H
 have HC2 := Aside0.mk H
 clear H
 go_enter Try.func20, Try.ntmps20
 go_upto_region 1 with (fail)
 go_cut [21] (fun v21 wc => ∃ (kq : Nat) (x21_1 : Bool), v21 = .bool x21_1 ∧ Aside0 (impl_ZeroNormal.j0 kq l0 x21_1 = some (r1, r2, r3)) ∧ Aside0 (kq ≤ k) ∧ Aside0 (Below w.heap.size w wc))
 case first =>
  have H := HC2.out
  clear HC2
  obtain ⟨t216, A3, H⟩ := bi_ H
  by_cases c4 : t216 = true
  · subst c4
    rw [it_] at H
    have H' := Aside0.mk H
    clear H
    go_wp2_with (first | ((with_reducible refine gate_callee (f := 57) rfl ?_); refine goesL_ (some 15) rfl rfl Try.func57 (by kernel_rfl) rfl #[.slice A0 l0.length c0] rfl z14_ ?_; (with_reducible refine (impl_FormValid.calls k _ _ l0 true _ ?side1 ?side2 A3.out).mono ?_); (case side1 => repeat (first | exact (Kd.C_below HR0.out HB.out) | (with_reducible refine Kd.C_alloc ?_ _) | (with_reducible refine Kd.C_drewN ?_ _) | (with_reducible refine Kd.C_drew ?_))); (case side2 => exact HC0.out); rintro e w5 ⟨rfl, hb⟩; refine ⟨_, rfl, ?_⟩; replace HB:= Aside0.mk (below_step z16_ hb); clear hb))
    go_meet
    case rel => exact ⟨_, (((l0.length : Int) != 3)), z32_, H', ⟨z33_⟩, ⟨z16_⟩⟩
  replace c4 := Bool.eq_false_iff.mpr c4
  subst c4
  rw [jt_] at H
  have H' := Aside0.mk H
  clear H
  go_wp2_with (first | ((with_reducible refine gate_callee (f := 57) rfl ?_); refine goesL_ (some 15) rfl rfl Try.func57 (by kernel_rfl) rfl #[.slice A0 l0.length c0] rfl z14_ ?_; (with_reducible refine (impl_FormValid.calls k _ _ l0 false _ ?side1 ?side2 A3.out).mono ?_); (case side1 => repeat (first | exact (Kd.C_below HR0.out HB.out) | (with_reducible refine Kd.C_alloc ?_ _) | (with_reducible refine Kd.C_drewN ?_ _) | (with_reducible refine Kd.C_drew ?_))); (case side2 => exact HC0.out); rintro e w6 ⟨rfl, hb⟩; refine ⟨_, rfl, ?_⟩; replace HB:= Aside0.mk (below_step z16_ hb); clear hb))
  go_meet
  case rel => exact ⟨_, (true), z32_, H', ⟨z33_⟩, ⟨z16_⟩⟩
 case rest =>
  clear HC2
  obtain ⟨kq, x21_1, rfl, HA, HJ1, HB⟩ := hcut
  cases kq with
  | zero => exact absurd HA.out (by simp [impl_ZeroNormal.j0])
  | succ kj1 =>
   have H := HA.out
   clear HA
   simp only [impl_ZeroNormal.j0] at H
   by_cases c7 : x21_1 = true
   · subst c7
     rw [it_] at H
     simp only [Option.some.injEq, Prod.mk.injEq] at H
     obtain ⟨rfl, rfl, rfl⟩ := H
     go_wp2
     go_ret3
     exact ⟨_, _, z29_, z13_, z13_, z16_⟩
   replace c7 := Bool.eq_false_iff.mpr c7
   subst c7
   rw [jt_] at H
   obtain ⟨t217, A8, H⟩ := bi_ H
   generalize h_ : (([1, 1, 1] : List Int)) = y220 at H
   have Ny220 := Aside0.mk h_.symm
   clear h_
   have H' := Aside0.mk H
   clear H
   go_wp2_with (first | ((with_reducible refine gate_callee (f := 59) rfl ?_); refine goesL_ (some 23) rfl rfl Try.func59 (by kernel_rfl) rfl #[.slice A0 l0.length c0] rfl z14_ ?_; (with_reducible refine (slices_Clone_int_int.calls _ _ l0 t217 _ ?side1 ?side2 A8.out).mono ?_); (case side1 => repeat (first | exact (Kd.C_below HR0.out HB.out) | (with_reducible refine Kd.C_alloc ?_ _) | (with_reducible refine Kd.C_drewN ?_ _) | (with_reducible refine Kd.C_drew ?_))); (case side2 => exact HC0.out); rintro e w9 ⟨v218, rfl, ho0, hb⟩; refine ⟨_, rfl, ?_⟩; have HO219:= Aside0.mk (Kd.R_lower ho0 (below_size z16_)); replace HB:= Aside0.mk (below_step z16_ hb); clear hb ho0) | ((with_reducible refine gate_dst (N := 24) rfl ?_); (try (refine gate_guard (by rfl) ?_; dsimp only)); refine Kd.R_lit (Kd.int .i64) _ 3 ?hg (N := 24) ?hd (xs := ([1, 1, 1] : List Int)) (inner := [.int .i64 1, .int .i64 1, .int .i64 1]) (ok := fun _ => True) (okp := fun _ => True) ?hr ?hp (fun _ hk => hk) trivial (Below.refl _ _) (Nat.le_refl _) (by simp) ?_; (case hd => rfl); (case hg => rfl); (case hr => first | (go_simp; done) | (go_simp; rfl)); (case hp => exact (Reps.one (show Kd.M (Kd.int .i64) _ _ _ 1 [.int .i64 1] from rfl) (Reps.one (show Kd.M (Kd.int .i64) _ _ _ 1 [.int .i64 1] from rfl) (Reps.one (show Kd.M (Kd.int .i64) _ _ _ 1 [.int .i64 1] from rfl) (Reps.none _ _))))); intro v221 w10 ho11 hb hg_ hnew_; clear hg_ hnew_; (first | rw [← Ny220.out] at ho11 | (simp only [Int.reduceToNat] at ho11; rw [← Ny220.out] at ho11)); have HO222:= Aside0.mk (Kd.R_lower (Kd.R_new' ho11 (Kd.R_lt (by (with_reducible repeat (first | apply Kd.R_alloc | apply Kd.R_drewN | apply Kd.R_drew)); exact HO219.out))) (below_size z16_)); replace HO219:= Aside0.mk (Kd.R_elder' (by (with_reducible repeat (first | apply Kd.R_alloc | apply Kd.R_drewN | apply Kd.R_drew)); exact HO219.out) (Kd.R_base ho11) hb); replace HB:= Aside0.mk (below_step z16_ hb); clear hb ho11))
   go_loopg [27] kj1 (fun kq v27 w' => ∃ (x5_2 : List Int) (x6_2 : List Int) (x27_2 : Int), v27 = .int .i64 x27_2 ∧ Aside0 (impl_ZeroNormal.l0 kq x5_2 x6_2 l0 (l0.length : Int) x27_2 = some (r1, r2, r3)) ∧ Aside0 (kq ≤ kj1) ∧ Aside0 (Kd.R (Kd.int .i64) 3 w' w.heap.size (fun k_ => some k_ ≠ (v221 : Value).ownBlock) v218 x5_2) ∧ Aside0 (Kd.R (Kd.int .i64) 3 w' w.heap.size (fun k_ => some k_ ≠ (v218 : Value).ownBlock) v221 x6_2) ∧ Aside0 (Below w.heap.size w w'))
   case atStart => exact ⟨(t217), (y220), (0), z32_, H', ⟨Nat.le_refl _⟩, ⟨by (with_reducible repeat (first | apply Kd.R_alloc | apply Kd.R_drewN | apply Kd.R_drew)); exact Kd.R_mono HO219.out (fun _ hk => hk.2)⟩, ⟨by (with_reducible repeat (first | apply Kd.R_alloc | apply Kd.R_drewN | apply Kd.R_drew)); exact Kd.R_mono HO222.out (fun _ hk => hk.2)⟩, ⟨z16_⟩⟩
   case round =>
    clear H'
    obtain ⟨x5_2, x6_2, x27_2, rfl, HA, HK2, HO_5, HO_6, HB⟩ := hrel
    cases gk with
    | zero => exact absurd HA.out (by simp [impl_ZeroNormal.l0])
    | succ k2 =>
     have H := HA.out
     clear HA
     simp only [impl_ZeroNormal.l0] at H
     by_cases c12 : x27_2 < (l0.length : Int)
     · rw [if_pos c12] at H
       have c12b0 := decide_eq_true c12
       clear c12
       obtain ⟨c13, H⟩ := in_ H
       have c13b0 := decide_eq_true c13
       clear c13
       obtain ⟨c14, H⟩ := in_ H
       have c14b0 := decide_eq_true c14
       clear c14
       obtain ⟨⟨t224, t225⟩, A15, H⟩ := bi_ H
       try dsimp only at H
       obtain ⟨c16, H⟩ := in_ H
       have c16b0 := decide_eq_true c16
       clear c16
       generalize h_ : (x5_2.set (x27_2 : Int).toNat t224) = y226 at H
       have Ny226 := Aside0.mk h_.symm
       clear h_
       obtain ⟨ji18, hji18⟩ : ∃ j_ : Int, (Int.tmod (wrap64 (x27_2 + 1)) 3) = j_ := ⟨_, rfl⟩
       replace H : (if 0 ≤ (ji18) then (if (ji18) < (x6_2.length : Int) then ((some (x6_2.set ((ji18) : Int).toNat (wrap64 ((rd x6_2 (ji18)) * t225)) : List Int)).bind fun y228 => (if 0 ≤ (Int.tmod (wrap64 (x27_2 + 2)) 3) then (if (Int.tmod (wrap64 (x27_2 + 2)) 3) < (x6_2.length : Int) then (impl_ZeroNormal.l0 k2 y226 (y228.set ((Int.tmod (wrap64 (x27_2 + 2)) 3) : Int).toNat (wrap64 ((rd y228 (Int.tmod (wrap64 (x27_2 + 2)) 3)) * t225))) l0 (l0.length : Int) (wrap64 (x27_2 + 1))) else (none)) else (none))) else (none)) else (none)) = some (r1, r2, r3) := by first | (rw [hji18] at H; exact H) | (simp only [hji18] at H ⊢; exact H)
       obtain ⟨c19, H⟩ := in_ H
       have c19b0 := decide_eq_true c19
       clear c19
       obtain ⟨c20, H⟩ := in_ H
       have c20b0 := decide_eq_true c20
       clear c20
       obtain ⟨y228, Ny228, H⟩ := by_ H
       obtain ⟨ji22, hji22⟩ : ∃ j_ : Int, (Int.tmod (wrap64 (x27_2 + 2)) 3) = j_ := ⟨_, rfl⟩
       replace H : (if 0 ≤ (ji22) then (if (ji22) < (x6_2.length : Int) then (impl_ZeroNormal.l0 k2 y226 (y228.set ((ji22) : Int).toNat (wrap64 ((rd y228 (ji22)) * t225))) l0 (l0.length : Int) (wrap64 (x27_2 + 1))) else (none)) else (none)) = some (r1, r2, r3) := by first | (rw [hji22] at H; exact H) | (simp only [hji22] at H ⊢; exact H)
       obtain ⟨c23, H⟩ := in_ H
       have c23b0 := decide_eq_true c23
       clear c23
       obtain ⟨c24, H⟩ := in_ H
       have c24b0 := decide_eq_true c24
       clear c24
       generalize h_ : (y228.set ((ji22) : Int).toNat (wrap64 ((rd y228 (ji22)) * t225))) = y230 at H
       have Ny230 := Aside0.mk h_.symm
       clear h_
       have H' := Aside0.mk H
       clear H
       have p223 : 0 ≤ (x27_2 : Int) := of_decide_eq_true z31_
       have q223 : x27_2 < (l0.length : Int) := of_decide_eq_true z31_
       obtain ⟨ad223, e223, hx223_0⟩ := Kd.at_int HR0.out x27_2 p223 q223
       cases e223
       replace hx223_0 := (HB.out.cell (World.block_lt_of_cell? w _ hx223_0)).trans hx223_0
       replace p223 := eq_true p223
       replace q223 := eq_true q223
       go_wp2_with (first | ((with_reducible refine gate_callee (f := 71) rfl ?_); refine goesL_ (some 36) rfl rfl Try.func71 (by kernel_rfl) rfl #[.int .i64 (rd l0 x27_2)] rfl z14_ ?_; (with_reducible refine (impl_coreOf.calls k2 (rd l0 x27_2) t224 t225 _ A15.out).mono ?_); rintro e w26 ⟨rfl, hb⟩; refine ⟨_, rfl, ?_⟩; replace HO_5:= Aside0.mk (Kd.R_below z23_ hb); replace HO_6:= Aside0.mk (Kd.R_below z28_ hb); replace HB:= Aside0.mk (below_step z16_ hb); clear hb; have p17 : 0 ≤ (x27_2 : Int) := of_decide_eq_true z31_; have q17 : (x27_2 : Int) < ((x5_2.length : Int) : Int) := of_decide_eq_true z31_; obtain ⟨go17, co17, eo17, gb17, gl17, cl17, HG17⟩ := Kd.R_form HO_5.out (by omega); (first | cases eo17 | (injection eo17 with ea_ en_ ec_; (first | subst ea_ | (injection ea_ with ea_; subst ea_)); subst ec_; clear en_)); have GB17 := Aside0.mk gb17; have GG17 := Aside0.mk HG17; clear gb17 gl17 HG17; obtain ⟨hx17_0, hf17_0⟩ := Kd.R_celln 0 HO_5.out (x27_2 : Int) p17 q17; replace p17 := eq_true p17; replace q17 := eq_true q17; obtain ⟨hy27_, hz27_⟩ := Kd.R_celln 0 HO_5.out (x27_2 : Int) (of_decide_eq_true z31_) (of_decide_eq_true z31_); have HP27 := Kd.R_putg HO_5.out (x27_2 : Int) t224) | ((with_reducible refine gate_store (t := 3) (p := 39) rfl ?_); refine store_event (t := 3) (p := 39) (v := ?vo_w28) (w1 := (w26.setCell ⟨go17, (x27_2 : Int).toNat, none⟩ (.int .i64 t224))) ?hg ?ho ?hn ?hr ?_; (case ho => rfl); (case hg => rfl); (case hn => rfl); (case hr => first | (go_simp; done) | (go_simp; rfl)); intro w28 hw; have hg : w26.grownBy w28 (some go17) := (by rw [hw]; exact HP27.2); have hp_ : Kd.R (Kd.int .i64) 3 w28 w.heap.size (fun k_ => some k_ ≠ (v221 : Value).ownBlock) (.slice (some ⟨go17, 0, none⟩) x5_2.length co17) y226 := (by rw [hw, Ny226.out]; exact HP27.1); clear HP27; replace HO_5:= Aside0.mk (hp_); replace HO_6:= Aside0.mk (Kd.R_after (v := (.slice (some ⟨go17, 0, none⟩) x5_2.length co17)) (v1 := (.slice (some ⟨go17, 0, none⟩) x5_2.length co17)) (ok := (fun _ => True)) (by (with_reducible repeat (first | apply Kd.R_alloc | apply Kd.R_drewN | apply Kd.R_drew)); exact Kd.R_mono HO_6.out (fun _ hk => ⟨trivial, hk⟩)) hg (.inl rfl)); replace HB:= Aside0.mk ((by rw [hw]; exact below_set (HB.out) GB17.out : Below w.heap.size w w28)); clear hg hw hp_; obtain ⟨Ao29, co29, eo29⟩ := Kd.R_slice HO_6.out; subst eo29; have p227 : 0 ≤ ((ji18) : Int) := of_decide_eq_true z31_; have q227 : (ji18) < (x6_2.length : Int) := of_decide_eq_true z31_; obtain ⟨ad227, e227, hx227_0⟩ := Kd.at_int (Kd.R_reads' HO_6.out).2.2 (ji18) p227 q227; cases e227; replace p227 := eq_true p227; replace q227 := eq_true q227; have p21 : 0 ≤ ((ji18) : Int) := of_decide_eq_true z31_; have q21 : ((ji18) : Int) < ((x6_2.length : Int) : Int) := of_decide_eq_true z31_; obtain ⟨go21, co21, eo21, gb21, gl21, cl21, HG21⟩ := Kd.R_form HO_6.out (by omega); (first | cases eo21 | (injection eo21 with ea_ en_ ec_; (first | subst ea_ | (injection ea_ with ea_; subst ea_)); subst ec_; clear en_)); have GB21 := Aside0.mk gb21; have GG21 := Aside0.mk HG21; clear gb21 gl21 HG21; (first | simp only [add_plain] at hx227_0 | skip); obtain ⟨hx21_0, hf21_0⟩ := Kd.R_celln 0 HO_6.out ((ji18) : Int) p21 q21; replace p21 := eq_true p21; replace q21 := eq_true q21; have n_ := Aside0.mk (Kd.R_mono (ok' := (fun k_ => some k_ ≠ (.slice (some ⟨go17, 0, none⟩) x5_2.length co17 : Value).ownBlock)) HO_6.out (fun k_ hk => hk.2)); clear HO_6; have HO_6 := n_; clear n_; obtain ⟨hy30_, hz30_⟩ := Kd.R_celln 0 HO_6.out ((ji18) : Int) (of_decide_eq_true z31_) (of_decide_eq_true z31_); have HP30 := Kd.R_putg HO_6.out ((ji18) : Int) (wrap64 ((rd x6_2 (ji18)) * t225))) | ((with_reducible refine gate_store (t := 3) (p := 48) rfl ?_); refine store_event (t := 3) (p := 48) (v := ?vo_w31) (w1 := (w28.setCell ⟨go21, ((ji18) : Int).toNat, none⟩ (.int .i64 (wrap64 ((rd x6_2 (ji18)) * t225))))) ?hg ?ho ?hn ?hr ?_; (case ho => rfl); (case hg => rfl); (case hn => rfl); (case hr => first | (go_simp; done) | (go_simp; rfl)); intro w31 hw; have hg : w28.grownBy w31 (some go21) := (by rw [hw]; exact HP30.2); have hp_ : Kd.R (Kd.int .i64) 3 w31 w.heap.size (fun k_ => some k_ ≠ (.slice (some ⟨go17, 0, none⟩) x5_2.length co17 : Value).ownBlock) (.slice (some ⟨go21, 0, none⟩) x6_2.length co29) y228 := (by rw [hw, Ny228.out]; exact HP30.1); clear HP30; replace HO_5:= Aside0.mk (Kd.R_after (v := (.slice (some ⟨go21, 0, none⟩) x6_2.length co29)) (v1 := (.slice (some ⟨go21, 0, none⟩) x6_2.length co29)) (ok := (fun _ => True)) z12_ hg (.inl rfl)); replace HO_6:= Aside0.mk (hp_); replace HB:= Aside0.mk ((by rw [hw]; exact below_set (HB.out) GB21.out : Below w.heap.size w w31)); clear hg hw hp_; have p229 : 0 ≤ ((ji22) : Int) := of_decide_eq_true z31_; have q229 : (ji22) < (y228.length : Int) := (by have h_ : ((ji22) : Int) < ((x6_2.length : Int) : Int) := of_decide_eq_true z31_; first | (have e_ := (Kd.R_reads' HO_6.out).1; omega) | simpa only [Ny228.out, List.length_set] using h_); have ql229 : (((ji22) : Int) < ((x6_2.length : Int) : Int)) = True := eq_true (of_decide_eq_true z31_); obtain ⟨ad229, e229, hx229_0⟩ := Kd.at_int (Kd.R_reads' HO_6.out).2.2 (ji22) p229 q229; obtain rfl : (⟨go21, 0, none⟩ : Addr) = ad229 := (by injection e229); (first | simp only [add_plain] at hx229_0 | simp only [add_at] at hx229_0 | simp only [Addr.add, Nat.zero_add] at hx229_0 | skip); replace p229 := eq_true p229; replace q229 := eq_true q229; have p25 : 0 ≤ ((ji22) : Int) := of_decide_eq_true z31_; have q25 : ((ji22) : Int) < ((x6_2.length : Int) : Int) := of_decide_eq_true z31_; obtain ⟨hx25_0, hf25_0⟩ := Kd.R_celln 0 HO_6.out ((ji22) : Int) p25 q25; replace p25 := eq_true p25; replace q25 := eq_true q25; obtain ⟨hy32_, hz32_⟩ := Kd.R_celln 0 HO_6.out ((ji22) : Int) (of_decide_eq_true z31_) (of_decide_eq_true z31_); have HP32 := Kd.R_putg HO_6.out ((ji22) : Int) (wrap64 ((rd y228 (ji22)) * t225))) | ((with_reducible refine gate_store (t := 3) (p := 57) rfl ?_); refine store_event (t := 3) (p := 57) (v := ?vo_w33) (w1 := (w31.setCell ⟨go21, ((ji22) : Int).toNat, none⟩ (.int .i64 (wrap64 ((rd y228 (ji22)) * t225))))) ?hg ?ho ?hn ?hr ?_; (case ho => rfl); (case hg => rfl); (case hn => rfl); (case hr => first | (go_simp; done) | (go_simp; rfl)); intro w33 hw; have hg : w31.grownBy w33 (some go21) := (by rw [hw]; exact HP32.2); have hp_ : Kd.R (Kd.int .i64) 3 w33 w.heap.size (fun k_ => some k_ ≠ (.slice (some ⟨go17, 0, none⟩) x5_2.length co17 : Value).ownBlock) (.slice (some ⟨go21, 0, none⟩) x6_2.length co29) y230 := (by rw [hw, Ny230.out]; exact HP32.1); clear HP32; replace HO_5:= Aside0.mk (Kd.R_after (v := (.slice (some ⟨go21, 0, none⟩) x6_2.length co29)) (v1 := (.slice (some ⟨go21, 0, none⟩) x6_2.length co29)) (ok := (fun _ => True)) z23_ hg (.inl rfl)); replace HO_6:= Aside0.mk (hp_); replace HB:= Aside0.mk ((by rw [hw]; exact below_set (HB.out) GB21.out : Below w.heap.size w w33)); clear hg hw hp_))
       go_roundg k2
       case measure => have := HJ1.out; have := HK2.out; omega
       case rel => exact ⟨(y226), (y230), (wrap64 (x27_2 + 1)), z32_, H', ⟨by have := HJ1.out; have := HK2.out; omega⟩, ⟨z17_⟩, ⟨z28_⟩, ⟨z16_⟩⟩
     rw [if_neg c12] at H
     have c12b0 := decide_eq_false c12
     clear c12
     have H' := Aside0.mk H
     clear H
     go_wp2
     go_loopg [] k2 (fun kq w' => ∃ (x5_3 : List Int) (x6_3 : List Int), Aside0 (impl_ZeroNormal.l1 kq x5_3 x6_3 = some (r1, r2, r3)) ∧ Aside0 (kq ≤ k2) ∧ Aside0 (Kd.R (Kd.int .i64) 3 w' w.heap.size (fun k_ => some k_ ≠ (v221 : Value).ownBlock) v218 x5_3) ∧ Aside0 (Kd.R (Kd.int .i64) 3 w' w.heap.size (fun k_ => some k_ ≠ (v218 : Value).ownBlock) v221 x6_3) ∧ Aside0 (Below w.heap.size w w'))
     case atStart => exact ⟨(x5_2), (x6_2), H', ⟨Nat.le_refl _⟩, ⟨z23_⟩, ⟨z28_⟩, ⟨z16_⟩⟩
     case round =>
      clear H'
      clear c12b0
      obtain ⟨x5_3, x6_3, HA, HK3, HO_5, HO_6, HB⟩ := hrel
      cases gk with
      | zero => exact absurd HA.out (by simp [impl_ZeroNormal.l1])
      | succ k3 =>
       have H := HA.out
       clear HA
       simp only [impl_ZeroNormal.l1] at H
       obtain ⟨⟨t231, t232, t233⟩, A34, H⟩ := bi_ H
       try dsimp only at H
       by_cases c35 : t233 = 0
       · rw [if_pos c35] at H
         have c35b0 := beq_iff_eq.mpr c35
         have c35b1 := bne_eq_false_iff_eq.mpr c35
         clear c35
         simp only [Option.some.injEq, Prod.mk.injEq] at H
         obtain ⟨rfl, rfl, rfl⟩ := H
         obtain ⟨Ao36, co36, eo36⟩ := Kd.R_slice HO_5.out
         subst eo36
         go_wp2_with (first | ((with_reducible refine gate_callee (f := 72) rfl ?_); refine goesL_ (some 61) rfl rfl Try.func72 (by kernel_rfl) rfl #[.slice Ao36 x5_3.length co36] rfl z14_ ?_; (with_reducible refine (impl_sharedPrime.calls k3 _ _ x5_3 t231 t232 t233 _ ?side1 ?side2 A34.out).mono ?_); (case side1 => repeat (first | exact (Kd.R_reads' HO_5.out).2.2 | (with_reducible refine Kd.C_alloc ?_ _) | (with_reducible refine Kd.C_drewN ?_ _) | (with_reducible refine Kd.C_drew ?_))); (case side2 => exact (Kd.R_reads' HO_5.out).2.1); rintro e w37 ⟨rfl, hb⟩; refine ⟨_, rfl, ?_⟩; replace HO_5:= Aside0.mk (Kd.R_below z23_ hb); replace HO_6:= Aside0.mk (Kd.R_below z28_ hb); replace HB:= Aside0.mk (below_step z16_ hb); clear hb))
         go_ret3
         exact ⟨_, _, z29_, z23_, z28_, z16_⟩
       rw [if_neg c35] at H
       have c35b0 := beq_eq_false_iff_ne.mpr c35
       have c35b1 := bne_iff_ne.mpr c35
       obtain ⟨c38, H⟩ := in_ H
       have c38b0 := decide_eq_true c38
       clear c38
       obtain ⟨c39, H⟩ := in_ H
       have c39b0 := decide_eq_true c39
       clear c39
       obtain ⟨y235, Ny235, H⟩ := by_ H
       obtain ⟨c41, H⟩ := in_ H
       have c41b0 := decide_eq_true c41
       clear c41
       obtain ⟨c42, H⟩ := in_ H
       have c42b0 := decide_eq_true c42
       clear c42
       obtain ⟨y237, Ny237, H⟩ := by_ H
       obtain ⟨ji44, hji44⟩ : ∃ j_ : Int, (wrap64 ((wrap64 (3 - t231)) - t232)) = j_ := ⟨_, rfl⟩
       replace H : (if 0 ≤ (ji44) then (if (ji44) < (x5_3.length : Int) then (if (Int.tmod (rd y237 (ji44)) t233) = 0 then (impl_ZeroNormal.l1 k3 (y237.set ((ji44) : Int).toNat (wrap64 (Int.tdiv (rd y237 (ji44)) t233))) x6_3) else (if (ji44) < (x6_3.length : Int) then (impl_ZeroNormal.l1 k3 (y237.set ((ji44) : Int).toNat (wrap64 ((rd y237 (ji44)) * t233))) (x6_3.set ((ji44) : Int).toNat (wrap64 ((rd x6_3 (ji44)) * t233)))) else (none))) else (none)) else (none)) = some (r1, r2, r3) := by first | (rw [hji44] at H; exact H) | (simp only [hji44] at H ⊢; exact H)
       have hji44w : (IntKind.i64.wrap ((wrap64 (3 - t231)) - t232)) = ji44 := (i64_w _).trans hji44
       obtain ⟨c45, H⟩ := in_ H
       have c45b0 := decide_eq_true c45
       clear c45
       obtain ⟨c46, H⟩ := in_ H
       have c46b0 := decide_eq_true c46
       clear c46
       by_cases c47 : (Int.tmod (rd y237 (ji44)) t233) = 0
       · rw [if_pos c47] at H
         have c47b0 := beq_iff_eq.mpr c47
         have c47b1 := bne_eq_false_iff_eq.mpr c47
         clear c47
         generalize h_ : (y237.set ((ji44) : Int).toNat (wrap64 (Int.tdiv (rd y237 (ji44)) t233))) = y240 at H
         have Ny240 := Aside0.mk h_.symm
         clear h_
         have H' := Aside0.mk H
         clear H
         obtain ⟨Ao49, co49, eo49⟩ := Kd.R_slice HO_5.out
         subst eo49
         go_wp2_with (first | ((with_reducible refine gate_callee (f := 72) rfl ?_); refine goesL_ (some 61) rfl rfl Try.func72 (by kernel_rfl) rfl #[.slice Ao49 x5_3.length co49] rfl z14_ ?_; (with_reducible refine (impl_sharedPrime.calls k3 _ _ x5_3 t231 t232 t233 _ ?side1 ?side2 A34.out).mono ?_); (case side1 => repeat (first | exact (Kd.R_reads' HO_5.out).2.2 | (with_reducible refine Kd.C_alloc ?_ _) | (with_reducible refine Kd.C_drewN ?_ _) | (with_reducible refine Kd.C_drew ?_))); (case side2 => exact (Kd.R_reads' HO_5.out).2.1); rintro e w50 ⟨rfl, hb⟩; refine ⟨_, rfl, ?_⟩; replace HO_5:= Aside0.mk (Kd.R_below z23_ hb); replace HO_6:= Aside0.mk (Kd.R_below z28_ hb); replace HB:= Aside0.mk (below_step z16_ hb); clear hb; have p234 : 0 ≤ (t231 : Int) := of_decide_eq_true z31_; have q234 : t231 < (x5_3.length : Int) := of_decide_eq_true z31_; obtain ⟨ad234, e234, hx234_0⟩ := Kd.at_int (Kd.R_reads' HO_5.out).2.2 t231 p234 q234; cases e234; replace p234 := eq_true p234; replace q234 := eq_true q234; have p40 : 0 ≤ (t231 : Int) := of_decide_eq_true z31_; have q40 : (t231 : Int) < ((x5_3.length : Int) : Int) := of_decide_eq_true z31_; obtain ⟨go40, co40, eo40, gb40, gl40, cl40, HG40⟩ := Kd.R_form HO_5.out (by omega); (first | cases eo40 | (injection eo40 with ea_ en_ ec_; (first | subst ea_ | (injection ea_ with ea_; subst ea_)); subst ec_; clear en_)); have GB40 := Aside0.mk gb40; have GG40 := Aside0.mk HG40; clear gb40 gl40 HG40; (first | simp only [add_plain] at hx234_0 | skip); obtain ⟨hx40_0, hf40_0⟩ := Kd.R_celln 0 HO_5.out (t231 : Int) p40 q40; replace p40 := eq_true p40; replace q40 := eq_true q40; obtain ⟨hy51_, hz51_⟩ := Kd.R_celln 0 HO_5.out (t231 : Int) (of_decide_eq_true z31_) (of_decide_eq_true z31_); have HP51 := Kd.R_putg HO_5.out (t231 : Int) (wrap64 (Int.tdiv (rd x5_3 t231) t233))) | ((with_reducible refine gate_store (t := 3) (p := 79) rfl ?_); refine store_event (t := 3) (p := 79) (v := ?vo_w52) (w1 := (w50.setCell ⟨go40, (t231 : Int).toNat, none⟩ (.int .i64 (wrap64 (Int.tdiv (rd x5_3 t231) t233))))) ?hg ?ho ?hn ?hr ?_; (case ho => rfl); (case hg => rfl); (case hn => rfl); (case hr => first | (go_simp; done) | (go_simp; rfl)); intro w52 hw; have hg : w50.grownBy w52 (some go40) := (by rw [hw]; exact HP51.2); have hp_ : Kd.R (Kd.int .i64) 3 w52 w.heap.size (fun k_ => some k_ ≠ (v221 : Value).ownBlock) (.slice (some ⟨go40, 0, none⟩) x5_3.length co49) y235 := (by rw [hw, Ny235.out]; exact HP51.1); clear HP51; replace HO_5:= Aside0.mk (hp_); replace HO_6:= Aside0.mk (Kd.R_after (v := (.slice (some ⟨go40, 0, none⟩) x5_3.length co49)) (v1 := (.slice (some ⟨go40, 0, none⟩) x5_3.length co49)) (ok := (fun _ => True)) (by (with_reducible repeat (first | apply Kd.R_alloc | apply Kd.R_drewN | apply Kd.R_drew)); exact Kd.R_mono HO_6.out (fun _ hk => ⟨trivial, hk⟩)) hg (.inl rfl)); replace HB:= Aside0.mk ((by rw [hw]; exact below_set (HB.out) GB40.out : Below w.heap.size w w52)); clear hg hw hp_; have p236 : 0 ≤ (t232 : Int) := of_decide_eq_true z31_; have q236 : t232 < (y235.length : Int) := (by have h_ : (t232 : Int) < ((x5_3.length : Int) : Int) := of_decide_eq_true z31_; first | (have e_ := (Kd.R_reads' HO_5.out).1; omega) | simpa only [Ny235.out, List.length_set] using h_); have ql236 : ((t232 : Int) < ((x5_3.length : Int) : Int)) = True := eq_true (of_decide_eq_true z31_); obtain ⟨ad236, e236, hx236_0⟩ := Kd.at_int (Kd.R_reads' HO_5.out).2.2 t232 p236 q236; obtain rfl : (⟨go40, 0, none⟩ : Addr) = ad236 := (by injection e236); (first | simp only [add_plain] at hx236_0 | simp only [add_at] at hx236_0 | simp only [Addr.add, Nat.zero_add] at hx236_0 | skip); replace p236 := eq_true p236; replace q236 := eq_true q236; have p43 : 0 ≤ (t232 : Int) := of_decide_eq_true z31_; have q43 : (t232 : Int) < ((x5_3.length : Int) : Int) := of_decide_eq_true z31_; obtain ⟨hx43_0, hf43_0⟩ := Kd.R_celln 0 HO_5.out (t232 : Int) p43 q43; replace p43 := eq_true p43; replace q43 := eq_true q43; obtain ⟨hy53_, hz53_⟩ := Kd.R_celln 0 HO_5.out (t232 : Int) (of_decide_eq_true z31_) (of_decide_eq_true z31_); have HP53 := Kd.R_putg HO_5.out (t232 : Int) (wrap64 (Int.tdiv (rd y235 t232) t233))) | ((with_reducible refine gate_store (t := 3) (p := 86) rfl ?_); refine store_event (t := 3) (p := 86) (v := ?vo_w54) (w1 := (w52.setCell ⟨go40, (t232 : Int).toNat, none⟩ (.int .i64 (wrap64 (Int.tdiv (rd y235 t232) t233))))) ?hg ?ho ?hn ?hr ?_; (case ho => rfl); (case hg => rfl); (case hn => rfl); (case hr => first | (go_simp; done) | (go_simp; rfl)); intro w54 hw; have hg : w52.grownBy w54 (some go40) := (by rw [hw]; exact HP53.2); have hp_ : Kd.R (Kd.int .i64) 3 w54 w.heap.size (fun k_ => some k_ ≠ (v221 : Value).ownBlock) (.slice (some ⟨go40, 0, none⟩) x5_3.length co49) y237 := (by rw [hw, Ny237.out]; exact HP53.1); clear HP53; replace HO_5:= Aside0.mk (hp_); replace HO_6:= Aside0.mk (Kd.R_after (v := (.slice (some ⟨go40, 0, none⟩) x5_3.length co49)) (v1 := (.slice (some ⟨go40, 0, none⟩) x5_3.length co49)) (ok := (fun _ => True)) z28_ hg (.inl rfl)); replace HB:= Aside0.mk ((by rw [hw]; exact below_set (HB.out) GB40.out : Below w.heap.size w w54)); clear hg hw hp_; have p238 : 0 ≤ ((ji44) : Int) := of_decide_eq_true z31_; have q238 : (ji44) < (y237.length : Int) := (by have h_ : ((ji44) : Int) < ((x5_3.length : Int) : Int) := of_decide_eq_true z31_; first | (have e_ := (Kd.R_reads' HO_5.out).1; omega) | simpa only [Ny235.out, Ny237.out, List.length_set] using h_); have ql238 : (((ji44) : Int) < ((x5_3.length : Int) : Int)) = True := eq_true (of_decide_eq_true z31_); obtain ⟨ad238, e238, hx238_0⟩ := Kd.at_int (Kd.R_reads' HO_5.out).2.2 (ji44) p238 q238; obtain rfl : (⟨go40, 0, none⟩ : Addr) = ad238 := (by injection e238); (first | simp only [add_plain] at hx238_0 | simp only [add_at] at hx238_0 | simp only [Addr.add, Nat.zero_add] at hx238_0 | skip); replace p238 := eq_true p238; replace q238 := eq_true q238; have p239 : 0 ≤ ((ji44) : Int) := of_decide_eq_true z31_; have q239 : (ji44) < (y237.length : Int) := (by have h_ : ((ji44) : Int) < ((x5_3.length : Int) : Int) := of_decide_eq_true z31_; first | (have e_ := (Kd.R_reads' HO_5.out).1; omega) | simpa only [Ny235.out, Ny237.out, List.length_set] using h_); have ql239 : (((ji44) : Int) < ((x5_3.length : Int) : Int)) = True := eq_true (of_decide_eq_true z31_); obtain ⟨ad239, e239, hx239_0⟩ := Kd.at_int (Kd.R_reads' HO_5.out).2.2 (ji44) p239 q239; obtain rfl : (⟨go40, 0, none⟩ : Addr) = ad239 := (by injection e239); (first | simp only [add_plain] at hx239_0 | simp only [add_at] at hx239_0 | simp only [Addr.add, Nat.zero_add] at hx239_0 | skip); replace p239 := eq_true p239; replace q239 := eq_true q239; have p48 : 0 ≤ ((ji44) : Int) := of_decide_eq_true z31_; have q48 : ((ji44) : Int) < ((x5_3.length : Int) : Int) := of_decide_eq_true z31_; obtain ⟨hx48_0, hf48_0⟩ := Kd.R_celln 0 HO_5.out ((ji44) : Int) p48 q48; replace p48 := eq_true p48; replace q48 := eq_true q48; obtain ⟨hy55_, hz55_⟩ := Kd.R_celln 0 HO_5.out ((ji44) : Int) (of_decide_eq_true z31_) (of_decide_eq_true z31_); have HP55 := Kd.R_putg HO_5.out ((ji44) : Int) (wrap64 (Int.tdiv (rd y237 (ji44)) t233))) | ((with_reducible refine gate_store (t := 3) (p := 100) rfl ?_); refine store_event (t := 3) (p := 100) (v := ?vo_w56) (w1 := (w54.setCell ⟨go40, ((ji44) : Int).toNat, none⟩ (.int .i64 (wrap64 (Int.tdiv (rd y237 (ji44)) t233))))) ?hg ?ho ?hn ?hr ?_; (case ho => rfl); (case hg => rfl); (case hn => rfl); (case hr => first | (go_simp; done) | (go_simp; rfl)); intro w56 hw; have hg : w54.grownBy w56 (some go40) := (by rw [hw]; exact HP55.2); have hp_ : Kd.R (Kd.int .i64) 3 w56 w.heap.size (fun k_ => some k_ ≠ (v221 : Value).ownBlock) (.slice (some ⟨go40, 0, none⟩) x5_3.length co49) y240 := (by rw [hw, Ny240.out]; exact HP55.1); clear HP55; replace HO_5:= Aside0.mk (hp_); replace HO_6:= Aside0.mk (Kd.R_after (v := (.slice (some ⟨go40, 0, none⟩) x5_3.length co49)) (v1 := (.slice (some ⟨go40, 0, none⟩) x5_3.length co49)) (ok := (fun _ => True)) z28_ hg (.inl rfl)); replace HB:= Aside0.mk ((by rw [hw]; exact below_set (HB.out) GB40.out : Below w.heap.size w w56)); clear hg hw hp_))
         go_roundg k3
         case measure => have := HJ1.out; have := HK2.out; have := HK3.out; omega
         case rel => exact ⟨(y240), (x6_3), H', ⟨by have := HJ1.out; have := HK2.out; have := HK3.out; omega⟩, ⟨z23_⟩, ⟨by (with_reducible repeat (first | apply Kd.R_alloc | apply Kd.R_drewN | apply Kd.R_drew)); exact Kd.R_mono HO_6.out (fun _ hk => hk.2)⟩, ⟨z16_⟩⟩
       rw [if_neg c47] at H
       have c47b0 := beq_eq_false_iff_ne.mpr c47
       have c47b1 := bne_iff_ne.mpr c47
       generalize h_ : (y237.set ((ji44) : Int).toNat (wrap64 ((rd y237 (ji44)) * t233))) = y242 at H
       have Ny242 := Aside0.mk h_.symm
       clear h_
       obtain ⟨c58, H⟩ := in_ H
       have c58b0 := decide_eq_true c58
       clear c58
       generalize h_ : (x6_3.set ((ji44) : Int).toNat (wrap64 ((rd x6_3 (ji44)) * t233))) = y244 at H
       have Ny244 := Aside0.mk h_.symm
       clear h_
       have H' := Aside0.mk H
       clear H
       obtain ⟨Ao60, co60, eo60⟩ := Kd.R_slice HO_5.out
       subst eo60
       go_wp2_with (first | ((with_reducible refine gate_callee (f := 72) rfl ?_); refine goesL_ (some 61) rfl rfl Try.func72 (by kernel_rfl) rfl #[.slice Ao60 x5_3.length co60] rfl z14_ ?_; (with_reducible refine (impl_sharedPrime.calls k3 _ _ x5_3 t231 t232 t233 _ ?side1 ?side2 A34.out).mono ?_); (case side1 => repeat (first | exact (Kd.R_reads' HO_5.out).2.2 | (with_reducible refine Kd.C_alloc ?_ _) | (with_reducible refine Kd.C_drewN ?_ _) | (with_reducible refine Kd.C_drew ?_))); (case side2 => exact (Kd.R_reads' HO_5.out).2.1); rintro e w61 ⟨rfl, hb⟩; refine ⟨_, rfl, ?_⟩; replace HO_5:= Aside0.mk (Kd.R_below z23_ hb); replace HO_6:= Aside0.mk (Kd.R_below z28_ hb); replace HB:= Aside0.mk (below_step z16_ hb); clear hb; have p234 : 0 ≤ (t231 : Int) := of_decide_eq_true z31_; have q234 : t231 < (x5_3.length : Int) := of_decide_eq_true z31_; obtain ⟨ad234, e234, hx234_0⟩ := Kd.at_int (Kd.R_reads' HO_5.out).2.2 t231 p234 q234; cases e234; replace p234 := eq_true p234; replace q234 := eq_true q234; have p40 : 0 ≤ (t231 : Int) := of_decide_eq_true z31_; have q40 : (t231 : Int) < ((x5_3.length : Int) : Int) := of_decide_eq_true z31_; obtain ⟨go40, co40, eo40, gb40, gl40, cl40, HG40⟩ := Kd.R_form HO_5.out (by omega); (first | cases eo40 | (injection eo40 with ea_ en_ ec_; (first | subst ea_ | (injection ea_ with ea_; subst ea_)); subst ec_; clear en_)); have GB40 := Aside0.mk gb40; have GG40 := Aside0.mk HG40; clear gb40 gl40 HG40; (first | simp only [add_plain] at hx234_0 | skip); obtain ⟨hx40_0, hf40_0⟩ := Kd.R_celln 0 HO_5.out (t231 : Int) p40 q40; replace p40 := eq_true p40; replace q40 := eq_true q40; obtain ⟨hy62_, hz62_⟩ := Kd.R_celln 0 HO_5.out (t231 : Int) (of_decide_eq_true z31_) (of_decide_eq_true z31_); have HP62 := Kd.R_putg HO_5.out (t231 : Int) (wrap64 (Int.tdiv (rd x5_3 t231) t233))) | ((with_reducible refine gate_store (t := 3) (p := 79) rfl ?_); refine store_event (t := 3) (p := 79) (v := ?vo_w63) (w1 := (w61.setCell ⟨go40, (t231 : Int).toNat, none⟩ (.int .i64 (wrap64 (Int.tdiv (rd x5_3 t231) t233))))) ?hg ?ho ?hn ?hr ?_; (case ho => rfl); (case hg => rfl); (case hn => rfl); (case hr => first | (go_simp; done) | (go_simp; rfl)); intro w63 hw; have hg : w61.grownBy w63 (some go40) := (by rw [hw]; exact HP62.2); have hp_ : Kd.R (Kd.int .i64) 3 w63 w.heap.size (fun k_ => some k_ ≠ (v221 : Value).ownBlock) (.slice (some ⟨go40, 0, none⟩) x5_3.length co60) y235 := (by rw [hw, Ny235.out]; exact HP62.1); clear HP62; replace HO_5:= Aside0.mk (hp_); replace HO_6:= Aside0.mk (Kd.R_after (v := (.slice (some ⟨go40, 0, none⟩) x5_3.length co60)) (v1 := (.slice (some ⟨go40, 0, none⟩) x5_3.length co60)) (ok := (fun _ => True)) (by (with_reducible repeat (first | apply Kd.R_alloc | apply Kd.R_drewN | apply Kd.R_drew)); exact Kd.R_mono HO_6.out (fun _ hk => ⟨trivial, hk⟩)) hg (.inl rfl)); replace HB:= Aside0.mk ((by rw [hw]; exact below_set (HB.out) GB40.out : Below w.heap.size w w63)); clear hg hw hp_; have p236 : 0 ≤ (t232 : Int) := of_decide_eq_true z31_; have q236 : t232 < (y235.length : Int) := (by have h_ : (t232 : Int) < ((x5_3.length : Int) : Int) := of_decide_eq_true z31_; first | (have e_ := (Kd.R_reads' HO_5.out).1; omega) | simpa only [Ny235.out, List.length_set] using h_); have ql236 : ((t232 : Int) < ((x5_3.length : Int) : Int)) = True := eq_true (of_decide_eq_true z31_); obtain ⟨ad236, e236, hx236_0⟩ := Kd.at_int (Kd.R_reads' HO_5.out).2.2 t232 p236 q236; obtain rfl : (⟨go40, 0, none⟩ : Addr) = ad236 := (by injection e236); (first | simp only [add_plain] at hx236_0 | simp only [add_at] at hx236_0 | simp only [Addr.add, Nat.zero_add] at hx236_0 | skip); replace p236 := eq_true p236; replace q236 := eq_true q236; have p43 : 0 ≤ (t232 : Int) := of_decide_eq_true z31_; have q43 : (t232 : Int) < ((x5_3.length : Int) : Int) := of_decide_eq_true z31_; obtain ⟨hx43_0, hf43_0⟩ := Kd.R_celln 0 HO_5.out (t232 : Int) p43 q43; replace p43 := eq_true p43; replace q43 := eq_true q43; obtain ⟨hy64_, hz64_⟩ := Kd.R_celln 0 HO_5.out (t232 : Int) (of_decide_eq_true z31_) (of_decide_eq_true z31_); have HP64 := Kd.R_putg HO_5.out (t232 : Int) (wrap64 (Int.tdiv (rd y235 t232) t233))) | ((with_reducible refine gate_store (t := 3) (p := 86) rfl ?_); refine store_event (t := 3) (p := 86) (v := ?vo_w65) (w1 := (w63.setCell ⟨go40, (t232 : Int).toNat, none⟩ (.int .i64 (wrap64 (Int.tdiv (rd y235 t232) t233))))) ?hg ?ho ?hn ?hr ?_; (case ho => rfl); (case hg => rfl); (case hn => rfl); (case hr => first | (go_simp; done) | (go_simp; rfl)); intro w65 hw; have hg : w63.grownBy w65 (some go40) := (by rw [hw]; exact HP64.2); have hp_ : Kd.R (Kd.int .i64) 3 w65 w.heap.size (fun k_ => some k_ ≠ (v221 : Value).ownBlock) (.slice (some ⟨go40, 0, none⟩) x5_3.length co60) y237 := (by rw [hw, Ny237.out]; exact HP64.1); clear HP64; replace HO_5:= Aside0.mk (hp_); replace HO_6:= Aside0.mk (Kd.R_after (v := (.slice (some ⟨go40, 0, none⟩) x5_3.length co60)) (v1 := (.slice (some ⟨go40, 0, none⟩) x5_3.length co60)) (ok := (fun _ => True)) z28_ hg (.inl rfl)); replace HB:= Aside0.mk ((by rw [hw]; exact below_set (HB.out) GB40.out : Below w.heap.size w w65)); clear hg hw hp_; have p238 : 0 ≤ ((ji44) : Int) := of_decide_eq_true z31_; have q238 : (ji44) < (y237.length : Int) := (by have h_ : ((ji44) : Int) < ((x5_3.length : Int) : Int) := of_decide_eq_true z31_; first | (have e_ := (Kd.R_reads' HO_5.out).1; omega) | simpa only [Ny235.out, Ny237.out, List.length_set] using h_); have ql238 : (((ji44) : Int) < ((x5_3.length : Int) : Int)) = True := eq_true (of_decide_eq_true z31_); obtain ⟨ad238, e238, hx238_0⟩ := Kd.at_int (Kd.R_reads' HO_5.out).2.2 (ji44) p238 q238; obtain rfl : (⟨go40, 0, none⟩ : Addr) = ad238 := (by injection e238); (first | simp only [add_plain] at hx238_0 | simp only [add_at] at hx238_0 | simp only [Addr.add, Nat.zero_add] at hx238_0 | skip); replace p238 := eq_true p238; replace q238 := eq_true q238; have p241 : 0 ≤ ((ji44) : Int) := of_decide_eq_true z31_; have q241 : (ji44) < (y237.length : Int) := (by have h_ : ((ji44) : Int) < ((x5_3.length : Int) : Int) := of_decide_eq_true z31_; first | (have e_ := (Kd.R_reads' HO_5.out).1; omega) | simpa only [Ny235.out, Ny237.out, List.length_set] using h_); have ql241 : (((ji44) : Int) < ((x5_3.length : Int) : Int)) = True := eq_true (of_decide_eq_true z31_); obtain ⟨ad241, e241, hx241_0⟩ := Kd.at_int (Kd.R_reads' HO_5.out).2.2 (ji44) p241 q241; obtain rfl : (⟨go40, 0, none⟩ : Addr) = ad241 := (by injection e241); (first | simp only [add_plain] at hx241_0 | simp only [add_at] at hx241_0 | simp only [Addr.add, Nat.zero_add] at hx241_0 | skip); replace p241 := eq_true p241; replace q241 := eq_true q241; have p57 : 0 ≤ ((ji44) : Int) := of_decide_eq_true z31_; have q57 : ((ji44) : Int) < ((x5_3.length : Int) : Int) := of_decide_eq_true z31_; obtain ⟨hx57_0, hf57_0⟩ := Kd.R_celln 0 HO_5.out ((ji44) : Int) p57 q57; replace p57 := eq_true p57; replace q57 := eq_true q57; obtain ⟨hy66_, hz66_⟩ := Kd.R_celln 0 HO_5.out ((ji44) : Int) (of_decide_eq_true z31_) (of_decide_eq_true z31_); have HP66 := Kd.R_putg HO_5.out ((ji44) : Int) (wrap64 ((rd y237 (ji44)) * t233))) | ((with_reducible refine gate_store (t := 3) (p := 107) rfl ?_); refine store_event (t := 3) (p := 107) (v := ?vo_w67) (w1 := (w65.setCell ⟨go40, ((ji44) : Int).toNat, none⟩ (.int .i64 (wrap64 ((rd y237 (ji44)) * t233))))) ?hg ?ho ?hn ?hr ?_; (case ho => rfl); (case hg => rfl); (case hn => rfl); (case hr => first | (go_simp; done) | (go_simp; rfl)); intro w67 hw; have hg : w65.grownBy w67 (some go40) := (by rw [hw]; exact HP66.2); have hp_ : Kd.R (Kd.int .i64) 3 w67 w.heap.size (fun k_ => some k_ ≠ (v221 : Value).ownBlock) (.slice (some ⟨go40, 0, none⟩) x5_3.length co60) y242 := (by rw [hw, Ny242.out]; exact HP66.1); clear HP66; replace HO_5:= Aside0.mk (hp_); replace HO_6:= Aside0.mk (Kd.R_after (v := (.slice (some ⟨go40, 0, none⟩) x5_3.length co60)) (v1 := (.slice (some ⟨go40, 0, none⟩) x5_3.length co60)) (ok := (fun _ => True)) z28_ hg (.inl rfl)); replace HB:= Aside0.mk ((by rw [hw]; exact below_set (HB.out) GB40.out : Below w.heap.size w w67)); clear hg hw hp_; obtain ⟨Ao68, co68, eo68⟩ := Kd.R_slice HO_6.out; subst eo68; have p243 : 0 ≤ ((ji44) : Int) := of_decide_eq_true z31_; have q243 : (ji44) < (x6_3.length : Int) := of_decide_eq_true z31_; obtain ⟨ad243, e243, hx243_0⟩ := Kd.at_int (Kd.R_reads' HO_6.out).2.2 (ji44) p243 q243; cases e243; replace p243 := eq_true p243; replace q243 := eq_true q243; have p59 : 0 ≤ ((ji44) : Int) := of_decide_eq_true z31_; have q59 : ((ji44) : Int) < ((x6_3.length : Int) : Int) := of_decide_eq_true z31_; obtain ⟨go59, co59, eo59, gb59, gl59, cl59, HG59⟩ := Kd.R_form HO_6.out (by omega); (first | cases eo59 | (injection eo59 with ea_ en_ ec_; (first | subst ea_ | (injection ea_ with ea_; subst ea_)); subst ec_; clear en_)); have GB59 := Aside0.mk gb59; have GG59 := Aside0.mk HG59; clear gb59 gl59 HG59; (first | simp only [add_plain] at hx243_0 | skip); obtain ⟨hx59_0, hf59_0⟩ := Kd.R_celln 0 HO_6.out ((ji44) : Int) p59 q59; replace p59 := eq_true p59; replace q59 := eq_true q59; have n_ := Aside0.mk (Kd.R_mono (ok' := (fun k_ => some k_ ≠ (.slice (some ⟨go40, 0, none⟩) x5_3.length co60 : Value).ownBlock)) HO_6.out (fun k_ hk => hk.2)); clear HO_6; have HO_6 := n_; clear n_; obtain ⟨hy69_, hz69_⟩ := Kd.R_celln 0 HO_6.out ((ji44) : Int) (of_decide_eq_true z31_) (of_decide_eq_true z31_); have HP69 := Kd.R_putg HO_6.out ((ji44) : Int) (wrap64 ((rd x6_3 (ji44)) * t233))) | ((with_reducible refine gate_store (t := 3) (p := 114) rfl ?_); refine store_event (t := 3) (p := 114) (v := ?vo_w70) (w1 := (w67.setCell ⟨go59, ((ji44) : Int).toNat, none⟩ (.int .i64 (wrap64 ((rd x6_3 (ji44)) * t233))))) ?hg ?ho ?hn ?hr ?_; (case ho => rfl); (case hg => rfl); (case hn => rfl); (case hr => first | (go_simp; done) | (go_simp; rfl)); intro w70 hw; have hg : w67.grownBy w70 (some go59) := (by rw [hw]; exact HP69.2); have hp_ : Kd.R (Kd.int .i64) 3 w70 w.heap.size (fun k_ => some k_ ≠ (.slice (some ⟨go40, 0, none⟩) x5_3.length co60 : Value).ownBlock) (.slice (some ⟨go59, 0, none⟩) x6_3.length co68) y244 := (by rw [hw, Ny244.out]; exact HP69.1); clear HP69; replace HO_5:= Aside0.mk (Kd.R_after (v := (.slice (some ⟨go59, 0, none⟩) x6_3.length co68)) (v1 := (.slice (some ⟨go59, 0, none⟩) x6_3.length co68)) (ok := (fun _ => True)) z12_ hg (.inl rfl)); replace HO_6:= Aside0.mk (hp_); replace HB:= Aside0.mk ((by rw [hw]; exact below_set (HB.out) GB59.out : Below w.heap.size w w70)); clear hg hw hp_))
       go_roundg k3
       case measure => have := HJ1.out; have := HK2.out; have := HK3.out; omega
       case rel => exact ⟨(y242), (y244), H', ⟨by have := HJ1.out; have := HK2.out; have := HK3.out; omega⟩, ⟨z17_⟩, ⟨z28_⟩, ⟨z16_⟩⟩

/-! ### spec_l1Core: function 113 -/
mutual
def spec_l1Core.l0 : Nat → Int → Int → Int → Option (Int × Int)
 | 0, _, _, _ => none
 | k + 1, x0, x4, x5 => (spec_l1Size.f x0).bind fun t245 => (if (wrap64 (x5 * x5)) ≤ t245 then (spec_l1Core.l1 k x0 x4 x5) else (some (x0, x4)))
def spec_l1Core.l1 : Nat → Int → Int → Int → Option (Int × Int)
 | 0, _, _, _ => none
 | k + 1, x0, x4, x5 => if (wrap64 (x5 * x5)) = 0 then (none) else (if (Int.tmod x0 (wrap64 (x5 * x5))) = 0 then (spec_l1Core.l1 k (wrap64 (Int.tdiv x0 (wrap64 (x5 * x5)))) (wrap64 (x4 * x5)) x5) else (spec_l1Core.l0 k x0 x4 (wrap64 (x5 + 1))))
end
def spec_l1Core.f (k : Nat) (a0 : Int) : Option (Int × Int) := spec_l1Core.l0 k a0 1 2
theorem spec_l1Core.mono_l : ∀ k, (∀ y0 y1 y2, LeO (spec_l1Core.l0 k y0 y1 y2) (spec_l1Core.l0 (k + 1) y0 y1 y2)) ∧ (∀ y0 y1 y2, LeO (spec_l1Core.l1 k y0 y1 y2) (spec_l1Core.l1 (k + 1) y0 y1 y2))
 | 0 => ⟨fun _ _ _ r h => by simp [spec_l1Core.l0] at h, fun _ _ _ r h => by simp [spec_l1Core.l1] at h⟩
 | k + 1 => by
  obtain ⟨ih0, ih1⟩ := spec_l1Core.mono_l k
  refine ⟨?_, ?_⟩
  · intro y0 y1 y2
    unfold spec_l1Core.l0
    exact mo_
  intro y0 y1 y2
  unfold spec_l1Core.l1
  exact mo_
theorem spec_l1Core.mono : ∀ a0 k, LeO (spec_l1Core.f k a0) (spec_l1Core.f (k + 1) a0) := by
 intro a0 k
 obtain ⟨ih0, ih1⟩ := spec_l1Core.mono_l k
 unfold spec_l1Core.f
 exact mo_
theorem spec_l1Core.calls (k : Nat) (a0 : Int) (r1 : Int) (r2 : Int) (w : World) (h : spec_l1Core.f k a0 = some (r1, r2)) :
 Calls Try.prog 113 #[.int .i64 a0] w fun e w' => e = .returned (.tuple #[.int .i64 r1, .int .i64 r2]) ∧ Below w.heap.size w w' := by
 have HB := Aside0.mk (Below.refl w.heap.size w)
 have H := h
 clear h
 unfold spec_l1Core.f at H
 have H' := Aside0.mk H
 clear H
 go_enter Try.func113, Try.ntmps113
 go_wp2
 go_loopg [0, 4, 5] k (fun kq v0 v4 v5 w' => ∃ (x0_1 : Int) (x4_1 : Int) (x5_1 : Int), v0 = .int .i64 x0_1 ∧ v4 = .int .i64 x4_1 ∧ v5 = .int .i64 x5_1 ∧ Aside0 (spec_l1Core.l0 kq x0_1 x4_1 x5_1 = some (r1, r2)) ∧ Aside0 (kq ≤ k) ∧ Aside0 (Below w.heap.size w w'))
 case atStart => exact ⟨(a0), (1), (2), z32_, z32_, z32_, H', ⟨Nat.le_refl _⟩, ⟨z16_⟩⟩
 case round =>
  clear H'
  obtain ⟨x0_1, x4_1, x5_1, rfl, rfl, rfl, HA, HK1, HB⟩ := hrel
  cases gk with
  | zero => exact absurd HA.out (by simp [spec_l1Core.l0])
  | succ k1 =>
   have H := HA.out
   clear HA
   simp only [spec_l1Core.l0] at H
   obtain ⟨t245, A2, H⟩ := bi_ H
   by_cases c3 : (wrap64 (x5_1 * x5_1)) ≤ t245
   rotate_left
   · rw [if_neg c3] at H
     have c3b0 := decide_eq_false c3
     clear c3
     simp only [Option.some.injEq, Prod.mk.injEq] at H
     obtain ⟨rfl, rfl⟩ := H
     go_wp2_with (first | ((with_reducible refine gate_callee (f := 104) rfl ?_); refine goesL_ (some 10) rfl rfl Try.func104 (by kernel_rfl) rfl #[.int .i64 x0_1] rfl z14_ ?_; (with_reducible refine (spec_l1Size.calls x0_1 t245 _ A2.out).mono ?_); rintro e w7 ⟨rfl, hb⟩; refine ⟨_, rfl, ?_⟩; replace HB:= Aside0.mk (below_step z16_ hb); clear hb))
     go_ret2
     exact ⟨z29_, z16_⟩
   rw [if_pos c3] at H
   have c3b0 := decide_eq_true c3
   clear c3
   have H' := Aside0.mk H
   clear H
   go_wp2_with (first | ((with_reducible refine gate_callee (f := 104) rfl ?_); refine goesL_ (some 10) rfl rfl Try.func104 (by kernel_rfl) rfl #[.int .i64 x0_1] rfl z14_ ?_; (with_reducible refine (spec_l1Size.calls x0_1 t245 _ A2.out).mono ?_); rintro e w4 ⟨rfl, hb⟩; refine ⟨_, rfl, ?_⟩; replace HB:= Aside0.mk (below_step z16_ hb); clear hb))
   go_loopg [0, 4] k1 (fun kq v0 v4 w' => ∃ (x0_2 : Int) (x4_2 : Int), v0 = .int .i64 x0_2 ∧ v4 = .int .i64 x4_2 ∧ Aside0 (spec_l1Core.l1 kq x0_2 x4_2 x5_1 = some (r1, r2)) ∧ Aside0 (kq ≤ k1) ∧ Aside0 (Below w.heap.size w w'))
   case atStart => exact ⟨(x0_1), (x4_1), z32_, z32_, H', ⟨Nat.le_refl _⟩, ⟨z16_⟩⟩
   case round =>
    clear H'
    clear c3b0
    obtain ⟨x0_2, x4_2, rfl, rfl, HA, HK2, HB⟩ := hrel
    cases gk with
    | zero => exact absurd HA.out (by simp [spec_l1Core.l1])
    | succ k2 =>
     have H := HA.out
     clear HA
     simp only [spec_l1Core.l1] at H
     obtain ⟨c5, H⟩ := jn_ H
     have c5b0 := beq_eq_false_iff_ne.mpr c5
     have c5b1 := bne_iff_ne.mpr c5
     by_cases c6 : (Int.tmod x0_2 (wrap64 (x5_1 * x5_1))) = 0
     · rw [if_pos c6] at H
       have c6b0 := beq_iff_eq.mpr c6
       have c6b1 := bne_eq_false_iff_eq.mpr c6
       clear c6
       have H' := Aside0.mk H
       clear H
       go_wp2
       go_roundg k2
       case measure => have := HK1.out; have := HK2.out; omega
       case rel => exact ⟨(wrap64 (Int.tdiv x0_2 (wrap64 (x5_1 * x5_1)))), (wrap64 (x4_2 * x5_1)), z32_, z32_, H', ⟨by have := HK1.out; have := HK2.out; omega⟩, ⟨z16_⟩⟩
     rw [if_neg c6] at H
     have c6b0 := beq_eq_false_iff_ne.mpr c6
     have c6b1 := bne_iff_ne.mpr c6
     have H' := Aside0.mk H
     clear H
     go_wp2
     go_roundg k2
     case measure => have := HK1.out; have := HK2.out; omega
     case rel => exact ⟨(x0_2), (x4_2), (wrap64 (x5_1 + 1)), z32_, z32_, z32_, H', ⟨by have := HK1.out; have := HK2.out; omega⟩, ⟨z16_⟩⟩

/-! ### spec_l1Primes: function 114 -/
mutual
def spec_l1Primes.l0 : Nat → Int → List Int → Int → Option (List Int)
 | 0, _, _, _ => none
 | k + 1, x0, x3, x4 => if (wrap64 (x4 * x4)) ≤ x0 then (if x4 = 0 then (none) else (if (Int.tmod x0 x4) = 0 then (if x3.length < 17592186044416 then (spec_l1Primes.j1 k x0 (x3 ++ [x4]) x4) else (none)) else (spec_l1Primes.j1 k x0 x3 x4))) else (if x0 > 1 then (if x3.length < 17592186044416 then (some (x3 ++ [x0])) else (none)) else (some x3))
def spec_l1Primes.j1 : Nat → Int → List Int → Int → Option (List Int)
 | 0, _, _, _ => none
 | k + 1, x0, x3, x4 => spec_l1Primes.l1 k x0 x3 x4
def spec_l1Primes.l1 : Nat → Int → List Int → Int → Option (List Int)
 | 0, _, _, _ => none
 | k + 1, x0, x3, x4 => if x4 = 0 then (none) else (if (Int.tmod x0 x4) = 0 then (spec_l1Primes.l1 k (wrap64 (Int.tdiv x0 x4)) x3 x4) else (spec_l1Primes.l0 k x0 x3 (wrap64 (x4 + 1))))
end
def spec_l1Primes.f (k : Nat) (a0 : Int) : Option (List Int) := (spec_l1Size.f a0).bind fun t249 => (spec_l1Primes.l0 k t249 (([] : List Int)) 2)
theorem spec_l1Primes.mono_l : ∀ k, (∀ y0 y1 y2, LeO (spec_l1Primes.l0 k y0 y1 y2) (spec_l1Primes.l0 (k + 1) y0 y1 y2)) ∧ (∀ y0 y1 y2, LeO (spec_l1Primes.j1 k y0 y1 y2) (spec_l1Primes.j1 (k + 1) y0 y1 y2)) ∧ (∀ y0 y1 y2, LeO (spec_l1Primes.l1 k y0 y1 y2) (spec_l1Primes.l1 (k + 1) y0 y1 y2))
 | 0 => ⟨fun _ _ _ r h => by simp [spec_l1Primes.l0] at h, fun _ _ _ r h => by simp [spec_l1Primes.j1] at h, fun _ _ _ r h => by simp [spec_l1Primes.l1] at h⟩
 | k + 1 => by
  obtain ⟨ih0, ih1, ih2⟩ := spec_l1Primes.mono_l k
  refine ⟨?_, ?_, ?_⟩
  · intro y0 y1 y2
    unfold spec_l1Primes.l0
    exact mo_
  · intro y0 y1 y2
    unfold spec_l1Primes.j1
    exact mo_
  intro y0 y1 y2
  unfold spec_l1Primes.l1
  exact mo_
theorem spec_l1Primes.mono : ∀ a0 k, LeO (spec_l1Primes.f k a0) (spec_l1Primes.f (k + 1) a0) := by
 intro a0 k
 obtain ⟨ih0, ih1, ih2⟩ := spec_l1Primes.mono_l k
 unfold spec_l1Primes.f
 exact mo_
theorem spec_l1Primes.calls (k : Nat) (a0 : Int) (r : List Int) (w : World) (h : spec_l1Primes.f k a0 = some r) :
 Calls Try.prog 114 #[.int .i64 a0] w fun e w' => ∃ v0_ : Value, e = .returned (v0_) ∧ Kd.R (Kd.int .i64) 3 w' w.heap.size (fun _ => True) v0_ r ∧ Below w.heap.size w w' := by
 have HB := Aside0.mk (Below.refl w.heap.size w)
 have H := h
 clear h
 unfold spec_l1Primes.f at H
 generalize h_ : (([] : List Int)) = y246 at H
 have Ny246 := Aside0.mk h_.symm
 clear h_
 obtain ⟨t249, A2, H⟩ := bi_ H
 have H' := Aside0.mk H
 clear H
 go_enter Try.func114, Try.ntmps114
 go_wp2_with (first | ((with_reducible refine gate_dst (N := 5) rfl ?_); refine Kd.R_lit (Kd.int .i64) _ 3 ?hg (N := 5) ?hd (xs := ([] : List Int)) (inner := []) (ok := fun _ => True) (okp := fun _ => True) ?hr ?hp (fun _ hk => hk) trivial (Below.refl _ _) (Nat.le_refl _) (by simp) ?_; (case hd => rfl); (case hg => rfl); (case hr => first | (go_simp; done) | (go_simp; rfl)); (case hp => exact (Reps.none _ _)); intro v247 w3 ho4 hb hg_ hnew_; clear hg_ hnew_; (first | rw [← Ny246.out] at ho4 | (simp only [Int.reduceToNat] at ho4; rw [← Ny246.out] at ho4)); have HO248:= Aside0.mk (Kd.R_lower ho4 (below_size z16_)); replace HB:= Aside0.mk (below_step z16_ hb); clear hb ho4) | ((with_reducible refine gate_callee (f := 104) rfl ?_); refine goesL_ (some 7) rfl rfl Try.func104 (by kernel_rfl) rfl #[.int .i64 a0] rfl z14_ ?_; (with_reducible refine (spec_l1Size.calls a0 t249 _ A2.out).mono ?_); rintro e w5 ⟨rfl, hb⟩; refine ⟨_, rfl, ?_⟩; replace HO248:= Aside0.mk (Kd.R_below (by (with_reducible repeat (first | apply Kd.R_alloc | apply Kd.R_drewN | apply Kd.R_drew)); exact HO248.out) hb); replace HB:= Aside0.mk (below_step z16_ hb); clear hb))
 go_loopg [0, 3, 4] k (fun kq v0 v3 v4 w' => ∃ (x0_1 : Int) (x3_1 : List Int) (x4_1 : Int), v0 = .int .i64 x0_1 ∧ v4 = .int .i64 x4_1 ∧ Aside0 (spec_l1Primes.l0 kq x0_1 x3_1 x4_1 = some r) ∧ Aside0 (kq ≤ k) ∧ Aside0 (Kd.R (Kd.int .i64) 3 w' w.heap.size (fun _ => True) v3 x3_1) ∧ Aside0 (Below w.heap.size w w'))
 case atStart => exact ⟨(t249), (y246), (2), z32_, z32_, H', ⟨Nat.le_refl _⟩, ⟨by (with_reducible repeat (first | apply Kd.R_alloc | apply Kd.R_drewN | apply Kd.R_drew)); exact HO248.out⟩, ⟨z16_⟩⟩
 case round =>
  clear H'
  obtain ⟨x0_1, x3_1, x4_1, rfl, rfl, HA, HK1, HO_3, HB⟩ := hrel
  cases gk with
  | zero => exact absurd HA.out (by simp [spec_l1Primes.l0])
  | succ k1 =>
   have H := HA.out
   clear HA
   simp only [spec_l1Primes.l0] at H
   by_cases c6 : (wrap64 (x4_1 * x4_1)) ≤ x0_1
   rotate_left
   · rw [if_neg c6] at H
     have c6b0 := decide_eq_false c6
     clear c6
     by_cases c14 : x0_1 > 1
     rotate_left
     · rw [if_neg c14] at H
       have c14b0 := decide_eq_false c14
       clear c14
       obtain rfl := Option.some.inj H
       go_wp2
       go_ret
       exact ⟨_, z29_, z24_, z16_⟩
     rw [if_pos c14] at H
     have c14b0 := decide_eq_true c14
     clear c14
     obtain ⟨c15, H⟩ := in_ H
     have LMc15 := Aside0.mk c15
     clear c15
     generalize h_ : (x3_1 ++ [x0_1]) = y250 at H
     have Ny250 := Aside0.mk h_.symm
     clear h_
     obtain rfl := Option.some.inj H
     go_wp2_with (first | ((with_reducible refine gate_builtin (b := .append) (xs := #[.tmp 32, .tmp 34]) rfl ?_); at_builtin; refine Kd.R_append (Kd.int .i64) (w0 := w) w.heap.size rfl (.tmp 32) (.tmp 34) 23 3 (.int .i64 0) 8 rfl Try.underlying23 info3 rfl (by decide) (by omega) u3 x3_1 x0_1 [.int .i64 x0_1] (fun _ => True) (fun _ => False) rfl rfl ?aP (fun _ hk => hk.elim) ?aF ?aO ?aB ?aS ?aL ?_; (case aP => exact rfl); (case aB => exact z16_); (case aF => exact (fun _ _ => trivial)); (case aO => exact z24_); (case aS => exact (below_size z16_)); (case aL => have := LMc15.out; omega); intro v251 w16 ho hb hg hat; rw [← Ny250.out] at ho; replace HB:= Aside0.mk (hb); have HO252:= Aside0.mk (ho); clear HO_3; clear ho hb hg hat))
     go_ret
     exact ⟨_, z29_, by (with_reducible repeat (first | apply Kd.R_alloc | apply Kd.R_drewN | apply Kd.R_drew)); exact HO252.out, z16_⟩
   rw [if_pos c6] at H
   have c6b0 := decide_eq_true c6
   clear c6
   obtain ⟨c7, H⟩ := jn_ H
   have c7b0 := beq_eq_false_iff_ne.mpr c7
   have c7b1 := bne_iff_ne.mpr c7
   have HC8 := Aside0.mk H
   clear H
   go_upto_if 18 with (fail)
   go_cut [3] (fun v3 wc => ∃ (kq : Nat) (x3_7 : List Int), Aside0 (spec_l1Primes.j1 kq x0_1 x3_7 x4_1 = some r) ∧ Aside0 (kq ≤ k1) ∧ Aside0 (Kd.R (Kd.int .i64) 3 wc w.heap.size (fun _ => True) v3 x3_7) ∧ Aside0 (Below w.heap.size w wc))
   case first =>
    have H := HC8.out
    clear HC8
    by_cases c9 : (Int.tmod x0_1 x4_1) = 0
    rotate_left
    · rw [if_neg c9] at H
      have c9b0 := beq_eq_false_iff_ne.mpr c9
      have c9b1 := bne_iff_ne.mpr c9
      (first | rw [c9b0] | (simp only [i64_w, i32_w]; rw [c9b0]) | skip)
      have H' := Aside0.mk H
      clear H
      go_wp2
      go_meet
      case rel => exact ⟨_, (x3_1), H', ⟨by have := HK1.out; first | omega | exact Nat.le_refl _⟩, ⟨z24_⟩, ⟨z16_⟩⟩
    rw [if_pos c9] at H
    have c9b0 := beq_iff_eq.mpr c9
    have c9b1 := bne_eq_false_iff_eq.mpr c9
    clear c9
    (first | rw [c9b0] | (simp only [i64_w, i32_w]; rw [c9b0]) | skip)
    obtain ⟨c10, H⟩ := in_ H
    have LMc10 := Aside0.mk c10
    clear c10
    generalize h_ : (x3_1 ++ [x4_1]) = y253 at H
    have Ny253 := Aside0.mk h_.symm
    clear h_
    have H' := Aside0.mk H
    clear H
    go_wp2_with (first | ((with_reducible refine gate_builtin (b := .append) (xs := #[.tmp 19, .tmp 21]) rfl ?_); at_builtin; refine Kd.R_append (Kd.int .i64) (w0 := w) w.heap.size rfl (.tmp 19) (.tmp 21) 23 3 (.int .i64 0) 8 rfl Try.underlying23 info3 rfl (by decide) (by omega) u3 x3_1 x4_1 [.int .i64 x4_1] (fun _ => True) (fun _ => False) rfl rfl ?aP (fun _ hk => hk.elim) ?aF ?aO ?aB ?aS ?aL ?_; (case aP => exact rfl); (case aB => exact z16_); (case aF => exact (fun _ _ => trivial)); (case aO => exact z24_); (case aS => exact (below_size z16_)); (case aL => have := LMc10.out; omega); intro v254 w11 ho hb hg hat; rw [← Ny253.out] at ho; replace HB:= Aside0.mk (hb); have HO255:= Aside0.mk (ho); clear HO_3; clear ho hb hg hat))
    go_meet
    case rel => exact ⟨_, (y253), H', ⟨by have := HK1.out; first | omega | exact Nat.le_refl _⟩, ⟨by (with_reducible repeat (first | apply Kd.R_alloc | apply Kd.R_drewN | apply Kd.R_drew)); exact HO255.out⟩, ⟨z16_⟩⟩
   case rest =>
    clear HC8 c6b0 c7 c7b0 c7b1
    obtain ⟨kq, x3_7, HA, HJ7, HO_3, HB⟩ := hcut
    cases kq with
    | zero => exact absurd HA.out (by simp [spec_l1Primes.j1])
    | succ kj7 =>
     have H := HA.out
     clear HA
     simp only [spec_l1Primes.j1] at H
     have H' := Aside0.mk H
     clear H
     go_wp2
     go_loopg [0] kj7 (fun kq v0 w' => ∃ (x0_3 : Int), v0 = .int .i64 x0_3 ∧ Aside0 (spec_l1Primes.l1 kq x0_3 x3_7 x4_1 = some r) ∧ Aside0 (kq ≤ kj7) ∧ Aside0 (Kd.R (Kd.int .i64) 3 w' w.heap.size (fun _ => True) u3 x3_7) ∧ Aside0 (Below w.heap.size w w'))
     case atStart => exact ⟨(x0_1), z32_, H', ⟨Nat.le_refl _⟩, ⟨z24_⟩, ⟨z16_⟩⟩
     case round =>
      clear H'
      obtain ⟨x0_3, rfl, HA, HK3, HO_3, HB⟩ := hrel
      cases gk with
      | zero => exact absurd HA.out (by simp [spec_l1Primes.l1])
      | succ k3 =>
       have H := HA.out
       clear HA
       simp only [spec_l1Primes.l1] at H
       obtain ⟨c12, H⟩ := jn_ H
       have c12b0 := beq_eq_false_iff_ne.mpr c12
       have c12b1 := bne_iff_ne.mpr c12
       by_cases c13 : (Int.tmod x0_3 x4_1) = 0
       · rw [if_pos c13] at H
         have c13b0 := beq_iff_eq.mpr c13
         have c13b1 := bne_eq_false_iff_eq.mpr c13
         clear c13
         have H' := Aside0.mk H
         clear H
         go_wp2
         go_roundg k3
         case measure => have := HK1.out; have := HJ7.out; have := HK3.out; omega
         case rel => exact ⟨(wrap64 (Int.tdiv x0_3 x4_1)), z32_, H', ⟨by have := HK1.out; have := HJ7.out; have := HK3.out; omega⟩, ⟨z24_⟩, ⟨z16_⟩⟩
       rw [if_neg c13] at H
       have c13b0 := beq_eq_false_iff_ne.mpr c13
       have c13b1 := bne_iff_ne.mpr c13
       have H' := Aside0.mk H
       clear H
       go_wp2
       go_roundg k3
       case measure => have := HK1.out; have := HJ7.out; have := HK3.out; omega
       case rel => exact ⟨(x0_3), (x3_7), (wrap64 (x4_1 + 1)), z32_, z32_, H', ⟨by have := HK1.out; have := HJ7.out; have := HK3.out; omega⟩, ⟨z24_⟩, ⟨z16_⟩⟩

end Go.Proofs.Ytdeahlommlgceaa.PFnNormal
